/- maps.one: a frame out of bytes. -/
import Derived.Test.YtohkbpnblkkdgaaMR
import Derived.Test.YtohkbpnblkkdgaaMO
namespace Go.Proofs.Ytohkbpnblkkdgaa
open Go.Vc
set_option maxRecDepth 100000
set_option linter.unusedSimpArgs false
set_option linter.unusedVariables false

/-- A frame just read: lists of its own. -/
structure FrmO (h : Heap) (base : Nat) (f : Frm) (vL vS : Value) : Prop where
  L : Own h base 25 3 vL f.L.length (flatV f.L)
  S : Own h base 25 3 vS f.S.length (flatV f.S)
  dj : ∀ k, vL.ownBlock = some k → ¬ vS.ownBlock = some k
def OneQ (h : Heap) (loc : List VT) (X : Frm × Nat × RS) (v : Value) (h' : Heap) : Prop := ∃ (f : Frm) (d : Nat) (vL vS : Value), v = .tuple #[.agg #[.int .i64 0, vL, vS], .int .i64 d] ∧
  FrmO h' h.size f vL vS ∧ (f.L.length ≤ max (loc.length + 3) 65535 ∧ f.S.length ≤ 65535 ∧ d ≤ 65535) ∧ (X.2.2.e = 0 → f.L = X.1.L ∧ f.S = X.1.S ∧ d = X.2.1)
theorem FrmO.fr {S : Nat → Prop} {h h' : Heap} {base : Nat} {f : Frm} {vL vS : Value} (H : FrmO h base f vL vS) (hf : Fr S h h') (hS : ∀ k, vL.ownBlock = some k ∨ vS.ownBlock = some k → ¬ S k) : FrmO h' base f vL vS :=
  ⟨H.L.fr hf fun k hk => hS k (.inl hk), H.S.fr hf fun k hk => hS k (.inr hk), H.dj⟩
/-- While a frame is read: the reader, the frame, the result. -/
structure FrD (h hc : Heap) (g rq fq : Nat) (l : List UInt8) (s : RS) (f : Frm) (vL vS : Value) : Prop where
  F : Fr (fun k => k = g) h hc
  R : Rdr hc g l s
  bq : hc[fq]? = some (.cells #[.int .i64 0, vL, vS] 35 (0, 0))
  br : hc[rq]? = some (.cells #[.int .i64 0, .slice none 0 0, .slice none 0 0] 35 (0, 0))
  O : FrmO hc h.size f vL vS
  hrq : h.size ≤ rq
  hfq : h.size ≤ fq
  hne : rq ≠ fq
section
variable {h hc h' : Heap} {g rq fq : Nat} {l : List UInt8} {s s' : RS} {f : Frm} {vL vS : Value} {loc : List VT}
theorem FrD.gr (D : FrD h hc g rq fq l s f vL vS) : rq ≠ g := by
  intro e
  have h1 := D.br
  have h2 := D.R.1
  rw [e, h2] at h1
  simp only [Option.some.injEq, Obj.cells.injEq] at h1
  exact absurd h1.2.1 (by decide)
theorem FrD.gf (D : FrD h hc g rq fq l s f vL vS) : fq ≠ g := by
  intro e
  have h1 := D.bq
  have h2 := D.R.1
  rw [e, h2] at h1
  simp only [Option.some.injEq, Obj.cells.injEq] at h1
  exact absurd h1.2.1 (by decide)
theorem FrD.step (D : FrD h hc g rq fq l s f vL vS) (f1 : Fr (fun k => k = g) hc h') (R1 : Rdr h' g l s') : FrD h h' g rq fq l s' f vL vS := by
  refine ⟨Fr.trans D.F f1 (fun _ _ h => h) (fun _ _ h => h), R1, Fr_blk f1 D.bq D.gf, Fr_blk f1 D.br D.gr, D.O.fr f1 ?_, D.hrq, D.hfq, D.hne⟩
  rintro k (hk | hk) hs
  · subst hs; exact Own_ne D.O.L D.R.1 (by decide) hk
  · subst hs; exact Own_ne D.O.S D.R.1 (by decide) hk
theorem FrD.c1 (D : FrD h hc g rq fq l s f vL vS) : cellAt hc ⟨fq, 1, none⟩ = some vL := by rw [cellAt_of D.bq]; rfl
theorem FrD.c2 (D : FrD h hc g rq fq l s f vL vS) : cellAt hc ⟨fq, 2, none⟩ = some vS := by rw [cellAt_of D.bq]; rfl
theorem FrD.nfz (D : FrD h hc g rq fq l s f vL vS) (o : Nat) : frozenAt hc ⟨fq, o, none⟩ = false := by simp [frozenAt, D.bq]
theorem FrD.own (D : FrD h hc g rq fq l s f vL vS) {base e n : Nat} {v : Value} {xs : List Value} {u : Value} {o : Nat} (H : Own hc base e 3 v n xs) (he : e = 25) : Own (setAt hc ⟨fq, o, none⟩ u) base e 3 v n xs := by
  refine H.fr (Fr.set (S := fun k => k = fq) _ _ _ fun _ => rfl) fun k hk hs => ?_
  subst hs
  exact Own_ne H D.bq (by rw [he]; decide) hk
theorem FrD.setS (D : FrD h hc g rq fq l s f vL vS) {S' : List VT} {v : Value} (hO : Own hc h.size 25 3 v S'.length (flatV S')) (hd : ∀ k, vL.ownBlock = some k → ¬ v.ownBlock = some k) :
    FrD h (setAt hc ⟨fq, 2, none⟩ v) g rq fq l s ⟨0, f.L, S'⟩ vL v := by
  have f1 : Fr (fun k => k = fq) hc (setAt hc ⟨fq, 2, none⟩ v) := Fr.set (S := fun k => k = fq) _ _ _ fun _ => rfl
  have h1 := D.hfq
  exact ⟨Fr.trans D.F f1 (fun _ _ h => h) (fun k hk hs => by omega), D.R.fr f1 (fun e => D.gf e.symm), setAt_get (o := 2) D.bq v, Fr_blk f1 D.br D.hne, ⟨D.own D.O.L rfl, D.own hO rfl, hd⟩, D.hrq, D.hfq, D.hne⟩
theorem FrD.setL (D : FrD h hc g rq fq l s f vL vS) {L' : List VT} {v : Value} (hO : Own hc h.size 25 3 v L'.length (flatV L')) (hd : ∀ k, v.ownBlock = some k → ¬ vS.ownBlock = some k) :
    FrD h (setAt hc ⟨fq, 1, none⟩ v) g rq fq l s ⟨0, L', f.S⟩ v vS := by
  have f1 : Fr (fun k => k = fq) hc (setAt hc ⟨fq, 1, none⟩ v) := Fr.set (S := fun k => k = fq) _ _ _ fun _ => rfl
  have h1 := D.hfq
  exact ⟨Fr.trans D.F f1 (fun _ _ h => h) (fun k hk hs => by omega), D.R.fr f1 (fun e => D.gf e.symm), setAt_get (o := 1) D.bq v, Fr_blk f1 D.br D.hne, ⟨D.own hO rfl, D.own D.O.S rfl, hd⟩, D.hrq, D.hfq, D.hne⟩
theorem FrD.app {L0 L' : List VT} {v : Value} (D : FrD h hc g rq fq l s ⟨0, L0, []⟩ vL (.slice none 0 0)) (fr : Fr (fun k => vL.ownBlock = some k) hc h') (own : Own h' h.size 25 3 v L'.length (flatV L')) :
    cellAt h' ⟨fq, 1, none⟩ = some vL ∧ frozenAt h' ⟨fq, 1, none⟩ = false ∧ FrD h (setAt h' ⟨fq, 1, none⟩ v) g rq fq l s ⟨0, L', []⟩ v (.slice none 0 0) := by
  have bq := Fr_blk fr D.bq (Own_ne D.O.L D.bq (by decide))
  have br := Fr_blk fr D.br (Own_ne D.O.L D.br (by decide))
  have R := D.R.fr fr (Own_ne D.O.L D.R.1 (by decide))
  have h1 := D.hfq
  have f1 : Fr (fun k => k = fq) h' (setAt h' ⟨fq, 1, none⟩ v) := Fr.set (S := fun k => k = fq) _ _ _ fun _ => rfl
  refine ⟨by rw [cellAt_of bq]; rfl, by simp [frozenAt, bq], Fr.trans (Fr.trans D.F fr (fun _ _ h => h) (fun k hk hs => by have := D.O.L.lt k hs; omega)) f1 (fun _ _ h => h) (fun k hk hs => by omega), R.fr f1 (fun e => D.gf e.symm), setAt_get (o := 1) bq v, Fr_blk f1 br D.hne,
    ⟨own.fr f1 fun k hk hs => by subst hs; exact Own_ne own bq (by decide) hk, Own.nil, fun k _ hs => by simp [Value.ownBlock] at hs⟩, D.hrq, D.hfq, D.hne⟩
theorem FrD.lit (D : FrD h hc g rq fq l s f vL vS) : ld Try.prog 35 ⟨fq, 0, none⟩ hc = some (.agg #[.int .i64 0, vL, vS]) := ld_agg T.ag_35 (Rd_block (vs := [.int .i64 0, vL, vS]) D.bq) rfl
theorem FrD.one (D : FrD h hc g rq fq l s f vL vS) : ∀ u ∈ (Value.agg #[.int .i64 0, vL, vS]).cells.toList, oneCell u = true := by
  intro u hu
  obtain ⟨_, a1, c1, rfl, _⟩ := D.O.L.slN
  obtain ⟨_, a2, c2, rfl, _⟩ := D.O.S.slN
  simp [Value.cells] at hu
  rcases hu with rfl | rfl | rfl <;> rfl
theorem FrD.fin (D : FrD h hc g rq fq l s f vL vS) {h10 : Heap} (f10 : Fr (fun k => k = rq) hc h10) (b10 : h10[rq]? = some (.cells (Value.agg #[.int .i64 0, vL, vS]).cells 35 (0, 0))) {Y : Frm × Nat × RS} {d : Nat} (hY : Y.2.2 = s)
    (hb : f.L.length ≤ max (loc.length + 3) 65535 ∧ f.S.length ≤ 65535 ∧ d ≤ 65535) (hX : Y.2.2.e = 0 → f.L = Y.1.L ∧ f.S = Y.1.S ∧ d = Y.2.1) :
    ld Try.prog 35 ⟨rq, 0, none⟩ h10 = some (.agg #[.int .i64 0, vL, vS]) ∧ Fr (fun k => k = g) h h10 ∧ Rdr h10 g l Y.2.2 ∧ OneQ h loc Y (.tuple #[.agg #[.int .i64 0, vL, vS], .int .i64 d]) h10 := by
  have h1 := D.hrq
  refine ⟨ld_agg T.ag_35 (Rd_block (vs := [.int .i64 0, vL, vS]) b10) rfl, Fr.trans D.F f10 (fun _ _ h => h) (fun k hk hs => by omega), ?_, f, d, vL, vS, rfl, D.O.fr f10 ?_, hb, hX⟩
  · rw [hY]; exact D.R.fr f10 (fun e => D.gr e.symm)
  · rintro k (hk | hk) hs
    · subst hs; exact Own_ne D.O.L D.br (by decide) hk
    · subst hs; exact Own_ne D.O.S D.br (by decide) hk
end
section
variable {h0 h : Heap} {g : Nat} {l : List UInt8} {s : RS} {p : List Cst} {vp : Value}
set_option maxHeartbeats 8000000 in
theorem one_any (loc : List VT) (vloc : Value) {bx : Nat} (hl : l.length ≤ 1073741824) (hx0 : Ext h0 h) (hg : h0.size ≤ g) (hp : SlN h0 5 vp p.length (flatS p)) (hpf : ∀ c ∈ p, c.Fit) (H : Rdr h g l s)
    (hs : Own h bx 25 3 vloc loc.length (flatV loc)) (hlen : loc.length ≤ 1073741824) :
    HCalls Try.prog 26 #[.pointer (some ⟨g, 0, none⟩), vp, vloc] h fun v h' => Fr (fun k => k = g) h h' ∧ Rdr h' g l (frmD p l loc s).2.2 ∧ OneQ h loc (frmD p l loc s) v h' := by
  refine C.maps_one_calls (args := [.pointer (some ⟨g, 0, none⟩), vp, vloc]) rfl ?_
  generalize hY : frmD p l loc s = Y
  have hp' := hp
  obtain ⟨_, ap, cp, rfl, _⟩ := hp'
  obtain ⟨_, al, cl, rfl, _⟩ := hs.slN
  unfold frmD at hY
  simp only at hY
  simp (disch := first | omega | assumption) only [C.maps_one_gos, vs, Go.Vc.vk, T.ts, ↓reduceIte, Nat.reduceEqDiff, reduceCtorEq, Nat.reduceLeDiff, Nat.reducePow, Int.reducePow, Int.reduceToNat, Nat.reduceAdd]
  refine eff_alloc_z T.zr_35 ?_
  have e1 : Ext h (h.push (.cells #[.int .i64 0, .slice none 0 0, .slice none 0 0] 35)) := Ext.push _ _
  have b1 : (h.push (.cells #[.int .i64 0, .slice none 0 0, .slice none 0 0] 35))[h.size]? = some (.cells #[.int .i64 0, .slice none 0 0, .slice none 0 0] 35 (0, 0)) := by simp
  have R1 := H.fr e1 id
  have hrg : h.size ≠ g := by have := H.lt; omega
  have hs1 := hs.ext e1
  generalize h.push (.cells #[.int .i64 0, .slice none 0 0, .slice none 0 0] 35) = h1 at *
  obtain ⟨rq, hrq⟩ : ∃ r, r = h.size := ⟨_, rfl⟩
  rw [← hrq] at b1 hrg ⊢
  have hrq' : h.size ≤ rq := by omega
  simp (disch := first | omega | assumption) only [C.maps_one_gos, vs, Go.Vc.vk, T.ts, ↓reduceIte, Nat.reduceEqDiff, reduceCtorEq, Nat.reduceLeDiff, Nat.reducePow, Int.reducePow, Int.reduceToNat, Nat.reduceAdd]
  refine eff_call_of ?_
  simp (disch := first | omega | assumption) only [C.maps_one_gos, vs, Go.Vc.vk, T.ts, ↓reduceIte, Nat.reduceEqDiff, reduceCtorEq, Nat.reduceLeDiff, Nat.reducePow, Int.reducePow, Int.reduceToNat, Nat.reduceAdd]
  refine (at_any R1).mono ?_
  rintro v2 h2 ⟨rfl, rfl⟩
  simp (disch := first | omega | assumption) only [C.maps_one_gos, vs, Go.Vc.vk, T.ts, ↓reduceIte, Nat.reduceEqDiff, reduceCtorEq, Nat.reduceLeDiff, Nat.reducePow, Int.reducePow, Int.reduceToNat, Nat.reduceAdd]
  refine eff_call_of ?_
  simp (disch := first | omega | assumption) only [C.maps_one_gos, vs, Go.Vc.vk, T.ts, ↓reduceIte, Nat.reduceEqDiff, reduceCtorEq, Nat.reduceLeDiff, Nat.reducePow, Int.reducePow, Int.reduceToNat, Nat.reduceAdd]
  refine (num_any 1 hl (by omega) R1).mono ?_
  rintro v3 h3 ⟨f3, R3, rfl⟩
  have b3 := Fr_blk f3 b1 hrg
  have hs3 := hs1.fr f3 fun k hk hs => by subst hs; exact Own_ne hs1 R1.1 (by decide) hk
  have F3 : Fr (fun k => k = g) h h3 := Fr.trans e1 f3 (fun _ _ h => h.elim) (fun _ _ h => h)
  have ht := numS_lt (l := l) (n := 1) (s := s)
  simp only [Nat.reducePow] at ht
  generalize numS l 1 s = o at *
  obtain ⟨t, s2⟩ := o
  simp only at R3 ht hY
  clear f3 hs1 b1 R1 e1
  simp (disch := first | omega | assumption) only [C.maps_one_gos, vs, Go.Vc.vk, T.ts, ↓reduceIte, Nat.reduceEqDiff, reduceCtorEq, Nat.reduceLeDiff, Nat.reducePow, Int.reducePow, Int.reduceToNat, Nat.reduceAdd]
  refine eff_call_of ?_
  simp (disch := first | omega | assumption) only [C.maps_one_gos, vs, Go.Vc.vk, T.ts, ↓reduceIte, Nat.reduceEqDiff, reduceCtorEq, Nat.reduceLeDiff, Nat.reducePow, Int.reducePow, Int.reduceToNat, Nat.reduceAdd]
  refine (clone_any loc _ h3 hs3.slN hlen).mono ?_
  rintro v4 h4 ⟨x4, own4⟩
  have own4' := own4.mono F3.size
  have R4 := R3.fr x4 id
  have b4 := Fr_blk x4 b3 id
  have F4 := Fr.trans F3 x4 (fun _ _ h => h) (fun _ _ h => h.elim)
  obtain ⟨_, a4, c4, rfl, _⟩ := own4.slN
  clear own4 hs3 R3 b3 F3 x4 hs
  simp (disch := first | omega | assumption) only [C.maps_one_gos, vs, Go.Vc.vk, T.ts, ↓reduceIte, Nat.reduceEqDiff, reduceCtorEq, Nat.reduceLeDiff, Nat.reducePow, Int.reducePow, Int.reduceToNat, Nat.reduceAdd]
  refine eff_alloc_z T.zr_35 ?_
  simp (disch := first | omega | assumption) only [C.maps_one_gos, vs, Go.Vc.vk, T.ts, ↓reduceIte, Nat.reduceEqDiff, reduceCtorEq, Nat.reduceLeDiff, Nat.reducePow, Int.reducePow, Int.reduceToNat, Nat.reduceAdd]
  refine eff_store_new_z T.zr_35 rfl rfl rfl (by simp [Value.cells, oneCell]) rfl ?_
  intro h5 x5 hlt5 hrd5 b5
  have hrq4 : rq < h4.size := (Array.getElem?_eq_some_iff.1 b4).1
  have D : FrD h h5 g rq h4.size l s2 ⟨0, loc, []⟩ (.slice a4 loc.length c4) (.slice none 0 0) := ⟨Fr.trans F4 x5 (fun _ _ h => h) (fun _ _ h => h.elim), R4.fr x5 id, b5, Fr_blk x5 b4 id, ⟨own4'.ext x5, Own.nil, fun k hk hs => by simp [Value.ownBlock] at hs⟩, hrq', F4.size, by omega⟩
  have X5 : Ext h0 h5 := Fr.trans hx0 D.F (fun _ _ h => h) (fun k hk hs => by omega)
  generalize h4.size = fq at *
  clear own4' R4 b4 F4 x5 hlt5 hrd5 b5 hrq4
  have hpl := H.2
  obtain ⟨hclc⟩ : Nonempty (loc.length ≤ c4) := ⟨D.O.L.capOk⟩
  have n64 : ∀ x : Nat, ¬ t < x → ¬ (t : Int) < (x : Int) := fun x hx => by omega
  by_cases t64 : t < 64
  · rw [if_pos t64] at hY
    have ha : (t : Int) < 64 := by omega
    have D9 := D
    simp (disch := first | omega | assumption) only [C.maps_one_gos, vs, Go.Vc.vk, T.ts, ↓reduceIte, Nat.reduceEqDiff, reduceCtorEq, Nat.reduceLeDiff, Nat.reducePow, Int.reducePow, Int.reduceToNat, Nat.reduceAdd, ha]
    simp (disch := first | omega | assumption) only [C.maps_one_gos, vs, Go.Vc.vk, T.ts, ↓reduceIte, Nat.reduceEqDiff, reduceCtorEq, Nat.reduceLeDiff, Nat.reducePow, Int.reducePow, Int.reduceToNat, Nat.reduceAdd, D9.lit]
    refine eff_storeN_z T.zr_35 rfl rfl rfl D9.one D9.br rfl ?_
    intro h10 f10 b10
    obtain ⟨hld, h11⟩ := D9.fin (loc := loc) f10 b10 (Y := Y) (d := t) (by rw [← hY]) (⟨by simp only; omega, by simp, by omega⟩) (fun _ => by rw [← hY]; exact ⟨rfl, rfl, rfl⟩)
    simp (disch := first | omega | assumption) only [C.maps_one_gos, vs, Go.Vc.vk, T.ts, ↓reduceIte, Nat.reduceEqDiff, reduceCtorEq, Nat.reduceLeDiff, Nat.reducePow, Int.reducePow, Int.reduceToNat, Nat.reduceAdd, hld]
    exact h11
  rw [if_neg t64] at hY
  have m64 : ¬ (t : Int) < 64 := by omega
  by_cases t128 : t < 128
  · rw [if_pos t128] at hY
    have ha : (t : Int) < 128 := by omega
    have hd : (t : Int) - 64 = ((t - 64 : Nat) : Int) := by omega
    simp (disch := first | omega | assumption) only [C.maps_one_gos, vs, Go.Vc.vk, T.ts, ↓reduceIte, Nat.reduceEqDiff, reduceCtorEq, Nat.reduceLeDiff, Nat.reducePow, Int.reducePow, Int.reduceToNat, Nat.reduceAdd, m64, ha]
    refine eff_call_of ?_
    simp (disch := first | omega | assumption) only [C.maps_one_gos, vs, Go.Vc.vk, T.ts, ↓reduceIte, Nat.reduceEqDiff, reduceCtorEq, Nat.reduceLeDiff, Nat.reducePow, Int.reducePow, Int.reduceToNat, Nat.reduceAdd]
    refine (values_any 1 hl (by omega) X5 hg hp hpf D.R).mono ?_
    rintro v6 h6 ⟨f6, R6, xs, ow, hxl, hxe⟩
    have D6 := D.step f6 R6
    obtain ⟨_, a6, c6, rfl, _⟩ := ow.slN
    simp (disch := first | omega | assumption) only [C.maps_one_gos, vs, Go.Vc.vk, T.ts, ↓reduceIte, Nat.reduceEqDiff, reduceCtorEq, Nat.reduceLeDiff, Nat.reducePow, Int.reducePow, Int.reduceToNat, Nat.reduceAdd]
    refine eff_store1_z T.zr_23 rfl rfl rfl rfl rfl D6.c2 (D6.nfz 2) ?_
    have D9 := D6.setS (ow.mono D.F.size) (fun k hk hs => by have h1 := D.O.L.lt k hk; have h2 := ow.lt k hs; omega)
    generalize setAt h6 ⟨fq, 2, none⟩ _ = h9 at *
    simp (disch := first | omega | assumption) only [C.maps_one_gos, vs, Go.Vc.vk, T.ts, ↓reduceIte, Nat.reduceEqDiff, reduceCtorEq, Nat.reduceLeDiff, Nat.reducePow, Int.reducePow, Int.reduceToNat, Nat.reduceAdd]
    simp (disch := first | omega | assumption) only [C.maps_one_gos, vs, Go.Vc.vk, T.ts, ↓reduceIte, Nat.reduceEqDiff, reduceCtorEq, Nat.reduceLeDiff, Nat.reducePow, Int.reducePow, Int.reduceToNat, Nat.reduceAdd, D9.lit, hd]
    refine eff_storeN_z T.zr_35 rfl rfl rfl D9.one D9.br rfl ?_
    intro h10 f10 b10
    obtain ⟨hld, h11⟩ := D9.fin (loc := loc) f10 b10 (Y := Y) (d := t - 64) (by rw [← hY]) (⟨by simp only; omega, by simp only; omega, by omega⟩) (fun he => by rw [← hY] at he ⊢; exact ⟨rfl, hxe he, rfl⟩)
    simp (disch := first | omega | assumption) only [C.maps_one_gos, vs, Go.Vc.vk, T.ts, ↓reduceIte, Nat.reduceEqDiff, reduceCtorEq, Nat.reduceLeDiff, Nat.reducePow, Int.reducePow, Int.reduceToNat, Nat.reduceAdd, hld]
    exact h11
  rw [if_neg t128] at hY
  have m128 : ¬ (t : Int) < 128 := by omega
  by_cases t247 : t < 247
  · rw [if_pos t247] at hY
    have ha : (t : Int) < 247 := by omega
    simp (disch := first | omega | assumption) only [C.maps_one_gos, vs, Go.Vc.vk, T.ts, ↓reduceIte, Nat.reduceEqDiff, reduceCtorEq, Nat.reduceLeDiff, Nat.reducePow, Int.reducePow, Int.reduceToNat, Nat.reduceAdd, m64, m128, ha]
    refine eff_call_of ?_
    simp (disch := first | omega | assumption) only [C.maps_one_gos, vs, Go.Vc.vk, T.ts, ↓reduceIte, Nat.reduceEqDiff, reduceCtorEq, Nat.reduceLeDiff, Nat.reducePow, Int.reducePow, Int.reduceToNat, Nat.reduceAdd]
    refine (fail_any 17 s.p D.R).mono ?_
    rintro v6 h6 ⟨f6, R6⟩
    have D9 := D.step f6 R6
    simp (disch := first | omega | assumption) only [C.maps_one_gos, vs, Go.Vc.vk, T.ts, ↓reduceIte, Nat.reduceEqDiff, reduceCtorEq, Nat.reduceLeDiff, Nat.reducePow, Int.reducePow, Int.reduceToNat, Nat.reduceAdd]
    simp (disch := first | omega | assumption) only [C.maps_one_gos, vs, Go.Vc.vk, T.ts, ↓reduceIte, Nat.reduceEqDiff, reduceCtorEq, Nat.reduceLeDiff, Nat.reducePow, Int.reducePow, Int.reduceToNat, Nat.reduceAdd, D9.lit]
    refine eff_storeN_z T.zr_35 rfl rfl rfl D9.one D9.br rfl ?_
    intro h10 f10 b10
    obtain ⟨hld, h11⟩ := D9.fin (loc := loc) f10 b10 (Y := Y) (d := 0) (by rw [← hY]) (⟨by simp only; omega, by simp, by omega⟩) (fun he => by rw [← hY] at he; exact absurd he (failS_ne (by decide)))
    simp (disch := first | omega | assumption) only [C.maps_one_gos, vs, Go.Vc.vk, T.ts, ↓reduceIte, Nat.reduceEqDiff, reduceCtorEq, Nat.reduceLeDiff, Nat.reducePow, Int.reducePow, Int.reduceToNat, Nat.reduceAdd, hld]
    exact h11
  rw [if_neg t247] at hY
  have m247 : ¬ (t : Int) < 247 := by omega
  simp (disch := first | omega | assumption) only [C.maps_one_gos, vs, Go.Vc.vk, T.ts, ↓reduceIte, Nat.reduceEqDiff, reduceCtorEq, Nat.reduceLeDiff, Nat.reducePow, Int.reducePow, Int.reduceToNat, Nat.reduceAdd, m64, m128, m247]
  refine eff_call_of ?_
  simp (disch := first | omega | assumption) only [C.maps_one_gos, vs, Go.Vc.vk, T.ts, ↓reduceIte, Nat.reduceEqDiff, reduceCtorEq, Nat.reduceLeDiff, Nat.reducePow, Int.reducePow, Int.reduceToNat, Nat.reduceAdd]
  refine (num_any 2 hl (by omega) D.R).mono ?_
  rintro v6 h6 ⟨f6, R6, rfl⟩
  have D6 := D.step f6 R6
  have X6 : Ext h0 h6 := Fr.trans hx0 D6.F (fun _ _ h => h) (fun k hk hs => by omega)
  have hdd := numS_lt (l := l) (n := 2) (s := s2)
  simp only [Nat.reducePow] at hdd
  have hsz : h.size ≤ h6.size := D6.F.size
  clear D f6 R6 X5
  generalize numS l 2 s2 = o at *
  obtain ⟨dd, s3⟩ := o
  simp only at D6 hY hdd
  rcases Classical.em (t = 247) with e247 | e247
  case' inl =>
    rw [if_pos e247] at hY
    have ha : (t : Int) = 247 := by omega
    simp (disch := first | omega | assumption) only [C.maps_one_gos, vs, Go.Vc.vk, T.ts, ↓reduceIte, Nat.reduceEqDiff, reduceCtorEq, Nat.reduceLeDiff, Nat.reducePow, Int.reducePow, Int.reduceToNat, Nat.reduceAdd, eq_true ha]
    refine eff_call_of ?_
    simp (disch := first | omega | assumption) only [C.maps_one_gos, vs, Go.Vc.vk, T.ts, ↓reduceIte, Nat.reduceEqDiff, reduceCtorEq, Nat.reduceLeDiff, Nat.reducePow, Int.reducePow, Int.reduceToNat, Nat.reduceAdd]
    refine (values_any 1 hl (by omega) X6 hg hp hpf D6.R).mono ?_
    rintro v7 h7 ⟨f7, R7, xs, ow, hxl, hxe⟩
    have D7 := D6.step f7 R7
    obtain ⟨_, a6, c6, rfl, _⟩ := ow.slN
    simp (disch := first | omega | assumption) only [C.maps_one_gos, vs, Go.Vc.vk, T.ts, ↓reduceIte, Nat.reduceEqDiff, reduceCtorEq, Nat.reduceLeDiff, Nat.reducePow, Int.reducePow, Int.reduceToNat, Nat.reduceAdd]
    refine eff_store1_z T.zr_23 rfl rfl rfl rfl rfl D7.c2 (D7.nfz 2) ?_
    have D9 := D7.setS (ow.mono hsz) (fun k hk hs => by have h1 := D6.O.L.lt k hk; have h2 := ow.lt k hs; omega)
    generalize setAt h7 ⟨fq, 2, none⟩ _ = h9 at *
    obtain ⟨L9, hL9⟩ : ∃ L9, L9 = loc := ⟨_, rfl⟩
    obtain ⟨S9, hS9⟩ : ∃ S9, S9 = xs := ⟨_, rfl⟩
    have hB : L9.length ≤ max (loc.length + 3) 65535 ∧ S9.length ≤ 65535 ∧ dd ≤ 65535 := ⟨by rw [hL9]; omega, by rw [hS9]; omega, by omega⟩
    have hX : Y.2.2.e = 0 → L9 = Y.1.L ∧ S9 = Y.1.S ∧ dd = Y.2.1 := fun he => by rw [← hY] at he ⊢; exact ⟨hL9, by rw [hS9]; exact hxe he, rfl⟩
    have hYs : Y.2.2 = (valsD p l 1 [] s3).2 := by rw [← hY]
    simp only [← hL9, ← hS9] at D9
  case' inr =>
    rw [if_neg e247] at hY
    have n247 : ¬ (t : Int) = 247 := by omega
    rcases Classical.em (t < 251) with e251 | e251
    case' inl =>
      rw [if_pos e251] at hY
      have ha : (t : Int) < 251 := by omega
      by_cases hk : loc.length + t < 251
      case pos =>
        rw [if_pos hk] at hY
        have hng : (loc.length : Int) - (251 - (t : Int)) < 0 := by omega
        simp (disch := first | omega | assumption) only [C.maps_one_gos, vs, Go.Vc.vk, T.ts, ↓reduceIte, Nat.reduceEqDiff, reduceCtorEq, Nat.reduceLeDiff, Nat.reducePow, Int.reducePow, Int.reduceToNat, Nat.reduceAdd, eq_false n247, ha, hng]
        refine eff_call_of ?_
        simp (disch := first | omega | assumption) only [C.maps_one_gos, vs, Go.Vc.vk, T.ts, ↓reduceIte, Nat.reduceEqDiff, reduceCtorEq, Nat.reduceLeDiff, Nat.reducePow, Int.reducePow, Int.reduceToNat, Nat.reduceAdd]
        refine (fail_any 17 s.p D6.R).mono ?_
        rintro v7 h7 ⟨f7, R7⟩
        have D9 := D6.step f7 R7
        simp (disch := first | omega | assumption) only [C.maps_one_gos, vs, Go.Vc.vk, T.ts, ↓reduceIte, Nat.reduceEqDiff, reduceCtorEq, Nat.reduceLeDiff, Nat.reducePow, Int.reducePow, Int.reduceToNat, Nat.reduceAdd]
        simp (disch := first | omega | assumption) only [C.maps_one_gos, vs, Go.Vc.vk, T.ts, ↓reduceIte, Nat.reduceEqDiff, reduceCtorEq, Nat.reduceLeDiff, Nat.reducePow, Int.reducePow, Int.reduceToNat, Nat.reduceAdd, D9.lit]
        refine eff_storeN_z T.zr_35 rfl rfl rfl D9.one D9.br rfl ?_
        intro h10 f10 b10
        obtain ⟨hld, h11⟩ := D9.fin (loc := loc) f10 b10 (Y := Y) (d := 0) (by rw [← hY]) (⟨by simp only; omega, by simp, by omega⟩) (fun he => by rw [← hY] at he; exact absurd he (failS_ne (by decide)))
        simp (disch := first | omega | assumption) only [C.maps_one_gos, vs, Go.Vc.vk, T.ts, ↓reduceIte, Nat.reduceEqDiff, reduceCtorEq, Nat.reduceLeDiff, Nat.reducePow, Int.reducePow, Int.reduceToNat, Nat.reduceAdd, hld]
        exact h11
      rw [if_neg hk] at hY
      have hng : ¬ ((loc.length + t - 251 : Nat) : Int) < 0 := by omega
      have hnn : (loc.length : Int) - (251 - (t : Int)) = ((loc.length + t - 251 : Nat) : Int) := by omega
      have hcp : ((loc.length + t - 251 : Nat) : Int) ≤ (c4 : Int) := by omega
      simp (disch := first | omega | assumption) only [C.maps_one_gos, vs, Go.Vc.vk, T.ts, ↓reduceIte, Nat.reduceEqDiff, reduceCtorEq, Nat.reduceLeDiff, Nat.reducePow, Int.reducePow, Int.reduceToNat, Nat.reduceAdd, eq_false n247, ha, hng, hnn, D6.c1, hcp, Int.toNat_natCast]
      have otk := (D6.O.L.take (k := loc.length + t - 251) (by omega))
      have hlk : (loc.take (loc.length + t - 251)).length = loc.length + t - 251 := by rw [List.length_take]; omega
      refine eff_store1_z T.zr_23 rfl rfl rfl rfl rfl D6.c1 (D6.nfz 1) ?_
      have D9 := D6.setL (L' := loc.take (loc.length + t - 251)) (Own_cast otk hlk.symm (by rw [flatV_take])) (fun k _ hs => by simp [Value.ownBlock] at hs)
      generalize setAt h6 ⟨fq, 1, none⟩ _ = h9 at *
      obtain ⟨L9, hL9⟩ : ∃ L9, L9 = loc.take (loc.length + t - 251) := ⟨_, rfl⟩
      obtain ⟨S9, hS9⟩ : ∃ S9 : List VT, S9 = [] := ⟨_, rfl⟩
      have hB : L9.length ≤ max (loc.length + 3) 65535 ∧ S9.length ≤ 65535 ∧ dd ≤ 65535 := ⟨by rw [hL9]; omega, by rw [hS9]; simp, by omega⟩
      have hX : Y.2.2.e = 0 → L9 = Y.1.L ∧ S9 = Y.1.S ∧ dd = Y.2.1 := fun he => by rw [← hY]; exact ⟨hL9, hS9, rfl⟩
      have hYs : Y.2.2 = s3 := by rw [← hY]
      simp only [← hL9, ← hS9] at D9
    case' inr =>
      rw [if_neg e251] at hY
      have n251 : ¬ (t : Int) < 251 := by omega
      by_cases t255 : t < 255
      case' pos =>
        rw [if_pos t255] at hY
        have ha : (t : Int) < 255 := by omega
        have hnn : (t : Int) - 251 = ((t - 251 : Nat) : Int) := by omega
        simp (disch := first | omega | assumption) only [C.maps_one_gos, vs, Go.Vc.vk, T.ts, ↓reduceIte, Nat.reduceEqDiff, reduceCtorEq, Nat.reduceLeDiff, Nat.reducePow, Int.reducePow, Int.reduceToNat, Nat.reduceAdd, eq_false n247, n251, ha, hnn, D6.c1]
        refine eff_call_of ?_
        simp (disch := first | omega | assumption) only [C.maps_one_gos, vs, Go.Vc.vk, T.ts, ↓reduceIte, Nat.reduceEqDiff, reduceCtorEq, Nat.reduceLeDiff, Nat.reducePow, Int.reducePow, Int.reduceToNat, Nat.reduceAdd, D6.c1, hnn]
        refine (values_any (t - 251) hl (by omega) X6 hg hp hpf D6.R).mono ?_
        rintro v7 h7 ⟨f7, R7, xs, ow, hxl, hxe⟩
        have D7 := D6.step f7 R7
        generalize valsD p l (t - 251) [] s3 = o at *
        obtain ⟨v1, s5⟩ := o
        simp only at D7 hY hxe
        simp (disch := first | omega | assumption) only [C.maps_one_gos, vs, Go.Vc.vk, T.ts, ↓reduceIte, Nat.reduceEqDiff, reduceCtorEq, Nat.reduceLeDiff, Nat.reducePow, Int.reducePow, Int.reduceToNat, Nat.reduceAdd, D7.c1]
        refine eff_append_slN T.slT_23 rfl rfl D7.O.L ow.slN (flatV_one _) (by simp only; omega) (by simp only; omega) D7.F.size ?_
        intro v8 h8 own8 fr8
        have own8' : Own h8 h.size 25 3 v8 (loc ++ xs).length (flatV (loc ++ xs)) := Own_cast own8 (by simp) (by simp [flatV])
        obtain ⟨c8, z8, D9⟩ := D7.app fr8 own8'
        obtain ⟨_, a6, c6, rfl, _⟩ := own8.slN
        simp (disch := first | omega | assumption) only [C.maps_one_gos, vs, Go.Vc.vk, T.ts, ↓reduceIte, Nat.reduceEqDiff, reduceCtorEq, Nat.reduceLeDiff, Nat.reducePow, Int.reducePow, Int.reduceToNat, Nat.reduceAdd]
        refine eff_store1_z T.zr_23 rfl rfl rfl rfl rfl c8 z8 ?_
        generalize setAt h8 ⟨fq, 1, none⟩ _ = h9 at *
        obtain ⟨L9, hL9⟩ : ∃ L9, L9 = loc ++ xs := ⟨_, rfl⟩
        obtain ⟨S9, hS9⟩ : ∃ S9 : List VT, S9 = [] := ⟨_, rfl⟩
        have hB : L9.length ≤ max (loc.length + 3) 65535 ∧ S9.length ≤ 65535 ∧ dd ≤ 65535 := ⟨by rw [hL9, List.length_append]; omega, by rw [hS9]; simp, by omega⟩
        have hX : Y.2.2.e = 0 → L9 = Y.1.L ∧ S9 = Y.1.S ∧ dd = Y.2.1 := fun he => by rw [← hY] at he ⊢; exact ⟨by rw [hL9]; exact congrArg (loc ++ ·) (hxe he), hS9, rfl⟩
        have hYs : Y.2.2 = s5 := by rw [← hY]
        simp only [← hL9, ← hS9] at D9
      case' neg =>
        rw [if_neg t255] at hY
        have m255 : ¬ (t : Int) < 255 := by omega
        simp (disch := first | omega | assumption) only [C.maps_one_gos, vs, Go.Vc.vk, T.ts, ↓reduceIte, Nat.reduceEqDiff, reduceCtorEq, Nat.reduceLeDiff, Nat.reducePow, Int.reducePow, Int.reduceToNat, Nat.reduceAdd, eq_false n247, n251, m255]
        refine eff_call_of ?_
        simp (disch := first | omega | assumption) only [C.maps_one_gos, vs, Go.Vc.vk, T.ts, ↓reduceIte, Nat.reduceEqDiff, reduceCtorEq, Nat.reduceLeDiff, Nat.reducePow, Int.reducePow, Int.reduceToNat, Nat.reduceAdd]
        refine (num_any 2 hl (by omega) D6.R).mono ?_
        rintro v7 h7 ⟨f7, R7, rfl⟩
        have D7 := D6.step f7 R7
        have hn1 := numS_lt (l := l) (n := 2) (s := s3)
        simp only [Nat.reducePow] at hn1
        generalize numS l 2 s3 = o at *
        obtain ⟨n1, s4⟩ := o
        simp only at D7 hY hn1
        have X7 : Ext h0 h7 := Fr.trans hx0 D7.F (fun _ _ h => h) (fun k hk hs => by omega)
        clear f7 R7
        simp (disch := first | omega | assumption) only [C.maps_one_gos, vs, Go.Vc.vk, T.ts, ↓reduceIte, Nat.reduceEqDiff, reduceCtorEq, Nat.reduceLeDiff, Nat.reducePow, Int.reducePow, Int.reduceToNat, Nat.reduceAdd]
        refine eff_call_of ?_
        simp (disch := first | omega | assumption) only [C.maps_one_gos, vs, Go.Vc.vk, T.ts, ↓reduceIte, Nat.reduceEqDiff, reduceCtorEq, Nat.reduceLeDiff, Nat.reducePow, Int.reducePow, Int.reduceToNat, Nat.reduceAdd]
        refine (values_any n1 hl (by omega) X7 hg hp hpf D7.R).mono ?_
        rintro v8 h8 ⟨f8, R8, xs, ow, hxl, hxe⟩
        have D8 := D7.step f8 R8
        generalize valsD p l n1 [] s4 = o at *
        obtain ⟨v1, s5⟩ := o
        simp only at D8 hY hxe
        have ow8 := ow.mono D7.F.size
        obtain ⟨_, a6, c6, rfl, _⟩ := ow.slN
        clear f8 R8 ow
        simp (disch := first | omega | assumption) only [C.maps_one_gos, vs, Go.Vc.vk, T.ts, ↓reduceIte, Nat.reduceEqDiff, reduceCtorEq, Nat.reduceLeDiff, Nat.reducePow, Int.reducePow, Int.reduceToNat, Nat.reduceAdd]
        refine eff_store1_z T.zr_23 rfl rfl rfl rfl rfl D8.c1 (D8.nfz 1) ?_
        have Da := D8.setL ow8 (fun k _ hs => by simp [Value.ownBlock] at hs)
        generalize setAt h8 ⟨fq, 1, none⟩ _ = ha at *
        clear D8 D7 X7 D6 X6 ow8
        simp (disch := first | omega | assumption) only [C.maps_one_gos, vs, Go.Vc.vk, T.ts, ↓reduceIte, Nat.reduceEqDiff, reduceCtorEq, Nat.reduceLeDiff, Nat.reducePow, Int.reducePow, Int.reduceToNat, Nat.reduceAdd]
        refine eff_call_of ?_
        simp (disch := first | omega | assumption) only [C.maps_one_gos, vs, Go.Vc.vk, T.ts, ↓reduceIte, Nat.reduceEqDiff, reduceCtorEq, Nat.reduceLeDiff, Nat.reducePow, Int.reducePow, Int.reduceToNat, Nat.reduceAdd]
        refine (num_any 2 hl (by omega) Da.R).mono ?_
        rintro vb hb ⟨fb, Rb, rfl⟩
        have Db := Da.step fb Rb
        have hn2 := numS_lt (l := l) (n := 2) (s := s5)
        simp only [Nat.reducePow] at hn2
        have he5 : (numS l 2 s5).2.e = 0 → s5.e = 0 := num_e
        generalize numS l 2 s5 = o at *
        obtain ⟨n2, s6⟩ := o
        simp only at Db hY hn2 he5
        have Xb : Ext h0 hb := Fr.trans hx0 Db.F (fun _ _ h => h) (fun k hk hs => by omega)
        clear fb Rb Da
        simp (disch := first | omega | assumption) only [C.maps_one_gos, vs, Go.Vc.vk, T.ts, ↓reduceIte, Nat.reduceEqDiff, reduceCtorEq, Nat.reduceLeDiff, Nat.reducePow, Int.reducePow, Int.reduceToNat, Nat.reduceAdd]
        refine eff_call_of ?_
        simp (disch := first | omega | assumption) only [C.maps_one_gos, vs, Go.Vc.vk, T.ts, ↓reduceIte, Nat.reduceEqDiff, reduceCtorEq, Nat.reduceLeDiff, Nat.reducePow, Int.reducePow, Int.reduceToNat, Nat.reduceAdd]
        refine (values_any n2 hl (by omega) Xb hg hp hpf Db.R).mono ?_
        rintro vc hc ⟨fc, Rc, ys, ow, hyl, hye⟩
        have Dc := Db.step fc Rc
        have he6 : (valsD p l n2 [] s6).2.e = 0 → s6.e = 0 := vals_e p l n2 [] s6
        generalize valsD p l n2 [] s6 = o at *
        obtain ⟨v2, s7⟩ := o
        simp only at Dc hY hye he6
        have owc := ow.mono Db.F.size
        obtain ⟨_, a7, c7, rfl, _⟩ := ow.slN
        simp (disch := first | omega | assumption) only [C.maps_one_gos, vs, Go.Vc.vk, T.ts, ↓reduceIte, Nat.reduceEqDiff, reduceCtorEq, Nat.reduceLeDiff, Nat.reducePow, Int.reducePow, Int.reduceToNat, Nat.reduceAdd]
        refine eff_store1_z T.zr_23 rfl rfl rfl rfl rfl Dc.c2 (Dc.nfz 2) ?_
        have D9 := Dc.setS owc (fun k hk hs => by have h1 := Db.O.L.lt k hk; have h2 := ow.lt k hs; omega)
        generalize setAt hc ⟨fq, 2, none⟩ _ = h9 at *
        clear Dc Db Xb owc ow
        obtain ⟨L9, hL9⟩ : ∃ L9, L9 = xs := ⟨_, rfl⟩
        obtain ⟨S9, hS9⟩ : ∃ S9 : List VT, S9 = ys := ⟨_, rfl⟩
        have hB : L9.length ≤ max (loc.length + 3) 65535 ∧ S9.length ≤ 65535 ∧ dd ≤ 65535 := ⟨by rw [hL9]; omega, by rw [hS9]; omega, by omega⟩
        have hX : Y.2.2.e = 0 → L9 = Y.1.L ∧ S9 = Y.1.S ∧ dd = Y.2.1 := fun he => by
          rw [← hY] at he ⊢
          exact ⟨by rw [hL9]; exact hxe (he5 (he6 he)), by rw [hS9]; exact hye he, rfl⟩
        have hYs : Y.2.2 = s7 := by rw [← hY]
        simp only [← hL9, ← hS9] at D9
  all_goals
    simp (disch := first | omega | assumption) only [C.maps_one_gos, vs, Go.Vc.vk, T.ts, ↓reduceIte, Nat.reduceEqDiff, reduceCtorEq, Nat.reduceLeDiff, Nat.reducePow, Int.reducePow, Int.reduceToNat, Nat.reduceAdd, D9.lit]
    refine eff_storeN_z T.zr_35 rfl rfl rfl D9.one D9.br rfl ?_
    intro h10 f10 b10
    obtain ⟨hld, h11⟩ := D9.fin (loc := loc) f10 b10 (Y := Y) (d := dd) hYs (hB) (hX)
    simp (disch := first | omega | assumption) only [C.maps_one_gos, vs, Go.Vc.vk, T.ts, ↓reduceIte, Nat.reduceEqDiff, reduceCtorEq, Nat.reduceLeDiff, Nat.reducePow, Int.reducePow, Int.reduceToNat, Nat.reduceAdd, hld]
    exact h11
end
end Go.Proofs.Ytohkbpnblkkdgaa
