/- jvmcoreref3's writing: numbers and attributes. -/
import Derived.Test.YtohkbpnblkkdgaaL3
import Derived.Test.YtohkbpnblkkdgaaCj
import Derived.Test.YtohkbpnblkkdgaaB1
namespace Go.Proofs.Ytohkbpnblkkdgaa
open Go.Vc
set_option maxRecDepth 100000
set_option linter.unusedSimpArgs false
set_option linter.unusedVariables false

abbrev FrG (g : Nat) (h h' : Heap) : Prop := Fr (fun k => k = g) h h'
theorem FrG.ext {g : Nat} {h h' : Heap} (x : Ext h h') : FrG g h h' := Fr.trans x (Ext.refl _) (fun _ _ h => h.elim) (fun _ _ h => h.elim)
theorem FrG.trans' {g : Nat} {a b c : Heap} (H : FrG g a b) (K : FrG g b c) : FrG g a c := Fr.trans H K (fun _ _ h => h) (fun _ _ h => h)
theorem FrG.refl' {g : Nat} (h : Heap) : FrG g h h := FrG.ext (Ext.refl _)
def RW (h0 h : Heap) (g : Nat) (cc : List Value) (e : Nat) : Prop :=
  h0.size ≤ g ∧ Ext h0 h ∧ cc.length = 9 ∧ h[g]? = some (.cells (cc ++ [Value.int .i64 (e : Int)]).toArray 94 (0, 0))
section
variable {h0 h : Heap} {g : Nat} {cc : List Value} {e : Nat}
theorem RW.ext {h' : Heap} (H : RW h0 h g cc e) (hx : Ext h h') : RW h0 h' g cc e := by
  obtain ⟨h1, h2, h5, h3⟩ := H
  exact ⟨h1, h2.trans hx, h5, Fr_blk hx h3 id⟩
theorem RW.lt (H : RW h0 h g cc e) : g < h.size := (Array.getElem?_eq_some_iff.1 H.2.2.2).1
theorem RW.fr {h' : Heap} (H : RW h0 h g cc e) (f : Fr (fun k => k ≠ g ∧ h0.size ≤ k) h h') : RW h0 h' g cc e := by
  obtain ⟨h1, h2, h5, h3⟩ := H
  exact ⟨h1, Fr.trans h2 f (fun _ _ h => h) (fun k hk hS => by have := hS.2; omega), h5, Fr_blk f h3 (fun h => h.1 rfl)⟩
theorem RW.ty (H : RW h0 h g cc e) {k : Nat} {cs : Array Value} {t : TypeId} {fz : Nat × Nat} (hb : h[k]? = some (.cells cs t fz)) (ht : t ≠ 94) : k ≠ g := by
  intro hk
  obtain ⟨_, _, _, h3⟩ := H
  rw [hk, h3] at hb
  simp only [Option.some.injEq, Obj.cells.injEq] at hb
  exact ht hb.2.1.symm
theorem rwV_err {cc : List Value} {e : Nat} (hl : cc.length = 9) : (cc ++ [Value.int .i64 (e : Int)]).toArray[9]? = some (.int .i64 (e : Int)) := by
  simp [List.getElem?_append, hl]
theorem rwV_at {cc : List Value} {e i : Nat} (hi : i < cc.length) : (cc ++ [Value.int .i64 (e : Int)]).toArray[i]? = cc[i]? := by
  simp [List.getElem?_append, hi]
theorem rwV_set {cc : List Value} {e q : Nat} (hl : cc.length = 9) : (cc ++ [Value.int .i64 (e : Int)]).toArray.setIfInBounds 9 (.int .i64 (q : Int)) = (cc ++ [Value.int .i64 (q : Int)]).toArray := by
  simp [List.set_append, hl]
theorem rwfail_any (q : Nat) (H : RW h0 h g cc e) :
    HCalls Try.prog 45 #[.pointer (some ⟨g, 0, none⟩), .int .i64 q] h fun _ h' => RW h0 h' g cc (thenE e q) ∧ FrG g h h' := by
  refine C.rw_fail_calls (args := [.pointer (some ⟨g, 0, none⟩), .int .i64 q]) rfl ?_
  obtain ⟨hg, x0, hl, hblk⟩ := H
  have c2 : cellAt h ⟨g, 9, none⟩ = some (.int .i64 (e : Int)) := by rw [cellAt_of hblk]; exact rwV_err hl
  by_cases he : e = 0
  · have he' : (e : Int) = 0 := by omega
    have ht : thenE e q = q := by unfold thenE; rw [if_pos he]
    rw [ht]
    simp (disch := first | omega | assumption) only [C.rw_fail_gos, T.tv, ↓reduceIte, Nat.reduceEqDiff, reduceCtorEq, Nat.reduceLeDiff, Nat.reducePow, Int.reducePow, Int.reduceToNat, Nat.reduceAdd, c2, eq_true he']
    refine eff_store1_z T.zr_27 rfl rfl rfl rfl rfl c2 (by simp [frozenAt, hblk]) ?_
    have b1 := setAt_get (o := 9) hblk (.int .i64 (q : Int))
    rw [rwV_set hl] at b1
    have f1 : Fr (fun k => k = g) h (setAt h ⟨g, 9, none⟩ (.int .i64 (q : Int))) := Fr.set (S := fun k => k = g) _ _ _ fun _ => rfl
    simp (disch := first | omega | assumption) only [C.rw_fail_gos, T.tv, ↓reduceIte, Nat.reduceEqDiff, reduceCtorEq, Nat.reduceLeDiff, Nat.reducePow, Int.reducePow, Int.reduceToNat, Nat.reduceAdd]
    exact ⟨⟨hg, Fr.trans x0 f1 (fun _ _ h => h) (fun k hk hS => by omega), hl, b1⟩, f1⟩
  · have he' : ¬ (e : Int) = 0 := by omega
    have ht : thenE e q = e := by unfold thenE; rw [if_neg he]
    rw [ht]
    simp (disch := first | omega | assumption) only [C.rw_fail_gos, T.tv, ↓reduceIte, Nat.reduceEqDiff, reduceCtorEq, Nat.reduceLeDiff, Nat.reducePow, Int.reducePow, Int.reduceToNat, Nat.reduceAdd, c2, eq_false he']
    exact ⟨⟨hg, x0, hl, hblk⟩, FrG.refl' _⟩
theorem rwnum_any (x : Int) (n : Nat) (hn : n = 2 ∨ n = 4) (H : RW h0 h g cc e) :
    HCalls Try.prog 47 #[.pointer (some ⟨g, 0, none⟩), .int .i64 x, .int .i64 n] h fun r h' => r = str (numP x n).1 ∧ RW h0 h' g cc (thenE e (numP x n).2) ∧ FrG g h h' := by
  refine C.rw_num_calls (args := [.pointer (some ⟨g, 0, none⟩), .int .i64 x, .int .i64 n]) rfl ?_
  obtain ⟨hw, hlt⟩ := atU_wrap x
  rcases hn with rfl | rfl
  · have hn : ((2 : Nat) : Int) = 2 := rfl
    have hP : numP x 2 = (bigS (atU x) 2, if x < 0 ∨ 65536 ≤ x then 12 else 0) := rfl
    have hsh : IntKind.i64.wrap (1 * 2 ^ (if (8 * (2 : Int)).toNat ≤ 64 then (8 * (2 : Int)).toNat else 64)) = 65536 := by decide
    have hsw : IntKind.i64.wrap (8 * (2 : Int)) = 8 * 2 := by decide
    rw [hP]
    simp only
    by_cases hok : x < 0 ∨ 65536 ≤ x
    case pos =>
      rw [if_pos hok]
      by_cases hneg : x < 0
      case' pos =>
        simp (disch := first | omega | assumption) only [C.rw_num_gos, T.tv, ↓reduceIte, Nat.reduceEqDiff, reduceCtorEq, Nat.reduceLeDiff, Nat.reducePow, Int.reducePow, Int.reduceToNat, Nat.reduceAdd, hneg, hn, hsw, hsh]
      case' neg =>
        have hbig : (65536 : Int) ≤ x := by omega
        simp (disch := first | omega | assumption) only [C.rw_num_gos, T.tv, ↓reduceIte, Nat.reduceEqDiff, reduceCtorEq, Nat.reduceLeDiff, Nat.reducePow, Int.reducePow, Int.reduceToNat, Nat.reduceAdd, hneg, hn, hsw, hsh, hbig]
      all_goals
        refine eff_callF rfl ((rwfail_any 12 H).mono ?_)
        rintro v9 h9 ⟨H9, K9⟩
        simp (disch := first | omega | assumption) only [C.rw_num_gos, T.tv, ↓reduceIte, Nat.reduceEqDiff, reduceCtorEq, Nat.reduceLeDiff, Nat.reducePow, Int.reducePow, Int.reduceToNat, Nat.reduceAdd, hw]
        refine eff_callF rfl ((rbig_any (atU x) 2 h9 hlt (by omega)).mono ?_)
        rintro v1 h1 ⟨x1, rfl⟩
        simp (disch := first | omega | assumption) only [C.rw_num_gos, T.tv, ↓reduceIte, Nat.reduceEqDiff, reduceCtorEq, Nat.reduceLeDiff, Nat.reducePow, Int.reducePow, Int.reduceToNat, Nat.reduceAdd]
        exact ⟨H9.ext x1, K9.trans' (FrG.ext x1)⟩
    case neg =>
      rw [if_neg hok, thenE_zero]
      have hneg : ¬ x < 0 := by omega
      have hbig : ¬ (65536 : Int) ≤ x := by omega
      simp (disch := first | omega | assumption) only [C.rw_num_gos, T.tv, ↓reduceIte, Nat.reduceEqDiff, reduceCtorEq, Nat.reduceLeDiff, Nat.reducePow, Int.reducePow, Int.reduceToNat, Nat.reduceAdd, hneg, hn, hsw, hsh, hbig, hw]
      refine eff_callF rfl ((rbig_any (atU x) 2 h hlt (by omega)).mono ?_)
      rintro v1 h1 ⟨x1, rfl⟩
      simp (disch := first | omega | assumption) only [C.rw_num_gos, T.tv, ↓reduceIte, Nat.reduceEqDiff, reduceCtorEq, Nat.reduceLeDiff, Nat.reducePow, Int.reducePow, Int.reduceToNat, Nat.reduceAdd]
      exact ⟨H.ext x1, FrG.ext x1⟩
  · have hn : ((4 : Nat) : Int) = 4 := rfl
    have hP : numP x 4 = (bigS (atU x) 4, if x < 0 ∨ 4294967296 ≤ x then 12 else 0) := rfl
    have hsh : IntKind.i64.wrap (1 * 2 ^ (if (8 * (4 : Int)).toNat ≤ 64 then (8 * (4 : Int)).toNat else 64)) = 4294967296 := by decide
    have hsw : IntKind.i64.wrap (8 * (4 : Int)) = 8 * 4 := by decide
    rw [hP]
    simp only
    by_cases hok : x < 0 ∨ 4294967296 ≤ x
    case pos =>
      rw [if_pos hok]
      by_cases hneg : x < 0
      case' pos =>
        simp (disch := first | omega | assumption) only [C.rw_num_gos, T.tv, ↓reduceIte, Nat.reduceEqDiff, reduceCtorEq, Nat.reduceLeDiff, Nat.reducePow, Int.reducePow, Int.reduceToNat, Nat.reduceAdd, hneg, hn, hsw, hsh]
      case' neg =>
        have hbig : (4294967296 : Int) ≤ x := by omega
        simp (disch := first | omega | assumption) only [C.rw_num_gos, T.tv, ↓reduceIte, Nat.reduceEqDiff, reduceCtorEq, Nat.reduceLeDiff, Nat.reducePow, Int.reducePow, Int.reduceToNat, Nat.reduceAdd, hneg, hn, hsw, hsh, hbig]
      all_goals
        refine eff_callF rfl ((rwfail_any 12 H).mono ?_)
        rintro v9 h9 ⟨H9, K9⟩
        simp (disch := first | omega | assumption) only [C.rw_num_gos, T.tv, ↓reduceIte, Nat.reduceEqDiff, reduceCtorEq, Nat.reduceLeDiff, Nat.reducePow, Int.reducePow, Int.reduceToNat, Nat.reduceAdd, hw]
        refine eff_callF rfl ((rbig_any (atU x) 4 h9 hlt (by omega)).mono ?_)
        rintro v1 h1 ⟨x1, rfl⟩
        simp (disch := first | omega | assumption) only [C.rw_num_gos, T.tv, ↓reduceIte, Nat.reduceEqDiff, reduceCtorEq, Nat.reduceLeDiff, Nat.reducePow, Int.reducePow, Int.reduceToNat, Nat.reduceAdd]
        exact ⟨H9.ext x1, K9.trans' (FrG.ext x1)⟩
    case neg =>
      rw [if_neg hok, thenE_zero]
      have hneg : ¬ x < 0 := by omega
      have hbig : ¬ (4294967296 : Int) ≤ x := by omega
      simp (disch := first | omega | assumption) only [C.rw_num_gos, T.tv, ↓reduceIte, Nat.reduceEqDiff, reduceCtorEq, Nat.reduceLeDiff, Nat.reducePow, Int.reducePow, Int.reduceToNat, Nat.reduceAdd, hneg, hn, hsw, hsh, hbig, hw]
      refine eff_callF rfl ((rbig_any (atU x) 4 h hlt (by omega)).mono ?_)
      rintro v1 h1 ⟨x1, rfl⟩
      simp (disch := first | omega | assumption) only [C.rw_num_gos, T.tv, ↓reduceIte, Nat.reduceEqDiff, reduceCtorEq, Nat.reduceLeDiff, Nat.reducePow, Int.reducePow, Int.reduceToNat, Nat.reduceAdd]
      exact ⟨H.ext x1, FrG.ext x1⟩
theorem nameR_none {p : List Cst} {name : List UInt8} (h : ∀ j, 1 ≤ j → j < p.length → hitN name (p.getD j Cst.zero) = false) : nameR p name = none := by
  unfold nameR
  rw [Option.map_eq_none_iff, List.findIdx?_eq_none_iff]
  intro x hx
  obtain ⟨j, hj, rfl⟩ := List.mem_iff_getElem.1 hx
  simp only [List.length_drop] at hj
  have := h (j + 1) (by omega) (by omega)
  have hj2 : j + 1 < p.length := by omega
  simp only [List.getElem_drop]
  simp only [List.getD_eq_getElem?_getD, List.getElem?_eq_getElem hj2, Option.getD_some] at this
  simpa [Nat.add_comm] using this
theorem nameR_some {p : List Cst} {name : List UInt8} {i : Nat} (h0 : 1 ≤ i) (hi : i < p.length) (h1 : hitN name (p.getD i Cst.zero) = true) (h : ∀ j, 1 ≤ j → j < i → hitN name (p.getD j Cst.zero) = false) : nameR p name = some i := by
  obtain ⟨k, rfl⟩ : ∃ k, i = k + 1 := ⟨i - 1, by omega⟩
  unfold nameR
  have : (p.drop 1).findIdx? (hitN name) = some k := by
    rw [List.findIdx?_eq_some_iff_getElem]
    refine ⟨by simp; omega, ?_, fun j hj => ?_⟩
    · simp only [List.getElem_drop]
      simp only [List.getD_eq_getElem?_getD, List.getElem?_eq_getElem hi, Option.getD_some] at h1
      simpa [Nat.add_comm] using h1
    · have hj2 : j + 1 < p.length := by omega
      have h2 := h (j + 1) (by omega) (by omega)
      simp only [List.getElem_drop]
      simp only [List.getD_eq_getElem?_getD, List.getElem?_eq_getElem hj2, Option.getD_some] at h2
      simpa [Nat.add_comm] using h2
  rw [this]; rfl
set_option maxHeartbeats 4000000 in
theorem rwattr_any (p : List Cst) (vp : Value) (name body : List UInt8) (hp : SlN h0 5 vp p.length (flatS p)) (hcc : cc[5]? = some vp) (hpl : p.length ≤ 65536) (hb : body.length ≤ 1000000000) (H : RW h0 h g cc e) :
    HCalls Try.prog 48 #[.pointer (some ⟨g, 0, none⟩), str name, str body] h fun r h' => r = str (attrP (nameR p) name (body, 0)).1 ∧ RW h0 h' g cc (thenE e (attrP (nameR p) name (body, 0)).2) ∧ FrG g h h' := by
  refine C.rw_attribute_calls (args := [.pointer (some ⟨g, 0, none⟩), str name, str body]) rfl ?_
  obtain ⟨_, ap, cp, rfl, _⟩ := id hp
  have c5 : cellAt h ⟨g, 5, none⟩ = some (.slice ap p.length cp) := by
    obtain ⟨_, _, hl, h3⟩ := H
    rw [cellAt_of h3]
    have := rwV_at (cc := cc) (e := e) (i := 5) (by omega)
    rw [hcc] at this
    simpa using this
  simp (disch := first | omega | assumption) only [C.rw_attribute_gos, T.tv, ↓reduceIte, Nat.reduceEqDiff, reduceCtorEq, Nat.reduceLeDiff, Nat.reducePow, Int.reducePow, Int.reduceToNat, Nat.reduceAdd]
  refine loop_intro [0, 1, 2, 6, 7] (fun m ρ hc => ∃ i : Nat, m = p.length + 1 - i ∧ 1 ≤ i ∧ i ≤ p.length + 1 ∧ ρ = [(0, .pointer (some ⟨g, 0, none⟩)), (1, str name), (2, str body), (6, str []), (7, .int .i64 i)] ∧
      hc = h ∧ ∀ j, 1 ≤ j → j < i → hitN name (p.getD j Cst.zero) = false) ?_ ?_
  · simp (disch := first | omega | assumption) only [C.rw_attribute_gos, T.tv, ↓reduceIte, Nat.reduceEqDiff, reduceCtorEq, Nat.reduceLeDiff, Nat.reducePow, Int.reducePow, Int.reduceToNat, Nat.reduceAdd]
    exact ⟨_, 1, rfl, by omega, by omega, rfl, fun j hj => by omega⟩
  rintro m ρ hc ⟨i, rfl, hi1, hi, rfl, rfl, hno⟩
  rcases Nat.lt_or_ge i p.length with hlt | hge
  case inr =>
    have hlt' : ¬ (i : Int) < p.length := by omega
    have hN : nameR p name = none := nameR_none fun j hj1 hj => hno j hj1 (by omega)
    have hA : attrP (nameR p) name (body, 0) = ([], 8) := by unfold attrP; rw [hN]
    rw [hA]
    simp (disch := first | omega | assumption) only [C.rw_attribute_gos, T.tv, ↓reduceIte, Nat.reduceEqDiff, reduceCtorEq, Nat.reduceLeDiff, Nat.reducePow, Int.reducePow, Int.reduceToNat, Nat.reduceAdd, c5, hlt']
    refine eff_callF rfl ((rwfail_any 8 H).mono ?_)
    rintro v2 h2 ⟨H2, K2⟩
    simp (disch := first | omega | assumption) only [C.rw_attribute_gos, T.tv, ↓reduceIte, Nat.reduceEqDiff, reduceCtorEq, Nat.reduceLeDiff, Nat.reducePow, Int.reducePow, Int.reduceToNat, Nat.reduceAdd]
    exact ⟨H2, K2⟩
  have hlt' : (i : Int) < p.length := by omega
  obtain ⟨bb, o, c', heq, hrd, _⟩ := (hp.ext (by decide) H.2.1).at hlt
  cases heq
  rw [flatS_at hlt] at hrd
  have hstep : hitN name (p.getD i Cst.zero) = false → ∀ j, 1 ≤ j → j < i + 1 → hitN name (p.getD j Cst.zero) = false := fun h1 j hj1 hj => by
    rcases Nat.lt_or_ge j i with hji | hji
    · exact hno j hj1 hji
    · have : j = i := by omega
      rw [this]; exact h1
  have hhit := fun h1 => nameR_some (p := p) (name := name) hi1 hlt h1 hno
  generalize p.getD i Cst.zero = x at *
  obtain ⟨tag, text, bits, xa, xb⟩ := x
  have g0 : cellAt hc ⟨bb, o + i * 5, none⟩ = some (.int .u8 (tag : Int)) := by simpa using hrd 0 _ rfl
  have g1 : cellAt hc ⟨bb, o + i * 5 + 1, none⟩ = some (str text) := hrd 1 _ rfl
  have hadd := wrap_i64 (x := (i : Int) + 1) (by omega) (by omega)
  by_cases ht : tag = 1
  case neg =>
    have ht' : ¬ (tag : Int) = 1 := by omega
    simp (disch := first | omega | assumption) only [C.rw_attribute_gos, T.tv, ↓reduceIte, Nat.reduceEqDiff, reduceCtorEq, Nat.reduceLeDiff, Nat.reducePow, Int.reducePow, Int.reduceToNat, Nat.reduceAdd, c5, hlt', g0, ht']
    exact ⟨_, by omega, i + 1, rfl, by omega, by omega, by simp, hstep (by simp [hitN, ht])⟩
  have ht' : (tag : Int) = 1 := by omega
  by_cases hx : text = name
  case neg =>
    simp (disch := first | omega | assumption) only [C.rw_attribute_gos, T.tv, ↓reduceIte, Nat.reduceEqDiff, reduceCtorEq, Nat.reduceLeDiff, Nat.reducePow, Int.reducePow, Int.reduceToNat, Nat.reduceAdd, c5, hlt', g0, ht', g1, eq_false hx]
    exact ⟨_, by omega, i + 1, rfl, by omega, by omega, by simp, hstep (by simp [hitN, hx])⟩
  have hA : attrP (nameR p) name (body, 0) = (bigS i 2 ++ (bigS body.length 4 ++ body), 0) := by unfold attrP; rw [hhit (by simp [hitN, ht, hx])]
  rw [hA]
  have hPi : numP (i : Int) 2 = (bigS i 2, 0) := by
    have := idxP_num (x := i) (by omega)
    rw [this]; rfl
  simp (disch := first | omega | assumption) only [C.rw_attribute_gos, T.tv, ↓reduceIte, Nat.reduceEqDiff, reduceCtorEq, Nat.reduceLeDiff, Nat.reducePow, Int.reducePow, Int.reduceToNat, Nat.reduceAdd, c5, hlt', g0, ht', g1, hx]
  refine eff_callF rfl ((rwnum_any (i : Int) 2 (.inl rfl) H).mono ?_)
  rintro _ h4 ⟨rfl, H4, K4⟩
  rw [hPi] at H4 ⊢
  rw [thenE_zero] at H4
  simp (disch := first | omega | assumption) only [C.rw_attribute_gos, T.tv, ↓reduceIte, Nat.reduceEqDiff, reduceCtorEq, Nat.reduceLeDiff, Nat.reducePow, Int.reducePow, Int.reduceToNat, Nat.reduceAdd]
  refine eff_call_of ?_
  simp (disch := first | omega | assumption) only [C.rw_attribute_gos, T.tv, ↓reduceIte, Nat.reduceEqDiff, reduceCtorEq, Nat.reduceLeDiff, Nat.reducePow, Int.reducePow, Int.reduceToNat, Nat.reduceAdd]
  have hPb : numP (body.length : Int) 4 = (bigS body.length 4, 0) := by
    unfold numP
    rw [atU_nat (by omega), if_neg (by have : (256 : Nat) ^ 4 = 4294967296 := by decide
                                       omega)]
  refine (rwnum_any (body.length : Int) 4 (.inr rfl) H4).mono ?_
  rintro _ h5 ⟨rfl, H5, K5⟩
  rw [hPb] at H5 ⊢
  rw [thenE_zero] at H5
  have q1 : (bigS i 2).length + (bigS body.length 4).length ≤ 9223372036854775807 := by rw [bigS_len, bigS_len]; omega
  have q2 : (bigS i 2 ++ bigS body.length 4).length + body.length ≤ 9223372036854775807 := by rw [List.length_append, bigS_len, bigS_len]; omega
  simp (disch := first | omega | assumption) only [C.rw_attribute_gos, T.tv, ↓reduceIte, Nat.reduceEqDiff, reduceCtorEq, Nat.reduceLeDiff, Nat.reducePow, Int.reducePow, Int.reduceToNat, Nat.reduceAdd, bin_str_add q1, bin_str_add q2]
  exact ⟨by simp, by simpa [thenE_zero] using H5, K4.trans' K5⟩
end
end Go.Proofs.Ytohkbpnblkkdgaa
