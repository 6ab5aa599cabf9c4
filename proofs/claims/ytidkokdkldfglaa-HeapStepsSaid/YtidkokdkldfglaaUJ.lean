/- What is in a thing, read and set by the program. No condition. -/
import Derived.Test.YtidkokdkldfglaaUE
import Derived.Test.YtidkokdkldfglaaUI
namespace Go.Proofs.Ytidkokdkldfglaa
open Go.Vc
set_option maxRecDepth 100000
set_option linter.unusedSimpArgs false
set_option linter.unusedVariables false

section
variable {base : Nat} {h : Heap} {p : Ph} {s : St}
theorem size_any (R : Rep base h p s) {r : Nat} {c : CP} (hr : look s r = some c) (hb : c.size ≤ 1000000) :
    HCalls Try.prog 47 #[ptr (adrB p r) (adrO r)] h fun v h' => h' = h ∧ v = .int .i64 (c.size : Int) := by
  refine C.c_size_calls (args := [ptr (adrB p r) (adrO r)]) rfl ?_
  have l3 := R.a3 hr
  have l4 := R.a4 hr
  unfold CP.size at hb ⊢
  have w1 : IntKind.i64.wrap (2 + (c.rn : Int)) = 2 + (c.rn : Int) := wrap_i64 (by omega) (by omega)
  have w2 : IntKind.i64.wrap (2 + (c.rn : Int) + (c.wn : Int)) = ((2 + c.rn + c.wn : Nat) : Int) := by rw [wrap_i64 (by omega) (by omega)]; omega
  simp (disch := first | omega | assumption) only [C.c_size_gos, T.tv, ↓reduceIte, Nat.reduceEqDiff, reduceCtorEq, Nat.reduceLeDiff, Nat.reducePow, Int.reducePow, Int.reduceToNat, Nat.reduceAdd, sv, l3, l4, w1, w2]
theorem Len_any (R : Rep base h p s) {r : Nat} {c : CP} (hr : look s r = some c) (h32 : r < 4294967296) :
    HCalls Try.prog 39 #[ptr p.H 0, refV r] h fun v h' => h' = h ∧ v = .int .i64 (c.rn : Int) := by
  refine C.h_Len_calls (args := [ptr p.H 0, refV r]) rfl ?_
  have l3 := R.a3 hr
  simp (disch := first | omega | assumption) only [C.h_Len_gos, T.tv, ↓reduceIte, Nat.reduceEqDiff, reduceCtorEq, Nat.reduceLeDiff, Nat.reducePow, Int.reducePow, Int.reduceToNat, Nat.reduceAdd]
  refine eff_callF rfl ((at_any R hr h32).mono ?_)
  rintro v1 h1 ⟨rfl, rfl⟩
  simp (disch := first | omega | assumption) only [C.h_Len_gos, T.tv, ↓reduceIte, Nat.reduceEqDiff, reduceCtorEq, Nat.reduceLeDiff, Nat.reducePow, Int.reducePow, Int.reduceToNat, Nat.reduceAdd, sv, l3]
theorem Words_any (R : Rep base h p s) {r : Nat} {c : CP} (hr : look s r = some c) (h32 : r < 4294967296) :
    HCalls Try.prog 36 #[ptr p.H 0, refV r] h fun v h' => h' = h ∧ v = .int .i64 (c.wn : Int) := by
  refine C.h_Words_calls (args := [ptr p.H 0, refV r]) rfl ?_
  have l3 := R.a4 hr
  simp (disch := first | omega | assumption) only [C.h_Words_gos, T.tv, ↓reduceIte, Nat.reduceEqDiff, reduceCtorEq, Nat.reduceLeDiff, Nat.reducePow, Int.reducePow, Int.reduceToNat, Nat.reduceAdd]
  refine eff_callF rfl ((at_any R hr h32).mono ?_)
  rintro v1 h1 ⟨rfl, rfl⟩
  simp (disch := first | omega | assumption) only [C.h_Words_gos, T.tv, ↓reduceIte, Nat.reduceEqDiff, reduceCtorEq, Nat.reduceLeDiff, Nat.reducePow, Int.reducePow, Int.reduceToNat, Nat.reduceAdd, sv, l3]
theorem Ref_any (R : Rep base h p s) {r k x g : Nat} {c : CP} {l : List Nat} (hr : look s r = some c) (h32 : r < 4294967296) (hg : c.rg = some g) (hl : s.RS g = some l) (hn : l.length = c.rn) (hk : l[k]? = some x) :
    HCalls Try.prog 43 #[ptr p.H 0, refV r, .int .i64 (k : Int)] h fun v h' => h' = h ∧ v = refV x := by
  refine C.h_Ref_calls (args := [ptr p.H 0, refV r, .int .i64 (k : Int)]) rfl ?_
  have l3 := R.a3 hr
  have l4 := (R.rc hl hk).1
  have hkl := (List.getElem?_eq_some_iff.1 hk).1
  have b1 : (0 : Int) ≤ (k : Int) := by omega
  have b2 : (k : Int) < (c.rn : Int) := by omega
  simp (disch := first | omega | assumption) only [C.h_Ref_gos, T.tv, ↓reduceIte, Nat.reduceEqDiff, reduceCtorEq, Nat.reduceLeDiff, Nat.reducePow, Int.reducePow, Int.reduceToNat, Nat.reduceAdd]
  refine eff_callF rfl ((at_any R hr h32).mono ?_)
  rintro v1 h1 ⟨rfl, rfl⟩
  simp (disch := first | omega | assumption) only [C.h_Ref_gos, T.tv, ↓reduceIte, Nat.reduceEqDiff, reduceCtorEq, Nat.reduceLeDiff, Nat.reducePow, Int.reducePow, Int.reduceToNat, Nat.reduceAdd, sv, l3, hg, l4, b1, b2]
theorem Word_any (R : Rep base h p s) {r k x g : Nat} {c : CP} {l : List Nat} (hr : look s r = some c) (h32 : r < 4294967296) (hg : c.wg = some g) (hl : s.WS g = some l) (hn : l.length = c.wn) (hk : l[k]? = some x) :
    HCalls Try.prog 38 #[ptr p.H 0, refV r, .int .i64 (k : Int)] h fun v h' => h' = h ∧ v = wordV x := by
  refine C.h_Word_calls (args := [ptr p.H 0, refV r, .int .i64 (k : Int)]) rfl ?_
  have l3 := R.a4 hr
  have l4 := (R.wc hl hk).1
  have hkl := (List.getElem?_eq_some_iff.1 hk).1
  have b1 : (0 : Int) ≤ (k : Int) := by omega
  have b2 : (k : Int) < (c.wn : Int) := by omega
  simp (disch := first | omega | assumption) only [C.h_Word_gos, T.tv, ↓reduceIte, Nat.reduceEqDiff, reduceCtorEq, Nat.reduceLeDiff, Nat.reducePow, Int.reducePow, Int.reduceToNat, Nat.reduceAdd]
  refine eff_callF rfl ((at_any R hr h32).mono ?_)
  rintro v1 h1 ⟨rfl, rfl⟩
  simp (disch := first | omega | assumption) only [C.h_Word_gos, T.tv, ↓reduceIte, Nat.reduceEqDiff, reduceCtorEq, Nat.reduceLeDiff, Nat.reducePow, Int.reducePow, Int.reduceToNat, Nat.reduceAdd, sv, l3, hg, l4, b1, b2]
theorem SetWord_any (R : Rep base h p s) {r k x y g : Nat} {c : CP} {l : List Nat} (hr : look s r = some c) (h32 : r < 4294967296) (hg : c.wg = some g) (hl : s.WS g = some l) (hn : l.length = c.wn) (hk : l[k]? = some x) :
    HCalls Try.prog 37 #[ptr p.H 0, refV r, .int .i64 (k : Int), wordV y] h fun v h' => Stp base h h' p p s (setW s g (l.set k y)) := by
  refine C.h_SetWord_calls (args := [ptr p.H 0, refV r, .int .i64 (k : Int), wordV y]) rfl ?_
  have l3 := R.a4 hr
  have l4 := R.wc hl hk
  have hkl := (List.getElem?_eq_some_iff.1 hk).1
  have b1 : (0 : Int) ≤ (k : Int) := by omega
  have b2 : (k : Int) < (c.wn : Int) := by omega
  simp (disch := first | omega | assumption) only [C.h_SetWord_gos, T.tv, ↓reduceIte, Nat.reduceEqDiff, reduceCtorEq, Nat.reduceLeDiff, Nat.reducePow, Int.reducePow, Int.reduceToNat, Nat.reduceAdd]
  refine eff_callF rfl ((at_any R hr h32).mono ?_)
  rintro v1 h1 ⟨rfl, rfl⟩
  simp (disch := first | omega | assumption) only [C.h_SetWord_gos, T.tv, ↓reduceIte, Nat.reduceEqDiff, reduceCtorEq, Nat.reduceLeDiff, Nat.reducePow, Int.reducePow, Int.reduceToNat, Nat.reduceAdd, sv, l3, hg, b1, b2]
  refine eff_store1_z T.zr_30 rfl rfl rfl rfl rfl l4.1 l4.2 ?_
  simp (disch := first | omega | assumption) only [C.h_SetWord_gos, T.tv, ↓reduceIte, Nat.reduceEqDiff, reduceCtorEq, Nat.reduceLeDiff, Nat.reducePow, Int.reducePow, Int.reduceToNat, Nat.reduceAdd]
  exact R.word hl hkl y
/-- What SetRef does. -/
def putS (s : St) (r : Nat) (c : CP) (g : Nat) (l : List Nat) (x : Nat) : St :=
  if r < 2147483648 ∧ 2147483648 ≤ x ∧ c.seen = false then markS (setR s g l) r c else setR s g l
theorem SetRef_any (R : Rep base h p s) {r k x y g : Nat} {c : CP} {l : List Nat} (hbs : base ≤ h.size) (hrl : s.refers.length ≤ 1000000) (hr : look s r = some c) (h32 : r < 4294967296) (hy : y < 4294967296) (hg : c.rg = some g) (hl : s.RS g = some l) (hn : l.length = c.rn) (hk : l[k]? = some x) :
    HCalls Try.prog 40 #[ptr p.H 0, refV r, .int .i64 (k : Int), refV y] h fun v h' => ∃ p', Stp base h h' p p' s (putS s r c g (l.set k y) y) ∧ p'.S = p.S ∧ p'.H = p.H := by
  refine C.h_SetRef_calls (args := [ptr p.H 0, refV r, .int .i64 (k : Int), refV y]) rfl ?_
  have l3 := R.a3 hr
  have l4 := R.rc hl hk
  have hkl := (List.getElem?_eq_some_iff.1 hk).1
  have b1 : (0 : Int) ≤ (k : Int) := by omega
  have b2 : (k : Int) < (c.rn : Int) := by omega
  simp (disch := first | omega | assumption) only [C.h_SetRef_gos, T.tv, ↓reduceIte, Nat.reduceEqDiff, reduceCtorEq, Nat.reduceLeDiff, Nat.reducePow, Int.reducePow, Int.reduceToNat, Nat.reduceAdd]
  refine eff_callF rfl ((at_any R hr h32).mono ?_)
  rintro v1 h1 ⟨rfl, rfl⟩
  simp (disch := first | omega | assumption) only [C.h_SetRef_gos, T.tv, ↓reduceIte, Nat.reduceEqDiff, reduceCtorEq, Nat.reduceLeDiff, Nat.reducePow, Int.reducePow, Int.reduceToNat, Nat.reduceAdd, sv, l3, hg, b1, b2]
  refine eff_store1_z T.zr_51 rfl rfl rfl rfl rfl l4.1 l4.2 ?_
  have S1 := R.ref hl hkl y
  change Stp base h1 _ p p s (setR s g (l.set k y)) at S1
  generalize setAt h1 ⟨g, k, none⟩ (refV y) = h2 at *
  have R2 := S1.rep
  have hr2 : look (setR s g (l.set k y)) r = some c := hr
  have a6 := R2.a6 hr2
  have e1 := and31 h32
  have e2 := and31 hy
  by_cases c1 : r < 2147483648
  · rw [if_pos c1] at e1
    by_cases c2 : y < 2147483648
    · rw [if_pos c2] at e2
      simp (disch := first | omega | assumption) only [C.h_SetRef_gos, T.tv, ↓reduceIte, Nat.reduceEqDiff, reduceCtorEq, Nat.reduceLeDiff, Nat.reducePow, Int.reducePow, Int.reduceToNat, Nat.reduceAdd, refV, e1, e2]
      refine ⟨p, ?_⟩
      unfold putS; rw [if_neg (by omega)]; exact ⟨S1, rfl, rfl⟩
    · rw [if_neg c2] at e2
      cases hs : c.seen with
      | true =>
        rw [hs] at a6
        simp (disch := first | omega | assumption) only [C.h_SetRef_gos, T.tv, ↓reduceIte, Nat.reduceEqDiff, reduceCtorEq, Nat.reduceLeDiff, Nat.reducePow, Int.reducePow, Int.reduceToNat, Nat.reduceAdd, refV, e1, e2, a6, Int.reduceEq]
        refine ⟨p, ?_⟩
        unfold putS; rw [if_neg (by simp [hs])]; exact ⟨S1, rfl, rfl⟩
      | false =>
        rw [hs] at a6
        simp (disch := first | omega | assumption) only [C.h_SetRef_gos, T.tv, ↓reduceIte, Nat.reduceEqDiff, reduceCtorEq, Nat.reduceLeDiff, Nat.reducePow, Int.reducePow, Int.reduceToNat, Nat.reduceAdd, refV, e1, e2, a6, Int.reduceEq]
        refine eff_store1_z T.zr_4 rfl rfl rfl rfl rfl a6 (R2.frozen hr2 (by decide)) ?_
        have S2 := R2.setc (c' := { c with seen := true }) (v := .bool true) hr2 (j := 6) (by decide) rfl
        generalize setAt h2 ⟨adrB p r, adrO r + 6, none⟩ (.bool true) = h3 at *
        have S3 := S1.trans S2
        have R3 := S2.rep
        have l6 := R3.h6
        have eo : setC (setR s g (l.set k y)) r { c with seen := true } = { setR s g (l.set k y) with old := s.old.set r { c with seen := true } } := by
          unfold setC; rw [if_pos c1]; rfl
        rw [eo] at S3 R3
        have fo := R3.fo
        clear S2 eo
        generalize hst : ({ setR s g (l.set k y) with old := s.old.set r { c with seen := true } } : St) = s3 at *
        have ef : s3.refers = s.refers := by rw [← hst]; rfl
        simp (disch := first | omega | assumption) only [C.h_SetRef_gos, T.tv, ↓reduceIte, Nat.reduceEqDiff, reduceCtorEq, Nat.reduceLeDiff, Nat.reducePow, Int.reducePow, Int.reduceToNat, Nat.reduceAdd, l6]
        refine eff_lits T.slT_68 rfl rfl (by decide) ?_
        have bs3 : base ≤ h3.size := Nat.le_trans hbs S3.fr.size
        have X4 := Ext.push h3 (.cells #[.int .u32 (r : Int)] 51)
        have R4 := R3.ext X4
        have rd4 : Rd (h3.push (.cells #[.int .u32 (r : Int)] 51)) h3.size 0 [refV r] := Rd_new (vs := [refV r])
        simp (disch := first | omega | assumption) only [C.h_SetRef_gos, T.tv, ↓reduceIte, Nat.reduceEqDiff, reduceCtorEq, Nat.reduceLeDiff, Nat.reducePow, Int.reducePow, Int.reduceToNat, Nat.reduceAdd]
        generalize h3.push (.cells #[.int .u32 (r : Int)] 51) = h4 at *
        refine eff_append_ownF (m := 1) T.slT_68 rfl rfl R4.fo rfl rd4 (by simp [oneCell, refV]) (by rw [ef]; omega) (by rw [ef]; omega) (Nat.le_trans bs3 X4.size) ?_
        intro v' h5 o5 f5 _ n5
        have S5 := R4.addRefer o5 f5 n5
        have l7 : cellAt h5 ⟨p.H, 6, none⟩ = some p.fv := by
          have D := R4.dis
          rw [f5.cell (R4.lt (.inr (.inl rfl))).2 (fun e => (D.fv _ e).2.1 rfl)]; exact R4.h6
        have l8 : frozenAt h5 ⟨p.H, 6, none⟩ = false := by
          have D := R4.dis
          rw [frozenAt_block (f5.same _ (R4.lt (.inr (.inl rfl))).2 (fun e => (D.fv _ e).2.1 rfl))]; exact R4.hz 6
        obtain ⟨q, cq, rfl⟩ : ∃ q cq, v' = .slice (some ⟨q, 0, none⟩) (s3.refers.length + 1) cq := Own_pos o5
        simp (disch := first | omega | assumption) only [C.h_SetRef_gos, T.tv, ↓reduceIte, Nat.reduceEqDiff, reduceCtorEq, Nat.reduceLeDiff, Nat.reducePow, Int.reducePow, Int.reduceToNat, Nat.reduceAdd]
        refine eff_store1_z T.zr_68 rfl rfl rfl rfl rfl l7 l8 ?_
        simp (disch := first | omega | assumption) only [C.h_SetRef_gos, T.tv, ↓reduceIte, Nat.reduceEqDiff, reduceCtorEq, Nat.reduceLeDiff, Nat.reducePow, Int.reducePow, Int.reduceToNat, Nat.reduceAdd]
        have S6 := (S3.ext X4).trans S5
        refine ⟨{ p with fv := .slice (some ⟨q, 0, none⟩) (s3.refers.length + 1) cq }, ?_⟩
        have e : putS s r c g (l.set k y) y = { s3 with refers := s3.refers ++ [r] } := by
          unfold putS; rw [if_pos ⟨c1, by omega, hs⟩, ← hst]; rfl
        rw [e]
        exact ⟨S6, rfl, rfl⟩
  · rw [if_neg c1] at e1
    simp (disch := first | omega | assumption) only [C.h_SetRef_gos, T.tv, ↓reduceIte, Nat.reduceEqDiff, reduceCtorEq, Nat.reduceLeDiff, Nat.reducePow, Int.reducePow, Int.reduceToNat, Nat.reduceAdd, refV, e1, Int.reduceEq]
    refine ⟨p, ?_⟩
    unfold putS; rw [if_neg (by omega)]; exact ⟨S1, rfl, rfl⟩
end
end Go.Proofs.Ytidkokdkldfglaa
