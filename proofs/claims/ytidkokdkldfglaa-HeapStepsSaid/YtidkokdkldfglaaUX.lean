/- The steps of a space by the program, further. No condition. -/
import Derived.Test.YtidkokdkldfglaaUW
namespace Go.Proofs.Ytidkokdkldfglaa
open Go.Vc
set_option maxRecDepth 100000
set_option linter.unusedSimpArgs false
set_option linter.unusedVariables false

section
variable {base : Nat} {h : Heap} {p : Ph} {s : St} {a : AS}
theorem sSet_any (G : Gd base h p s a) {k i : Int} {x : Nat} : HCalls Try.prog 11 #[ptr p.S 0, .int .i64 k, .int .i64 i, wordV x] h fun v h' => Nx base h h' p s (aSet a k i x).1 ∧ v = .int .i64 (aSet a k i x).2 := by
  refine C.s_Set_calls (args := [ptr p.S 0, .int .i64 k, .int .i64 i, wordV x]) rfl ?_
  obtain ⟨R, HR⟩ := G.m
  have PL := place_any G (k := k)
  by_cases c0 : plc a k
  · rw [decide_eq_true c0] at PL
    simp (disch := first | omega | assumption) only [C.s_Set_gos, T.tv, ↓reduceIte, Nat.reduceEqDiff, reduceCtorEq, Nat.reduceLeDiff, Nat.reducePow, Int.reducePow, Int.reduceToNat, Nat.reduceAdd]
    refine eff_callF rfl (PL.mono ?_)
    rintro v1 h1 ⟨rfl, rfl⟩
    by_cases c1 : i < 0
    · have e : aSet a k i x = (a, 7) := by unfold aSet; rw [if_neg (fun h => by have := h.2.1; omega)]
      rw [e]
      simp (disch := first | omega | assumption) only [C.s_Set_gos, T.tv, ↓reduceIte, Nat.reduceEqDiff, reduceCtorEq, Nat.reduceLeDiff, Nat.reducePow, Int.reducePow, Int.reduceToNat, Nat.reduceAdd, c1]
      first | exact G.stay | exact ⟨G.stay, rfl⟩
    · obtain ⟨n, r, c, g, g', rfl, n16, x1, x2, x3, x4, x5, x6, x7, x8, x9, x10, x11, x12, x13, x14⟩ := G.thing HR c0
      have b1 : (0 : Int) ≤ (n : Int) := by omega
      have b2 : (n : Int) < ((16 : Nat) : Int) := by omega
      have l0 := G.r.s0
      have l := G.r.sk x1
      simp (disch := first | omega | assumption) only [C.s_Set_gos, T.tv, ↓reduceIte, Nat.reduceEqDiff, reduceCtorEq, Nat.reduceLeDiff, Nat.reducePow, Int.reducePow, Int.reduceToNat, Nat.reduceAdd, c1, l0, ia_rt, b1, b2, l]
      refine eff_callF rfl ((Words_any G.r x5 x4).mono ?_)
      rintro v1 h9 ⟨rfl, rfl⟩
      by_cases c2 : (c.wn : Int) ≤ i
      · have e : aSet a (n : Int) i x = (a, 7) := by unfold aSet; rw [if_neg (fun h => by have := h.2.2; rw [← x13, x11] at this; omega)]
        rw [e]
        simp (disch := first | omega | assumption) only [C.s_Set_gos, T.tv, ↓reduceIte, Nat.reduceEqDiff, reduceCtorEq, Nat.reduceLeDiff, Nat.reducePow, Int.reducePow, Int.reduceToNat, Nat.reduceAdd, c2]
        first | exact G.stay | exact ⟨G.stay, rfl⟩
      · obtain ⟨j, rfl⟩ : ∃ j : Nat, i = j := ⟨i.toNat, by omega⟩
        have hj : (wl s c)[j]? = some ((wl s c)[j]'(by omega)) := by simp
        generalize hy : (wl s c)[j]'(by omega) = y at hj
        have e : aSet a (n : Int) (j : Int) x = ({ a with things := a.things.set (rtN a (n : Int)) ((thN a (n : Int)).1, (thN a (n : Int)).2.set j x) }, 0) := by
          unfold aSet
          rw [if_pos ⟨c0, by omega, by rw [← x13, x11]; omega⟩]; rfl
        rw [e]
        simp (disch := first | omega | assumption) only [C.s_Set_gos, T.tv, ↓reduceIte, Nat.reduceEqDiff, reduceCtorEq, Nat.reduceLeDiff, Nat.reducePow, Int.reducePow, Int.reduceToNat, Nat.reduceAdd, c2, l0, ia_rt, b1, b2, l]
        refine eff_callF rfl ((SetWord_any (y := x) G.r x5 x4 x7 x9 x11 hj).mono ?_)
        intro v1 h1 St1
        obtain ⟨I1, M1⟩ := setW_law (k := j) (x := x) G.i HR x2 x3 x5 x12 x7 x9
        simp (disch := first | omega | assumption) only [C.s_Set_gos, T.tv, ↓reduceIte, Nat.reduceEqDiff, reduceCtorEq, Nat.reduceLeDiff, Nat.reducePow, Int.reducePow, Int.reduceToNat, Nat.reduceAdd]
        have N : Nx base h9 h1 p s { a with things := a.things.set (rtN a (n : Int)) ((thN a (n : Int)).1, (thN a (n : Int)).2.set j x) } := ⟨p, _, St1, Pk.refl, I1, ⟨R, M1⟩, rfl⟩
        first | exact N | exact ⟨N, rfl⟩
  · rw [decide_eq_false c0] at PL
    have e : aSet a k i x = (a, 7) := by unfold aSet; rw [if_neg (fun h => c0 h.1)]
    rw [e]
    simp (disch := first | omega | assumption) only [C.s_Set_gos, T.tv, ↓reduceIte, Nat.reduceEqDiff, reduceCtorEq, Nat.reduceLeDiff, Nat.reducePow, Int.reducePow, Int.reduceToNat, Nat.reduceAdd]
    refine eff_callF rfl (PL.mono ?_)
    rintro v1 h1 ⟨rfl, rfl⟩
    simp (disch := first | omega | assumption) only [C.s_Set_gos, T.tv, ↓reduceIte, Nat.reduceEqDiff, reduceCtorEq, Nat.reduceLeDiff, Nat.reducePow, Int.reducePow, Int.reduceToNat, Nat.reduceAdd]
    first | exact G.stay | exact ⟨G.stay, rfl⟩
theorem sGet_any (G : Gd base h p s a) {t k i : Int} : HCalls Try.prog 23 #[ptr p.S 0, .int .i64 t, .int .i64 k, .int .i64 i] h fun v h' => Nx base h h' p s (aGet a t k i).1 ∧ v = .int .i64 (aGet a t k i).2 := by
  refine C.s_Get_calls (args := [ptr p.S 0, .int .i64 t, .int .i64 k, .int .i64 i]) rfl ?_
  obtain ⟨R, HR⟩ := G.m
  have PL := place_any G (k := k)
  by_cases c0 : plc a k
  · rw [decide_eq_true c0] at PL
    simp (disch := first | omega | assumption) only [C.s_Get_gos, T.tv, ↓reduceIte, Nat.reduceEqDiff, reduceCtorEq, Nat.reduceLeDiff, Nat.reducePow, Int.reducePow, Int.reduceToNat, Nat.reduceAdd]
    refine eff_callF rfl (PL.mono ?_)
    rintro v1 h1 ⟨rfl, rfl⟩
    by_cases d1 : t < 0
    · have e : aGet a t k i = (a, 7) := by unfold aGet; rw [if_neg (fun h => by have := h.2.1.1; omega)]
      rw [e]
      simp (disch := first | omega | assumption) only [C.s_Get_gos, T.tv, ↓reduceIte, Nat.reduceEqDiff, reduceCtorEq, Nat.reduceLeDiff, Nat.reducePow, Int.reducePow, Int.reduceToNat, Nat.reduceAdd, d1]
      first | exact G.stay | exact ⟨G.stay, rfl⟩
    by_cases d2 : 16 ≤ t
    · have e : aGet a t k i = (a, 7) := by unfold aGet; rw [if_neg (fun h => by have := h.2.1.2; omega)]
      rw [e]
      simp (disch := first | omega | assumption) only [C.s_Get_gos, T.tv, ↓reduceIte, Nat.reduceEqDiff, reduceCtorEq, Nat.reduceLeDiff, Nat.reducePow, Int.reducePow, Int.reduceToNat, Nat.reduceAdd, d1, d2]
      first | exact G.stay | exact ⟨G.stay, rfl⟩
    by_cases c1 : i < 0
    · have e : aGet a t k i = (a, 7) := by unfold aGet; rw [if_neg (fun h => by have := h.2.2.1; omega)]
      rw [e]
      simp (disch := first | omega | assumption) only [C.s_Get_gos, T.tv, ↓reduceIte, Nat.reduceEqDiff, reduceCtorEq, Nat.reduceLeDiff, Nat.reducePow, Int.reducePow, Int.reduceToNat, Nat.reduceAdd, d1, d2, c1]
      first | exact G.stay | exact ⟨G.stay, rfl⟩
    obtain ⟨n, r, c, g, g', rfl, n16, x1, x2, x3, x4, x5, x6, x7, x8, x9, x10, x11, x12, x13, x14⟩ := G.thing HR c0
    have b1 : (0 : Int) ≤ (n : Int) := by omega
    have b2 : (n : Int) < ((16 : Nat) : Int) := by omega
    have l0 := G.r.s0
    have l := G.r.sk x1
    have hlen := x14.1
    simp (disch := first | omega | assumption) only [C.s_Get_gos, T.tv, ↓reduceIte, Nat.reduceEqDiff, reduceCtorEq, Nat.reduceLeDiff, Nat.reducePow, Int.reducePow, Int.reduceToNat, Nat.reduceAdd, d1, d2, c1, l0, ia_rt, b1, b2, l]
    refine eff_callF rfl ((Len_any G.r x5 x4).mono ?_)
    rintro v1 h1 ⟨rfl, rfl⟩
    by_cases c2 : (c.rn : Int) ≤ i
    · have e : aGet a t (n : Int) i = (a, 7) := by unfold aGet; rw [if_neg (fun h => by have := h.2.2.2; omega)]
      rw [e]
      simp (disch := first | omega | assumption) only [C.s_Get_gos, T.tv, ↓reduceIte, Nat.reduceEqDiff, reduceCtorEq, Nat.reduceLeDiff, Nat.reducePow, Int.reducePow, Int.reduceToNat, Nat.reduceAdd, c2]
      first | exact G.stay | exact ⟨G.stay, rfl⟩
    · obtain ⟨j, rfl⟩ : ∃ j : Nat, i = j := ⟨i.toNat, by omega⟩
      obtain ⟨q, rfl⟩ : ∃ q : Nat, t = q := ⟨t.toNat, by omega⟩
      have hj : (rl s c)[j]? = some ((rl s c)[j]'(by omega)) := by simp
      generalize hy : (rl s c)[j]'(by omega) = y at hj
      obtain ⟨z, hz1, hz2⟩ := x14.get hj
      have e : aGet a (q : Int) (n : Int) (j : Int) = ({ a with roots := a.roots.set q z }, 0) := by
        unfold aGet
        rw [if_pos ⟨c0, ⟨by omega, by omega⟩, by omega, by omega⟩]
        simp only [Int.toNat_natCast, List.getD_eq_getElem?_getD, hz1, Option.getD_some]
      rw [e]
      have b3 : (0 : Int) ≤ (q : Int) := by omega
      have b4 : (q : Int) < ((16 : Nat) : Int) := by omega
      obtain ⟨q0, q1, _⟩ := G.root (k := q) (by omega) HR
      simp (disch := first | omega | assumption) only [C.s_Get_gos, T.tv, ↓reduceIte, Nat.reduceEqDiff, reduceCtorEq, Nat.reduceLeDiff, Nat.reducePow, Int.reducePow, Int.reduceToNat, Nat.reduceAdd, c2, l0, ia_rt, b1, b2, b3, b4, l]
      refine eff_callF rfl ((Ref_any G.r x5 x4 x6 x8 x10 hj).mono ?_)
      rintro v1 h1 ⟨rfl, rfl⟩
      simp (disch := first | omega | assumption) only [C.s_Get_gos, T.tv, ↓reduceIte, Nat.reduceEqDiff, reduceCtorEq, Nat.reduceLeDiff, Nat.reducePow, Int.reducePow, Int.reduceToNat, Nat.reduceAdd, c2, l0, ia_rt, b1, b2, b3, b4, l]
      refine eff_store1_z T.zr_51 rfl rfl rfl rfl rfl (G.r.sk q1) (G.r.sz _) ?_
      simp (disch := first | omega | assumption) only [C.s_Get_gos, T.tv, ↓reduceIte, Nat.reduceEqDiff, reduceCtorEq, Nat.reduceLeDiff, Nat.reducePow, Int.reducePow, Int.reduceToNat, Nat.reduceAdd]
      have N := G.setRoot HR (k := q) (by omega) hz2
      first | exact N | exact ⟨N, rfl⟩
  · rw [decide_eq_false c0] at PL
    have e : aGet a t k i = (a, 7) := by unfold aGet; rw [if_neg (fun h => c0 h.1)]
    rw [e]
    simp (disch := first | omega | assumption) only [C.s_Get_gos, T.tv, ↓reduceIte, Nat.reduceEqDiff, reduceCtorEq, Nat.reduceLeDiff, Nat.reducePow, Int.reducePow, Int.reduceToNat, Nat.reduceAdd]
    refine eff_callF rfl (PL.mono ?_)
    rintro v1 h1 ⟨rfl, rfl⟩
    simp (disch := first | omega | assumption) only [C.s_Get_gos, T.tv, ↓reduceIte, Nat.reduceEqDiff, reduceCtorEq, Nat.reduceLeDiff, Nat.reducePow, Int.reducePow, Int.reduceToNat, Nat.reduceAdd]
    first | exact G.stay | exact ⟨G.stay, rfl⟩
theorem put_law (G : Gd base h p s a) {R : Nat → Nat → Prop} (HR : SimR s a R) {r t x y : Nat} {c : CP} {th : List Nat × List Nat} {g j : Nat} (hr : R r t) (hz : r ≠ 0) (hl : look s r = some c) (ht : a.things[t]? = some th) (hg : c.rg = some g) (hw : s.RS g = some (rl s c)) (hx : R x y) :
    Inv (putS s r c g ((rl s c).set j x) x) ∧ SimR (putS s r c g ((rl s c).set j x) x) { a with things := a.things.set t (th.1.set j y, th.2) } R := by
  unfold putS
  split
  · next hc =>
    have lo : s.old[r]? = some c := by unfold look at hl; rw [if_pos hc.1] at hl; exact hl
    obtain ⟨I1, M1⟩ := mark_law G.i HR lo hz hc.2.2
    have lr : look (markS s r c) r = some { c with seen := true } := by rw [look_mark lo hc.1, if_pos rfl]
    obtain ⟨I2, M2⟩ := setR_law (k := j) I1 M1 hr hz lr ht (c := { c with seen := true }) (g := g) (l := rl s c) hg hw hx (fun _ _ => rfl)
    exact ⟨I2, M2⟩
  · next hc =>
    exact setR_law (k := j) G.i HR hr hz hl ht hg hw hx (fun h1 h2 => by
      cases hs : c.seen with
      | true => rfl
      | false => exact absurd ⟨h1, h2, hs⟩ hc)
theorem sPut_any (G : Gd base h p s a) {k i f : Int} : HCalls Try.prog 14 #[ptr p.S 0, .int .i64 k, .int .i64 i, .int .i64 f] h fun v h' => Nx base h h' p s (aPut a k i f).1 ∧ v = .int .i64 (aPut a k i f).2 := by
  refine C.s_Put_calls (args := [ptr p.S 0, .int .i64 k, .int .i64 i, .int .i64 f]) rfl ?_
  obtain ⟨R, HR⟩ := G.m
  have il := G.i.len
  have PL := place_any G (k := k)
  by_cases c0 : plc a k
  · rw [decide_eq_true c0] at PL
    simp (disch := first | omega | assumption) only [C.s_Put_gos, T.tv, ↓reduceIte, Nat.reduceEqDiff, reduceCtorEq, Nat.reduceLeDiff, Nat.reducePow, Int.reducePow, Int.reduceToNat, Nat.reduceAdd]
    refine eff_callF rfl (PL.mono ?_)
    rintro v1 h1 ⟨rfl, rfl⟩
    by_cases d1 : f < 0
    · have e : aPut a k i f = (a, 7) := by unfold aPut; rw [if_neg (fun h => by have := h.2.1.1; omega)]
      rw [e]
      simp (disch := first | omega | assumption) only [C.s_Put_gos, T.tv, ↓reduceIte, Nat.reduceEqDiff, reduceCtorEq, Nat.reduceLeDiff, Nat.reducePow, Int.reducePow, Int.reduceToNat, Nat.reduceAdd, d1]
      first | exact G.stay | exact ⟨G.stay, rfl⟩
    by_cases d2 : 16 ≤ f
    · have e : aPut a k i f = (a, 7) := by unfold aPut; rw [if_neg (fun h => by have := h.2.1.2; omega)]
      rw [e]
      simp (disch := first | omega | assumption) only [C.s_Put_gos, T.tv, ↓reduceIte, Nat.reduceEqDiff, reduceCtorEq, Nat.reduceLeDiff, Nat.reducePow, Int.reducePow, Int.reduceToNat, Nat.reduceAdd, d1, d2]
      first | exact G.stay | exact ⟨G.stay, rfl⟩
    by_cases c1 : i < 0
    · have e : aPut a k i f = (a, 7) := by unfold aPut; rw [if_neg (fun h => by have := h.2.2.1; omega)]
      rw [e]
      simp (disch := first | omega | assumption) only [C.s_Put_gos, T.tv, ↓reduceIte, Nat.reduceEqDiff, reduceCtorEq, Nat.reduceLeDiff, Nat.reducePow, Int.reducePow, Int.reduceToNat, Nat.reduceAdd, d1, d2, c1]
      first | exact G.stay | exact ⟨G.stay, rfl⟩
    obtain ⟨n, r, c, g, g', rfl, n16, x1, x2, x3, x4, x5, x6, x7, x8, x9, x10, x11, x12, x13, x14⟩ := G.thing HR c0
    have b1 : (0 : Int) ≤ (n : Int) := by omega
    have b2 : (n : Int) < ((16 : Nat) : Int) := by omega
    have l0 := G.r.s0
    have l := G.r.sk x1
    have hlen := x14.1
    simp (disch := first | omega | assumption) only [C.s_Put_gos, T.tv, ↓reduceIte, Nat.reduceEqDiff, reduceCtorEq, Nat.reduceLeDiff, Nat.reducePow, Int.reducePow, Int.reduceToNat, Nat.reduceAdd, d1, d2, c1, l0, ia_rt, b1, b2, l]
    refine eff_callF rfl ((Len_any G.r x5 x4).mono ?_)
    rintro v1 h9 ⟨rfl, rfl⟩
    by_cases c2 : (c.rn : Int) ≤ i
    · have e : aPut a (n : Int) i f = (a, 7) := by unfold aPut; rw [if_neg (fun h => by have := h.2.2.2; omega)]
      rw [e]
      simp (disch := first | omega | assumption) only [C.s_Put_gos, T.tv, ↓reduceIte, Nat.reduceEqDiff, reduceCtorEq, Nat.reduceLeDiff, Nat.reducePow, Int.reducePow, Int.reduceToNat, Nat.reduceAdd, c2]
      first | exact G.stay | exact ⟨G.stay, rfl⟩
    · obtain ⟨j, rfl⟩ : ∃ j : Nat, i = j := ⟨i.toNat, by omega⟩
      obtain ⟨q, rfl⟩ : ∃ q : Nat, f = q := ⟨f.toNat, by omega⟩
      have hj : (rl s c)[j]? = some ((rl s c)[j]'(by omega)) := by simp
      generalize hy : (rl s c)[j]'(by omega) = y at hj
      obtain ⟨q0, q1, q2, q3, q4, _⟩ := G.root (k := q) (by omega) HR
      have e : aPut a (n : Int) (j : Int) (q : Int) = ({ a with things := a.things.set (rtN a (n : Int)) ((thN a (n : Int)).1.set j (rtN a (q : Int)), (thN a (n : Int)).2) }, 0) := by
        unfold aPut
        rw [if_pos ⟨c0, ⟨by omega, by omega⟩, by omega, by omega⟩]; rfl
      rw [e]
      have b3 : (0 : Int) ≤ (q : Int) := by omega
      have b4 : (q : Int) < ((16 : Nat) : Int) := by omega
      have lq := G.r.sk q1
      simp (disch := first | omega | assumption) only [C.s_Put_gos, T.tv, ↓reduceIte, Nat.reduceEqDiff, reduceCtorEq, Nat.reduceLeDiff, Nat.reducePow, Int.reducePow, Int.reduceToNat, Nat.reduceAdd, c2, l0, ia_rt, b1, b2, b3, b4, l, lq]
      refine eff_callF rfl ((SetRef_any (y := q0) G.r G.b (by omega) x5 x4 q4 x6 x8 x10 hj).mono ?_)
      rintro v1 h1 ⟨p', St1, pk1, pk2⟩
      obtain ⟨I1, M1⟩ := put_law (j := j) G HR x2 x3 x5 x12 x6 x8 q2
      simp (disch := first | omega | assumption) only [C.s_Put_gos, T.tv, ↓reduceIte, Nat.reduceEqDiff, reduceCtorEq, Nat.reduceLeDiff, Nat.reducePow, Int.reducePow, Int.reduceToNat, Nat.reduceAdd]
      have er : (putS s r c g ((rl s c).set j q0) q0).room = s.room := by unfold putS; split <;> rfl
      have N : Nx base h9 h1 p s { a with things := a.things.set (rtN a (n : Int)) ((thN a (n : Int)).1.set j (rtN a (q : Int)), (thN a (n : Int)).2) } := ⟨p', _, St1, ⟨pk1, pk2⟩, I1, ⟨R, M1⟩, er⟩
      first | exact N | exact ⟨N, rfl⟩
  · rw [decide_eq_false c0] at PL
    have e : aPut a k i f = (a, 7) := by unfold aPut; rw [if_neg (fun h => c0 h.1)]
    rw [e]
    simp (disch := first | omega | assumption) only [C.s_Put_gos, T.tv, ↓reduceIte, Nat.reduceEqDiff, reduceCtorEq, Nat.reduceLeDiff, Nat.reducePow, Int.reducePow, Int.reduceToNat, Nat.reduceAdd]
    refine eff_callF rfl (PL.mono ?_)
    rintro v1 h1 ⟨rfl, rfl⟩
    simp (disch := first | omega | assumption) only [C.s_Put_gos, T.tv, ↓reduceIte, Nat.reduceEqDiff, reduceCtorEq, Nat.reduceLeDiff, Nat.reducePow, Int.reducePow, Int.reduceToNat, Nat.reduceAdd]
    first | exact G.stay | exact ⟨G.stay, rfl⟩
end
end Go.Proofs.Ytidkokdkldfglaa
