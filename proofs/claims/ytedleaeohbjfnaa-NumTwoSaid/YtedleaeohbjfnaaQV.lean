/- The reference's ranks, and its five operations by number. No condition. -/
import Derived.Test.YtedleaeohbjfnaaQO
import Derived.Test.YtedleaeohbjfnaaQS
import Derived.Test.YtedleaeohbjfnaaQT
import Derived.Test.YtedleaeohbjfnaaQU
namespace Go.Proofs.Ytedleaeohbjfnaa
open Go.Vc Go.Num
set_option maxRecDepth 100000
set_option linter.unusedSimpArgs false
set_option linter.unusedVariables false

theorem rank_any {h : Heap} {m e x : Nat} (hk : Kd m e) (hx : x < 2 ^ (fmt m e).width) : HCalls Try.prog 42 #[kV m e, .int .u64 (x : Int)] h fun v h' => Ext h h' ∧ v = .int .i64 (rank (fmt m e) x) := by
  refine C.k_rank_calls (args := [kV m e, .int .u64 (x : Int)]) rfl ?_
  simp (disch := first | omega | assumption) only [C.k_rank_gos, T.tv, ↓reduceIte, Nat.reduceEqDiff, reduceCtorEq, Nat.reduceLeDiff, Nat.reducePow, Int.reducePow, Int.reduceToNat, Nat.reduceAdd]
  refine eff_box ?_
  have H := KB.push h m e
  have E := Ext.push h (.cells #[.int .i64 (m : Int), .int .i64 (e : Int)] 35)
  simp (disch := first | omega | assumption) only [C.k_rank_gos, T.tv, ↓reduceIte, Nat.reduceEqDiff, reduceCtorEq, Nat.reduceLeDiff, Nat.reducePow, Int.reducePow, Int.reduceToNat, Nat.reduceAdd, Nat.zero_add]
  generalize h.push (.cells #[.int .i64 (m : Int), .int .i64 (e : Int)] 35) = h1 at *
  generalize h.size = g at *
  have lk := H.ld
  simp (disch := first | omega | assumption) only [C.k_rank_gos, T.tv, ↓reduceIte, Nat.reduceEqDiff, reduceCtorEq, Nat.reduceLeDiff, Nat.reducePow, Int.reducePow, Int.reduceToNat, Nat.reduceAdd, lk]
  refine eff_callF rfl ((sign_any true hk).mono ?_)
  rintro v1 h2 ⟨hx1, rfl⟩
  obtain ⟨S, hS⟩ : ∃ S, S = (fmt m e).signWeight := ⟨_, rfl⟩
  have hw : (fmt m e).word true 0 = S := by unfold Ieee.Format.word; rw [if_pos rfl, hS]; rfl
  rw [hw]
  have hSb : S ≤ 9223372036854775808 ∧ x < 2 * S := by
    rcases hk with ⟨rfl, rfl⟩ | ⟨rfl, rfl⟩
    · rw [sw23] at hS; have : (fmt 23 8).width = 32 := by decide
      rw [this, show (2 : Nat) ^ 32 = 4294967296 by decide] at hx; omega
    · rw [sw52] at hS; have : (fmt 52 11).width = 64 := by decide
      rw [this, show (2 : Nat) ^ 64 = 18446744073709551616 by decide] at hx; omega
  have hSp : 0 < S := by omega
  have hr : rank (fmt m e) x = if S ≤ x then -((x - S : Nat) : Int) else (x : Int) := by
    unfold rank sg sgn rung
    rw [← hS]
    by_cases c : S ≤ x
    · rw [if_pos c]
      have h1 : x / S = 1 := Nat.div_eq_of_lt_le (by omega) (by omega)
      have h2 : x % S = x - S := by have := Nat.div_add_mod x S; rw [h1] at this; omega
      rw [h1, h2]; rfl
    · have h1 : x / S = 0 := Nat.div_eq_of_lt (by omega)
      have h2 : x % S = x := Nat.mod_eq_of_lt (by omega)
      rw [if_neg c, h1, h2]; rfl
  rw [hr]
  clear hr hw hS
  by_cases c : S ≤ x
  · rw [if_pos c]
    have c' : (S : Int) ≤ (x : Int) := by omega
    have e1 : IntKind.u64.wrap ((x : Int) - (S : Int)) = ((x - S : Nat) : Int) := by rw [wrap_u64 (by omega) (by omega)]; omega
    have e2 : IntKind.i64.wrap ((x - S : Nat) : Int) = ((x - S : Nat) : Int) := wrap_i64 (by omega) (by omega)
    have e3 : IntKind.i64.wrap (0 - ((x - S : Nat) : Int)) = -((x - S : Nat) : Int) := by rw [wrap_i64 (by omega) (by omega)]; omega
    simp (disch := first | omega | assumption) only [C.k_rank_gos, T.tv, ↓reduceIte, Nat.reduceEqDiff, reduceCtorEq, Nat.reduceLeDiff, Nat.reducePow, Int.reducePow, Int.reduceToNat, Nat.reduceAdd, vf, c', e1, e2, e3]
    first | exact E.trans hx1 | exact ⟨E.trans hx1, rfl⟩
  · rw [if_neg c]
    have c' : ¬ (S : Int) ≤ (x : Int) := by omega
    have e2 : IntKind.i64.wrap (x : Int) = (x : Int) := wrap_i64 (by omega) (by omega)
    simp (disch := first | omega | assumption) only [C.k_rank_gos, T.tv, ↓reduceIte, Nat.reduceEqDiff, reduceCtorEq, Nat.reduceLeDiff, Nat.reducePow, Int.reducePow, Int.reduceToNat, Nat.reduceAdd, vf, c', e2]
    first | exact E.trans hx1 | exact ⟨E.trans hx1, rfl⟩
theorem less_any {h : Heap} {m e x y : Nat} (hk : Kd m e) (hx : x < 2 ^ (fmt m e).width) (hy : y < 2 ^ (fmt m e).width) : HCalls Try.prog 32 #[kV m e, .int .u64 (x : Int), .int .u64 (y : Int)] h fun v h' => Ext h h' ∧ v = .bool (decide (rank (fmt m e) x < rank (fmt m e) y)) := by
  refine C.k_less_calls (args := [kV m e, .int .u64 (x : Int), .int .u64 (y : Int)]) rfl ?_
  simp (disch := first | omega | assumption) only [C.k_less_gos, T.tv, ↓reduceIte, Nat.reduceEqDiff, reduceCtorEq, Nat.reduceLeDiff, Nat.reducePow, Int.reducePow, Int.reduceToNat, Nat.reduceAdd]
  refine eff_box ?_
  have H := KB.push h m e
  have E := Ext.push h (.cells #[.int .i64 (m : Int), .int .i64 (e : Int)] 35)
  simp (disch := first | omega | assumption) only [C.k_less_gos, T.tv, ↓reduceIte, Nat.reduceEqDiff, reduceCtorEq, Nat.reduceLeDiff, Nat.reducePow, Int.reducePow, Int.reduceToNat, Nat.reduceAdd, Nat.zero_add]
  generalize h.push (.cells #[.int .i64 (m : Int), .int .i64 (e : Int)] 35) = h1 at *
  generalize h.size = g at *
  have lk := H.ld
  simp (disch := first | omega | assumption) only [C.k_less_gos, T.tv, ↓reduceIte, Nat.reduceEqDiff, reduceCtorEq, Nat.reduceLeDiff, Nat.reducePow, Int.reducePow, Int.reduceToNat, Nat.reduceAdd, lk]
  refine eff_callF rfl ((rank_any hk hx).mono ?_)
  rintro v1 h2 ⟨hx1, rfl⟩
  have lk1 := (H.ext hx1).ld
  simp (disch := first | omega | assumption) only [C.k_less_gos, T.tv, ↓reduceIte, Nat.reduceEqDiff, reduceCtorEq, Nat.reduceLeDiff, Nat.reducePow, Int.reducePow, Int.reduceToNat, Nat.reduceAdd, lk1]
  refine eff_callF rfl ((rank_any hk hy).mono ?_)
  rintro v2 h3 ⟨hx2, rfl⟩
  simp (disch := first | omega | assumption) only [C.k_less_gos, T.tv, ↓reduceIte, Nat.reduceEqDiff, reduceCtorEq, Nat.reduceLeDiff, Nat.reducePow, Int.reducePow, Int.reduceToNat, Nat.reduceAdd, lk1]
  first | exact (E.trans hx1).trans hx2 | exact ⟨(E.trans hx1).trans hx2, rfl⟩
theorem openN_b {m e : Nat} (hk : Kd m e) (x : Nat) : (openN (fmt m e) x).m < 9007199254740992 ∧ -10000 ≤ (openN (fmt m e) x).e ∧ (openN (fmt m e) x).e ≤ 10000 := by
  have h1 := openN_ok (fmt m e) x
  have h2 := h1.m
  have h3 := h1.e
  have h4 : (openN (fmt m e) x).e ≤ ((2 ^ e : Nat) : Int) + (fmt m e).leastPlace := by
    unfold openN
    dsimp only
    have hl := Nat.mod_lt (x / 2 ^ m) (two_pos e)
    split
    · show (fmt m e).leastPlace ≤ _; omega
    · split
      · show ((x / 2 ^ m % 2 ^ e : Nat) : Int) - 1 + (fmt m e).leastPlace ≤ _
        generalize x / 2 ^ m % 2 ^ e = u at *
        omega
      · show (fmt m e).leastPlace ≤ _; omega
  rcases hk with ⟨rfl, rfl⟩ | ⟨rfl, rfl⟩
  · rw [lp23] at h3 h4
    rw [show (2 : Nat) ^ 8 = 256 by decide] at h4
    refine ⟨Nat.lt_of_lt_of_le h2 (by decide), by omega, by omega⟩
  · rw [lp52] at h3 h4
    rw [show (2 : Nat) ^ 11 = 2048 by decide] at h4
    refine ⟨Nat.lt_of_lt_of_le h2 (by decide), by omega, by omega⟩
def negN (n : Nm) : Nm := ⟨n.nan, n.inf, !n.neg, n.m, n.e⟩
/-- What the reference gives, by the number of the operation. -/
def refOp (f : Ieee.Format) (w : Nat) (x y : Nat) : Nat :=
  if w = 0 then addP f (openN f x) (openN f y) else if w = 1 then addP f (openN f x) (negN (openN f y)) else if w = 2 then mulP f (openN f x) (openN f y) else if w = 3 then divP f 120 (openN f x) (openN f y) else remP f (openN f x) (openN f y)
theorem basic_any {h : Heap} {m e w x y : Nat} (hk : Kd m e) (hw : w < 100) (hx : x < 18446744073709551616) (hy : y < 18446744073709551616) :
    HCalls Try.prog 13 #[kV m e, .int .i64 (w : Int), .int .u64 (x : Int), .int .u64 (y : Int)] h fun v h' => Ext h h' ∧ v = .int .u64 ((refOp (fmt m e) w x y : Nat) : Int) := by
  refine C.k_basic_calls (args := [kV m e, .int .i64 (w : Int), .int .u64 (x : Int), .int .u64 (y : Int)]) rfl ?_
  simp (disch := first | omega | assumption) only [C.k_basic_gos, T.tv, ↓reduceIte, Nat.reduceEqDiff, reduceCtorEq, Nat.reduceLeDiff, Nat.reducePow, Int.reducePow, Int.reduceToNat, Nat.reduceAdd]
  refine eff_box ?_
  have H := KB.push h m e
  have E := Ext.push h (.cells #[.int .i64 (m : Int), .int .i64 (e : Int)] 35)
  simp (disch := first | omega | assumption) only [C.k_basic_gos, T.tv, ↓reduceIte, Nat.reduceEqDiff, reduceCtorEq, Nat.reduceLeDiff, Nat.reducePow, Int.reducePow, Int.reduceToNat, Nat.reduceAdd, Nat.zero_add]
  generalize h.push (.cells #[.int .i64 (m : Int), .int .i64 (e : Int)] 35) = h1 at *
  generalize h.size = g at *
  have lk := H.ld
  simp (disch := first | omega | assumption) only [C.k_basic_gos, T.tv, ↓reduceIte, Nat.reduceEqDiff, reduceCtorEq, Nat.reduceLeDiff, Nat.reducePow, Int.reducePow, Int.reduceToNat, Nat.reduceAdd, lk]
  refine eff_callF rfl ((open_any hk hx).mono ?_)
  rintro v1 h2 ⟨hx1, rfl⟩
  replace H := H.ext hx1
  replace E := E.trans hx1
  have okx := openN_ok (fmt m e) x
  have oky := openN_ok (fmt m e) y
  have bx := openN_b hk x
  have by' := openN_b hk y
  obtain ⟨R, hR⟩ : ∃ R, R = refOp (fmt m e) w x y := ⟨_, rfl⟩
  rw [← hR]
  unfold refOp at hR
  have opy := fun (h' : Heap) => open_any (h := h') hk hy
  generalize openN (fmt m e) x = a at *
  generalize openN (fmt m e) y = b at *
  simp (disch := first | omega | assumption) only [C.k_basic_gos, T.tv, ↓reduceIte, Nat.reduceEqDiff, reduceCtorEq, Nat.reduceLeDiff, Nat.reducePow, Int.reducePow, Int.reduceToNat, Nat.reduceAdd]
  have gl := KB.lt H
  refine eff_alloc_z T.zr_52 ?_
  rw [show (.cells #[.bool false, .bool false, .bool false, .int .u64 0, .int .i64 0] 52 : Obj) = .cells (nC zeroN) 52 from rfl]
  have X1 := Ext.push h2 (.cells (nC zeroN) 52)
  have N1 := NB.push h2 zeroN
  simp (disch := first | omega | assumption) only [C.k_basic_gos, T.tv, ↓reduceIte, Nat.reduceEqDiff, reduceCtorEq, Nat.reduceLeDiff, Nat.reducePow, Int.reducePow, Int.reduceToNat, Nat.reduceAdd]
  generalize h2.push (.cells (nC zeroN) 52) = k1 at *
  have lg9 : h.size ≤ h2.size := E.size
  obtain ⟨g9, hg9⟩ : ∃ g, g = h2.size := ⟨_, rfl⟩
  rw [← hg9] at N1 lg9 ⊢
  replace H := H.ext X1
  replace E := E.trans X1
  refine NB.st52 (n' := a) N1 (by rfl) (by rfl) fun h5 f5 n5 => ?_
  replace H := H.fr f5 (by omega)
  replace E := ext_fr E f5 lg9
  have lk5 := H.ld
  have g9l := NB.lt n5
  simp (disch := first | omega | assumption) only [C.k_basic_gos, T.tv, ↓reduceIte, Nat.reduceEqDiff, reduceCtorEq, Nat.reduceLeDiff, Nat.reducePow, Int.reducePow, Int.reduceToNat, Nat.reduceAdd, lk5]
  refine eff_callF rfl ((opy _).mono ?_)
  rintro v2 h6 ⟨hx6, rfl⟩
  replace H := H.ext hx6
  replace E := E.trans hx6
  replace n5 := n5.ext hx6
  have g9m := NB.lt n5
  have glm := KB.lt H
  simp (disch := first | omega | assumption) only [C.k_basic_gos, T.tv, ↓reduceIte, Nat.reduceEqDiff, reduceCtorEq, Nat.reduceLeDiff, Nat.reducePow, Int.reducePow, Int.reduceToNat, Nat.reduceAdd]
  refine eff_alloc_z T.zr_52 ?_
  rw [show (.cells #[.bool false, .bool false, .bool false, .int .u64 0, .int .i64 0] 52 : Obj) = .cells (nC zeroN) 52 from rfl]
  have X2 := Ext.push h6 (.cells (nC zeroN) 52)
  have N2 := NB.push h6 zeroN
  simp (disch := first | omega | assumption) only [C.k_basic_gos, T.tv, ↓reduceIte, Nat.reduceEqDiff, reduceCtorEq, Nat.reduceLeDiff, Nat.reducePow, Int.reducePow, Int.reduceToNat, Nat.reduceAdd]
  generalize h6.push (.cells (nC zeroN) 52) = k2 at *
  have lg10 : h.size ≤ h6.size := E.size
  obtain ⟨g10, hg10⟩ : ∃ g, g = h6.size := ⟨_, rfl⟩
  rw [← hg10] at N2 lg10 ⊢
  replace H := H.ext X2
  replace E := E.trans X2
  replace n5 := n5.ext X2
  refine NB.st52 (n' := b) N2 (by rfl) (by rfl) fun h7 f7 n7 => ?_
  replace H := H.fr f7 (by omega)
  replace E := ext_fr E f7 lg10
  replace n5 := n5.fr f7 (by omega)
  have lk7 := H.ld
  have la := n5.ld
  have lb := n7.ld
  have b2 := n7.c2
  by_cases w0 : w = 0
  · rw [if_pos w0] at hR
    subst hR
    have w0' : (w : Int) = 0 := by omega
    simp (disch := first | omega | assumption) only [C.k_basic_gos, T.tv, ↓reduceIte, Nat.reduceEqDiff, reduceCtorEq, Nat.reduceLeDiff, Nat.reducePow, Int.reducePow, Int.reduceToNat, Nat.reduceAdd, lk7, la, lb, eq_true w0']
    refine eff_callF rfl ((add_any hk okx oky bx.2.2 by'.2.2).mono ?_)
    rintro v1 hz ⟨hx1, rfl⟩
    simp (disch := first | omega | assumption) only [C.k_basic_gos, T.tv, ↓reduceIte, Nat.reduceEqDiff, reduceCtorEq, Nat.reduceLeDiff, Nat.reducePow, Int.reducePow, Int.reduceToNat, Nat.reduceAdd]
    first | exact E.trans hx1 | exact ⟨E.trans hx1, rfl⟩
  rw [if_neg w0] at hR
  have w0' : ¬ (w : Int) = 0 := by omega
  by_cases w1 : w = 1
  · rw [if_pos w1] at hR
    subst hR
    have w1' : (w : Int) = 1 := by omega
    simp (disch := first | omega | assumption) only [C.k_basic_gos, T.tv, ↓reduceIte, Nat.reduceEqDiff, reduceCtorEq, Nat.reduceLeDiff, Nat.reducePow, Int.reducePow, Int.reduceToNat, Nat.reduceAdd, lk7, la, lb, w0', eq_true w1', b2]
    refine n7.st4 (j := 2) (n' := negN b) (by rfl) (by rfl) (by decide) (by rfl) fun h8 f8 n8 => ?_
    have lk8 := (H.fr f8 (by omega)).ld
    have la8 := (n5.fr f8 (by omega)).ld
    have lb8 := n8.ld
    simp (disch := first | omega | assumption) only [C.k_basic_gos, T.tv, ↓reduceIte, Nat.reduceEqDiff, reduceCtorEq, Nat.reduceLeDiff, Nat.reducePow, Int.reducePow, Int.reduceToNat, Nat.reduceAdd, lk8, la8, lb8]
    refine eff_callF rfl ((add_any hk okx (b := negN b) ⟨oky.m, oky.e, oky.n⟩ bx.2.2 by'.2.2).mono ?_)
    rintro v1 hz ⟨hx1, rfl⟩
    simp (disch := first | omega | assumption) only [C.k_basic_gos, T.tv, ↓reduceIte, Nat.reduceEqDiff, reduceCtorEq, Nat.reduceLeDiff, Nat.reducePow, Int.reducePow, Int.reduceToNat, Nat.reduceAdd]
    first | exact (ext_fr E f8 lg10).trans hx1 | exact ⟨(ext_fr E f8 lg10).trans hx1, rfl⟩
  rw [if_neg w1] at hR
  have w1' : ¬ (w : Int) = 1 := by omega
  by_cases w2 : w = 2
  · rw [if_pos w2] at hR
    subst hR
    have w2' : (w : Int) = 2 := by omega
    simp (disch := first | omega | assumption) only [C.k_basic_gos, T.tv, ↓reduceIte, Nat.reduceEqDiff, reduceCtorEq, Nat.reduceLeDiff, Nat.reducePow, Int.reducePow, Int.reduceToNat, Nat.reduceAdd, lk7, la, lb, w0', w1', eq_true w2']
    refine eff_callF rfl ((mul_any hk bx.1 by'.1 bx.2 by'.2).mono ?_)
    rintro v1 hz ⟨hx1, rfl⟩
    simp (disch := first | omega | assumption) only [C.k_basic_gos, T.tv, ↓reduceIte, Nat.reduceEqDiff, reduceCtorEq, Nat.reduceLeDiff, Nat.reducePow, Int.reducePow, Int.reduceToNat, Nat.reduceAdd]
    first | exact E.trans hx1 | exact ⟨E.trans hx1, rfl⟩
  rw [if_neg w2] at hR
  have w2' : ¬ (w : Int) = 2 := by omega
  by_cases w3 : w = 3
  · rw [if_pos w3] at hR
    subst hR
    have w3' : (w : Int) = 3 := by omega
    simp (disch := first | omega | assumption) only [C.k_basic_gos, T.tv, ↓reduceIte, Nat.reduceEqDiff, reduceCtorEq, Nat.reduceLeDiff, Nat.reducePow, Int.reducePow, Int.reduceToNat, Nat.reduceAdd, lk7, la, lb, w0', w1', w2', eq_true w3']
    refine eff_callF rfl ((div_any hk bx.1 by'.1 bx.2 by'.2).mono ?_)
    rintro v1 hz ⟨hx1, rfl⟩
    simp (disch := first | omega | assumption) only [C.k_basic_gos, T.tv, ↓reduceIte, Nat.reduceEqDiff, reduceCtorEq, Nat.reduceLeDiff, Nat.reducePow, Int.reducePow, Int.reduceToNat, Nat.reduceAdd]
    first | exact E.trans hx1 | exact ⟨E.trans hx1, rfl⟩
  rw [if_neg w3] at hR
  subst hR
  have w3' : ¬ (w : Int) = 3 := by omega
  simp (disch := first | omega | assumption) only [C.k_basic_gos, T.tv, ↓reduceIte, Nat.reduceEqDiff, reduceCtorEq, Nat.reduceLeDiff, Nat.reducePow, Int.reducePow, Int.reduceToNat, Nat.reduceAdd, lk7, la, lb, w0', w1', w2', w3']
  refine eff_callF rfl ((rem_any hk bx.1 by'.1 bx.2 by'.2).mono ?_)
  rintro v1 hz ⟨hx1, rfl⟩
  simp (disch := first | omega | assumption) only [C.k_basic_gos, T.tv, ↓reduceIte, Nat.reduceEqDiff, reduceCtorEq, Nat.reduceLeDiff, Nat.reducePow, Int.reducePow, Int.reduceToNat, Nat.reduceAdd]
  first | exact E.trans hx1 | exact ⟨E.trans hx1, rfl⟩
end Go.Proofs.Ytedleaeohbjfnaa
