/- The reference's kinds of numbers: the least place, sign, what is no number, infinity, lengths. No condition. -/
import Derived.Test.YtedleaeohbjfnaaQG
import Derived.Test.YtedleaeohbjfnaaVcY
import Derived.Test.YtedleaeohbjfnaaCr
namespace Go.Proofs.Ytedleaeohbjfnaa
open Go.Vc Go.Num
set_option maxRecDepth 100000
set_option linter.unusedSimpArgs false
set_option linter.unusedVariables false

abbrev fmt (m e : Nat) : Ieee.Format := ⟨e, m⟩
def Kd (m e : Nat) : Prop := (m = 23 ∧ e = 8) ∨ (m = 52 ∧ e = 11)
abbrev kV (m e : Nat) : Value := .agg #[.int .i64 (m : Int), .int .i64 (e : Int)]
abbrev nV (n : Nm) : Value := .agg #[.bool n.nan, .bool n.inf, .bool n.neg, .int .u64 (n.m : Int), .int .i64 n.e]
theorem lp23 : (fmt 23 8).leastPlace = -149 := by decide
theorem lp52 : (fmt 52 11).leastPlace = -1074 := by decide
theorem sw23 : (fmt 23 8).signWeight = 2147483648 := by decide
theorem sw52 : (fmt 52 11).signWeight = 9223372036854775808 := by decide
theorem ir23 : (fmt 23 8).infRung = 2139095040 := by decide
theorem ir52 : (fmt 52 11).infRung = 9218868437227405312 := by decide
theorem nw23 : nanW (fmt 23 8) = 2143289344 := by decide
theorem nw52 : nanW (fmt 52 11) = 9221120237041090560 := by decide
theorem cc23 : ((23 : Nat) : Int) = 23 := rfl
theorem cc8 : ((8 : Nat) : Int) = 8 := rfl
theorem cc52 : ((52 : Nat) : Int) = 52 := rfl
theorem cc11 : ((11 : Nat) : Int) = 11 := rfl
theorem Fr_blk {S : Nat → Prop} {h h' : Heap} (H : Fr S h h') {b : Nat} {o : Obj} (hb : h[b]? = some o) (hS : ¬ S b) : h'[b]? = some o := by
  rw [H.same b (Array.getElem?_eq_some_iff.1 hb).1 hS, hb]
theorem Rd_block {h : Heap} {b : Nat} {vs : List Value} {e : TypeId} {fz : Nat × Nat} (hb : h[b]? = some (.cells vs.toArray e fz)) : Rd h b 0 vs := by
  intro j v hv
  rw [Nat.zero_add, cellAt_of hb]; simpa using hv
/-- A kind in its block. -/
structure KB (h : Heap) (g m e : Nat) : Prop where
  b : h[g]? = some (.cells #[.int .i64 (m : Int), .int .i64 (e : Int)] 35 (0, 0))
theorem KB.push (h : Heap) (m e : Nat) : KB (h.push (.cells #[.int .i64 (m : Int), .int .i64 (e : Int)] 35)) h.size m e := ⟨by simp⟩
theorem KB.ext {h h' : Heap} {g m e : Nat} (H : KB h g m e) (x : Ext h h') : KB h' g m e := ⟨Fr_blk x H.b _root_.id⟩
theorem KB.c0 {h : Heap} {g m e : Nat} (H : KB h g m e) : cellAt h ⟨g, 0, none⟩ = some (.int .i64 (m : Int)) := by rw [cellAt_of H.b]; rfl
theorem KB.c1 {h : Heap} {g m e : Nat} (H : KB h g m e) : cellAt h ⟨g, 1, none⟩ = some (.int .i64 (e : Int)) := by rw [cellAt_of H.b]; rfl
theorem KB.ld {h : Heap} {g m e : Nat} (H : KB h g m e) : ld Try.prog 35 ⟨g, 0, none⟩ h = some (kV m e) :=
  ld_agg T.ag_35 (Rd_block (vs := [.int .i64 (m : Int), .int .i64 (e : Int)]) H.b) rfl

theorem least_any {h : Heap} {m e : Nat} (hk : Kd m e) : HCalls Try.prog 36 #[kV m e] h fun v h' => Ext h h' ∧ v = .int .i64 (fmt m e).leastPlace := by
  refine C.k_least_calls (args := [kV m e]) rfl ?_
  simp (disch := first | omega | assumption) only [C.k_least_gos, T.tv, ↓reduceIte, Nat.reduceEqDiff, reduceCtorEq, Nat.reduceLeDiff, Nat.reducePow, Int.reducePow, Int.reduceToNat, Nat.reduceAdd]
  refine eff_box ?_
  have H := KB.push h m e
  have E := Ext.push h (.cells #[.int .i64 (m : Int), .int .i64 (e : Int)] 35)
  simp (disch := first | omega | assumption) only [C.k_least_gos, T.tv, ↓reduceIte, Nat.reduceEqDiff, reduceCtorEq, Nat.reduceLeDiff, Nat.reducePow, Int.reducePow, Int.reduceToNat, Nat.reduceAdd, Nat.zero_add]
  generalize h.push (.cells #[.int .i64 (m : Int), .int .i64 (e : Int)] 35) = h1 at *
  generalize h.size = g at *
  have c0 := H.c0
  have c1 := H.c1
  rcases hk with ⟨rfl, rfl⟩ | ⟨rfl, rfl⟩
  · rw [lp23]
    simp (disch := first | omega | assumption) only [C.k_least_gos, T.tv, ↓reduceIte, Nat.reduceEqDiff, reduceCtorEq, Nat.reduceLeDiff, Nat.reducePow, Int.reducePow, Int.reduceToNat, Nat.reduceAdd, c0, c1, cc23, cc8, cc52, cc11, Int.reduceSub, Int.reduceAdd, Int.reduceMul]
    exact E
  · rw [lp52]
    simp (disch := first | omega | assumption) only [C.k_least_gos, T.tv, ↓reduceIte, Nat.reduceEqDiff, reduceCtorEq, Nat.reduceLeDiff, Nat.reducePow, Int.reducePow, Int.reduceToNat, Nat.reduceAdd, c0, c1, cc23, cc8, cc52, cc11, Int.reduceSub, Int.reduceAdd, Int.reduceMul]
    exact E
theorem nan_any' {h : Heap} {m e : Nat} (hk : Kd m e) : HCalls Try.prog 37 #[kV m e] h fun v h' => Ext h h' ∧ v = .int .u64 (nanW (fmt m e) : Nat) := by
  refine C.k_nan_calls (args := [kV m e]) rfl ?_
  simp (disch := first | omega | assumption) only [C.k_nan_gos, T.tv, ↓reduceIte, Nat.reduceEqDiff, reduceCtorEq, Nat.reduceLeDiff, Nat.reducePow, Int.reducePow, Int.reduceToNat, Nat.reduceAdd]
  refine eff_box ?_
  have H := KB.push h m e
  have E := Ext.push h (.cells #[.int .i64 (m : Int), .int .i64 (e : Int)] 35)
  simp (disch := first | omega | assumption) only [C.k_nan_gos, T.tv, ↓reduceIte, Nat.reduceEqDiff, reduceCtorEq, Nat.reduceLeDiff, Nat.reducePow, Int.reducePow, Int.reduceToNat, Nat.reduceAdd, Nat.zero_add]
  generalize h.push (.cells #[.int .i64 (m : Int), .int .i64 (e : Int)] 35) = h1 at *
  generalize h.size = g at *
  have c0 := H.c0
  have c1 := H.c1
  rcases hk with ⟨rfl, rfl⟩ | ⟨rfl, rfl⟩
  · rw [nw23]
    simp (disch := first | omega | assumption) only [C.k_nan_gos, T.tv, ↓reduceIte, Nat.reduceEqDiff, reduceCtorEq, Nat.reduceLeDiff, Nat.reducePow, Int.reducePow, Int.reduceToNat, Nat.reduceAdd, c0, c1, cc23, cc8, cc52, cc11, Int.reduceSub, Int.reduceAdd, Int.reduceMul]
    exact ⟨E, rfl⟩
  · rw [nw52]
    simp (disch := first | omega | assumption) only [C.k_nan_gos, T.tv, ↓reduceIte, Nat.reduceEqDiff, reduceCtorEq, Nat.reduceLeDiff, Nat.reducePow, Int.reducePow, Int.reduceToNat, Nat.reduceAdd, c0, c1, cc23, cc8, cc52, cc11, Int.reduceSub, Int.reduceAdd, Int.reduceMul]
    exact ⟨E, rfl⟩
theorem sign_any {h : Heap} {m e : Nat} (neg : Bool) (hk : Kd m e) : HCalls Try.prog 41 #[kV m e, .bool neg] h fun v h' => Ext h h' ∧ v = .int .u64 (((fmt m e).word neg 0 : Nat) : Int) := by
  refine C.k_sign_calls (args := [kV m e, .bool neg]) rfl ?_
  simp (disch := first | omega | assumption) only [C.k_sign_gos, T.tv, ↓reduceIte, Nat.reduceEqDiff, reduceCtorEq, Nat.reduceLeDiff, Nat.reducePow, Int.reducePow, Int.reduceToNat, Nat.reduceAdd]
  refine eff_box ?_
  have H := KB.push h m e
  have E := Ext.push h (.cells #[.int .i64 (m : Int), .int .i64 (e : Int)] 35)
  simp (disch := first | omega | assumption) only [C.k_sign_gos, T.tv, ↓reduceIte, Nat.reduceEqDiff, reduceCtorEq, Nat.reduceLeDiff, Nat.reducePow, Int.reducePow, Int.reduceToNat, Nat.reduceAdd, Nat.zero_add]
  generalize h.push (.cells #[.int .i64 (m : Int), .int .i64 (e : Int)] 35) = h1 at *
  generalize h.size = g at *
  have c0 := H.c0
  have c1 := H.c1
  unfold Ieee.Format.word
  cases neg
  · simp (disch := first | omega | assumption) only [C.k_sign_gos, T.tv, ↓reduceIte, Nat.reduceEqDiff, reduceCtorEq, Nat.reduceLeDiff, Nat.reducePow, Int.reducePow, Int.reduceToNat, Nat.reduceAdd, c0, c1, cc23, cc8, cc52, cc11, Int.reduceSub, Int.reduceAdd, Int.reduceMul]
    exact ⟨E, rfl⟩
  rcases hk with ⟨rfl, rfl⟩ | ⟨rfl, rfl⟩
  · rw [sw23]
    simp (disch := first | omega | assumption) only [C.k_sign_gos, T.tv, ↓reduceIte, Nat.reduceEqDiff, reduceCtorEq, Nat.reduceLeDiff, Nat.reducePow, Int.reducePow, Int.reduceToNat, Nat.reduceAdd, c0, c1, cc23, cc8, cc52, cc11, Int.reduceSub, Int.reduceAdd, Int.reduceMul]
    exact ⟨E, rfl⟩
  · rw [sw52]
    simp (disch := first | omega | assumption) only [C.k_sign_gos, T.tv, ↓reduceIte, Nat.reduceEqDiff, reduceCtorEq, Nat.reduceLeDiff, Nat.reducePow, Int.reducePow, Int.reduceToNat, Nat.reduceAdd, c0, c1, cc23, cc8, cc52, cc11, Int.reduceSub, Int.reduceAdd, Int.reduceMul]
    exact ⟨E, rfl⟩
theorem inf_any {h : Heap} {m e : Nat} (neg : Bool) (hk : Kd m e) : HCalls Try.prog 38 #[kV m e, .bool neg] h fun v h' => Ext h h' ∧ v = .int .u64 ((infW (fmt m e) neg : Nat) : Int) := by
  refine C.k_inf_calls (args := [kV m e, .bool neg]) rfl ?_
  simp (disch := first | omega | assumption) only [C.k_inf_gos, T.tv, ↓reduceIte, Nat.reduceEqDiff, reduceCtorEq, Nat.reduceLeDiff, Nat.reducePow, Int.reducePow, Int.reduceToNat, Nat.reduceAdd]
  refine eff_box ?_
  have H := KB.push h m e
  have E := Ext.push h (.cells #[.int .i64 (m : Int), .int .i64 (e : Int)] 35)
  simp (disch := first | omega | assumption) only [C.k_inf_gos, T.tv, ↓reduceIte, Nat.reduceEqDiff, reduceCtorEq, Nat.reduceLeDiff, Nat.reducePow, Int.reducePow, Int.reduceToNat, Nat.reduceAdd, Nat.zero_add]
  generalize h.push (.cells #[.int .i64 (m : Int), .int .i64 (e : Int)] 35) = h1 at *
  generalize h.size = g at *
  have c0 := H.c0
  have c1 := H.c1
  have l := H.ld
  have hs : (infW (fmt m e) neg : Nat) = (fmt m e).word neg 0 + (fmt m e).infRung := by
    unfold infW Ieee.Format.word; cases neg <;> simp
  simp (disch := first | omega | assumption) only [C.k_inf_gos, T.tv, ↓reduceIte, Nat.reduceEqDiff, reduceCtorEq, Nat.reduceLeDiff, Nat.reducePow, Int.reducePow, Int.reduceToNat, Nat.reduceAdd, c0, c1, l]
  refine eff_callF rfl ((sign_any neg hk).mono ?_)
  rintro v1 h2 ⟨hx, rfl⟩
  have c0' := (H.ext hx).c0
  have c1' := (H.ext hx).c1
  have hw : (fmt m e).word neg 0 ≤ 9223372036854775808 := by
    unfold Ieee.Format.word
    rcases hk with ⟨rfl, rfl⟩ | ⟨rfl, rfl⟩ <;> cases neg <;> decide
  rw [hs]
  clear hs
  generalize (fmt m e).word neg 0 = w at *
  rcases hk with ⟨rfl, rfl⟩ | ⟨rfl, rfl⟩
  · rw [ir23, Int.natCast_add]
    simp (disch := first | omega | assumption) only [C.k_inf_gos, T.tv, ↓reduceIte, Nat.reduceEqDiff, reduceCtorEq, Nat.reduceLeDiff, Nat.reducePow, Int.reducePow, Int.reduceToNat, Nat.reduceAdd, c0, c1, c0', c1', cc23, cc8, cc52, cc11, Int.reduceSub, Int.reduceAdd, Int.reduceMul]
    simp (disch := omega) only [wrap_u64, Int.reduceSub, Int.reduceMul]
    first | exact E.trans hx | exact ⟨E.trans hx, by rfl⟩ | exact ⟨E.trans hx, trivial⟩
  · rw [ir52, Int.natCast_add]
    simp (disch := first | omega | assumption) only [C.k_inf_gos, T.tv, ↓reduceIte, Nat.reduceEqDiff, reduceCtorEq, Nat.reduceLeDiff, Nat.reducePow, Int.reducePow, Int.reduceToNat, Nat.reduceAdd, c0, c1, c0', c1', cc23, cc8, cc52, cc11, Int.reduceSub, Int.reduceAdd, Int.reduceMul]
    simp (disch := omega) only [wrap_u64, Int.reduceSub, Int.reduceMul]
    first | exact E.trans hx | exact ⟨E.trans hx, by rfl⟩ | exact ⟨E.trans hx, trivial⟩
theorem length_any {h : Heap} {x : Nat} (hx : x < 18446744073709551616) : HCalls Try.prog 40 #[.int .u64 (x : Int)] h fun v h' => h' = h ∧ v = .int .i64 (len x : Nat) := by
  refine C.ref6_length_calls (args := [.int .u64 (x : Int)]) rfl ?_
  simp (disch := first | omega | assumption) only [C.ref6_length_gos, T.tv, ↓reduceIte, Nat.reduceEqDiff, reduceCtorEq, Nat.reduceLeDiff, Nat.reducePow, Int.reducePow, Int.reduceToNat, Nat.reduceAdd]
  have hl64 : len x ≤ 64 := le_len (by rw [show (2 : Nat) ^ 64 = 18446744073709551616 by decide]; exact hx)
  refine loop_intro [0, 3] (fun q ρ hc => ∃ y n : Nat, q = y ∧ y < 18446744073709551616 ∧ n + len y = len x ∧ ρ = [(0, .int .u64 (y : Int)), (3, .int .i64 (n : Int))] ∧ hc = h) ?_ ?_
  · simp (disch := first | omega | assumption) only [C.ref6_length_gos, T.tv, ↓reduceIte, Nat.reduceEqDiff, reduceCtorEq, Nat.reduceLeDiff, Nat.reducePow, Int.reducePow, Int.reduceToNat, Nat.reduceAdd]
    exact ⟨_, x, 0, rfl, hx, by omega, rfl⟩
  rintro q ρ hc ⟨y, n, rfl, hy, hn, rfl, rfl⟩
  by_cases c : 0 < q
  · have hlen : len q = len (q / 2) + 1 := by
      by_cases c2 : q / 2 = 0
      · have : q = 1 := by omega
        subst this; decide
      · have := len_shift (x := q / 2) (s := 1) (r := q % 2) c2 (by omega)
        rw [show q / 2 * 2 ^ 1 + q % 2 = q by omega] at this
        exact this
    have c' : (0 : Int) < (q : Int) := by omega
    have e1 : (q : Int) / 2 = ((q / 2 : Nat) : Int) := by omega
    have e2 : (n : Int) + 1 = ((n + 1 : Nat) : Int) := by omega
    have e3 : IntKind.u64.wrap ((q / 2 : Nat) : Int) = ((q / 2 : Nat) : Int) := wrap_u64 (by omega) (by omega)
    simp (disch := first | omega | assumption) only [C.ref6_length_gos, T.tv, ↓reduceIte, Nat.reduceEqDiff, reduceCtorEq, Nat.reduceLeDiff, Nat.reducePow, Int.reducePow, Int.reduceToNat, Nat.reduceAdd, c', e1, e2, e3]
    exact ⟨q / 2, by omega, q / 2, n + 1, rfl, by omega, by omega, rfl⟩
  · have : q = 0 := by omega
    subst this
    have c' : ¬ (0 : Int) < ((0 : Nat) : Int) := by omega
    have e : n = len x := by rw [← hn]; simp [len]
    subst e
    simp (disch := first | omega | assumption) only [C.ref6_length_gos, T.tv, ↓reduceIte, Nat.reduceEqDiff, reduceCtorEq, Nat.reduceLeDiff, Nat.reducePow, Int.reducePow, Int.reduceToNat, Nat.reduceAdd, c']
end Go.Proofs.Ytedleaeohbjfnaa
