/- Whole numbers plainly and by both; order. No condition. -/
import Derived.Test.YtedleaeohbjfnaaQV
import Derived.Test.YtedleaeohbjfnaaCn
namespace Go.Proofs.Ytedleaeohbjfnaa
open Go.Vc Go.Num
set_option maxRecDepth 100000
set_option linter.unusedSimpArgs false
set_option linter.unusedVariables false

/-! ### Order -/
theorem i32_any {h : Heap} {x : Int} (hx : -2147483648 ≤ x ∧ x < 2147483648) : HCalls Try.prog 18 #[.int .i32 x] h fun v h' => h' = h ∧ v = .int .u64 (x % 4294967296) := by
  refine C.num_i32_calls (args := [.int .i32 x]) rfl ?_
  have e1 : IntKind.u32.wrap x = x % 4294967296 := by
    simp only [IntKind.wrap, IntKind.bits, IntKind.signed, Bool.false_and, Bool.false_eq_true, if_false, Int.reducePow]
  have e2 : IntKind.u64.wrap (x % 4294967296) = x % 4294967296 := wrap_u64 (by omega) (by omega)
  simp (disch := first | omega | assumption) only [C.num_i32_gos, T.tv, ↓reduceIte, Nat.reduceEqDiff, reduceCtorEq, Nat.reduceLeDiff, Nat.reducePow, Int.reducePow, Int.reduceToNat, Nat.reduceAdd, e1, e2]
/-- -1, 0, 1, or what is told. -/
def ordS (less more none : Bool) (other : Int) : Int := if none = true then other % 4294967296 else if less = true then 4294967295 else if more = true then 1 else 0
theorem order_any {h : Heap} {l g n : Bool} {o : Int} (ho : -2147483648 ≤ o ∧ o < 2147483648) : HCalls Try.prog 8 #[.bool l, .bool g, .bool n, .int .i32 o] h fun v h' => h' = h ∧ v = .int .u64 (ordS l g n o) := by
  refine C.num_order_calls (args := [.bool l, .bool g, .bool n, .int .i32 o]) rfl ?_
  unfold ordS
  cases n
  · cases l
    · cases g
      · simp (disch := first | omega | assumption) only [C.num_order_gos, T.tv, ↓reduceIte, Nat.reduceEqDiff, reduceCtorEq, Nat.reduceLeDiff, Nat.reducePow, Int.reducePow, Int.reduceToNat, Nat.reduceAdd]
      · simp (disch := first | omega | assumption) only [C.num_order_gos, T.tv, ↓reduceIte, Nat.reduceEqDiff, reduceCtorEq, Nat.reduceLeDiff, Nat.reducePow, Int.reducePow, Int.reduceToNat, Nat.reduceAdd]
    · simp (disch := first | omega | assumption) only [C.num_order_gos, T.tv, ↓reduceIte, Nat.reduceEqDiff, reduceCtorEq, Nat.reduceLeDiff, Nat.reducePow, Int.reducePow, Int.reduceToNat, Nat.reduceAdd]
      refine eff_callF rfl ((i32_any (x := -1) (by omega)).mono ?_)
      rintro v1 h1 ⟨rfl, rfl⟩
      simp (disch := first | omega | assumption) only [C.num_order_gos, T.tv, ↓reduceIte, Nat.reduceEqDiff, reduceCtorEq, Nat.reduceLeDiff, Nat.reducePow, Int.reducePow, Int.reduceToNat, Nat.reduceAdd]
      first | done | rfl | trivial
  · simp (disch := first | omega | assumption) only [C.num_order_gos, T.tv, ↓reduceIte, Nat.reduceEqDiff, reduceCtorEq, Nat.reduceLeDiff, Nat.reducePow, Int.reducePow, Int.reduceToNat, Nat.reduceAdd]
    refine eff_callF rfl ((i32_any ho).mono ?_)
    rintro v1 h1 ⟨rfl, rfl⟩
    simp (disch := first | omega | assumption) only [C.num_order_gos, T.tv, ↓reduceIte, Nat.reduceEqDiff, reduceCtorEq, Nat.reduceLeDiff, Nat.reducePow, Int.reducePow, Int.reduceToNat, Nat.reduceAdd]
theorem rorder_any {h : Heap} {l s : Bool} : HCalls Try.prog 16 #[.bool l, .bool s] h fun v h' => h' = h ∧ v = .int .u64 (if s = true then 0 else if l = true then 4294967295 else 1) := by
  refine C.ref6_order_calls (args := [.bool l, .bool s]) rfl ?_
  cases s
  · cases l
    · simp (disch := first | omega | assumption) only [C.ref6_order_gos, T.tv, ↓reduceIte, Nat.reduceEqDiff, reduceCtorEq, Nat.reduceLeDiff, Nat.reducePow, Int.reducePow, Int.reduceToNat, Nat.reduceAdd]
    · simp (disch := first | omega | assumption) only [C.ref6_order_gos, T.tv, ↓reduceIte, Nat.reduceEqDiff, reduceCtorEq, Nat.reduceLeDiff, Nat.reducePow, Int.reducePow, Int.reduceToNat, Nat.reduceAdd]
  · simp (disch := first | omega | assumption) only [C.ref6_order_gos, T.tv, ↓reduceIte, Nat.reduceEqDiff, reduceCtorEq, Nat.reduceLeDiff, Nat.reducePow, Int.reducePow, Int.reduceToNat, Nat.reduceAdd]
theorem openN_nan {m e : Nat} (hk : Kd m e) (x : Nat) : (openN (fmt m e) x).nan = decide ((fmt m e).infRung < rung (fmt m e) x) := by
  have hf : 2 ≤ (fmt m e).exponentBits := by rcases hk with ⟨rfl, rfl⟩ | ⟨rfl, rfl⟩ <;> decide
  rcases Nat.lt_trichotomy (rung (fmt m e) x) (fmt m e).infRung with c | c | c
  · rw [open_num _ hf c, decide_eq_false (by omega)]
  · rw [(open_inf _ hf c).1, decide_eq_false (by omega)]
  · rw [open_nan _ hf c, decide_eq_true c]
/-- What the reference says of two numbers' order. -/
def rordS (f : Ieee.Format) (x y : Nat) (more : Bool) : Int :=
  if f.infRung < rung f x ∨ f.infRung < rung f y then (if more = true then 1 else 4294967295)
  else if rank f x < rank f y then 4294967295 else if rank f y < rank f x then 1 else 0
set_option maxHeartbeats 600000 in
theorem ordered_any {h : Heap} {m e x y : Nat} {more : Bool} (hk : Kd m e) (hx : x < 2 ^ (fmt m e).width) (hy : y < 2 ^ (fmt m e).width) (hx64 : x < 18446744073709551616) (hy64 : y < 18446744073709551616) :
    HCalls Try.prog 17 #[kV m e, .int .u64 (x : Int), .int .u64 (y : Int), .bool more] h fun v h' => Ext h h' ∧ v = .int .u64 (rordS (fmt m e) x y more) := by
  refine C.ref6_ordered_calls (args := [kV m e, .int .u64 (x : Int), .int .u64 (y : Int), .bool more]) rfl ?_
  simp (disch := first | omega | assumption) only [C.ref6_ordered_gos, T.tv, ↓reduceIte, Nat.reduceEqDiff, reduceCtorEq, Nat.reduceLeDiff, Nat.reducePow, Int.reducePow, Int.reduceToNat, Nat.reduceAdd]
  refine eff_box ?_
  have H := KB.push h m e
  have E := Ext.push h (.cells #[.int .i64 (m : Int), .int .i64 (e : Int)] 35)
  simp (disch := first | omega | assumption) only [C.ref6_ordered_gos, T.tv, ↓reduceIte, Nat.reduceEqDiff, reduceCtorEq, Nat.reduceLeDiff, Nat.reducePow, Int.reducePow, Int.reduceToNat, Nat.reduceAdd, Nat.zero_add]
  generalize h.push (.cells #[.int .i64 (m : Int), .int .i64 (e : Int)] 35) = h1 at *
  generalize h.size = g at *
  have lk := H.ld
  obtain ⟨R, hR⟩ : ∃ R, R = rordS (fmt m e) x y more := ⟨_, rfl⟩
  rw [← hR]
  unfold rordS at hR
  have nx := openN_nan hk x
  have ny := openN_nan hk y
  have opx := fun (h' : Heap) => open_any (h := h') hk hx64
  have opy := fun (h' : Heap) => open_any (h := h') hk hy64
  have lxy := fun (h' : Heap) => less_any (h := h') hk hx hy
  have lyx := fun (h' : Heap) => less_any (h := h') hk hy hx
  generalize rung (fmt m e) x = rx at *
  generalize rung (fmt m e) y = ry at *
  generalize (fmt m e).infRung = ir at *
  generalize rank (fmt m e) x = kx at *
  generalize rank (fmt m e) y = ky at *
  generalize openN (fmt m e) x = ox at *
  generalize openN (fmt m e) y = oy at *
  simp (disch := first | omega | assumption) only [C.ref6_ordered_gos, T.tv, ↓reduceIte, Nat.reduceEqDiff, reduceCtorEq, Nat.reduceLeDiff, Nat.reducePow, Int.reducePow, Int.reduceToNat, Nat.reduceAdd, lk]
  refine eff_callF rfl ((opx _).mono ?_)
  rintro v1 h2 ⟨hx1, rfl⟩
  have lk1 := (H.ext hx1).ld
  by_cases a : ir < rx
  · rw [decide_eq_true a] at nx
    rw [if_pos (.inl a)] at hR
    simp (disch := first | omega | assumption) only [C.ref6_ordered_gos, T.tv, ↓reduceIte, Nat.reduceEqDiff, reduceCtorEq, Nat.reduceLeDiff, Nat.reducePow, Int.reducePow, Int.reduceToNat, Nat.reduceAdd, lk1, nx]
    refine eff_callF rfl (rorder_any.mono ?_)
    rintro v2 h3 ⟨rfl, rfl⟩
    subst hR
    cases more <;> (simp (disch := first | omega | assumption) only [C.ref6_ordered_gos, T.tv, ↓reduceIte, Nat.reduceEqDiff, reduceCtorEq, Nat.reduceLeDiff, Nat.reducePow, Int.reducePow, Int.reduceToNat, Nat.reduceAdd]; first | exact E.trans hx1 | exact ⟨E.trans hx1, rfl⟩)
  rw [decide_eq_false a] at nx
  simp (disch := first | omega | assumption) only [C.ref6_ordered_gos, T.tv, ↓reduceIte, Nat.reduceEqDiff, reduceCtorEq, Nat.reduceLeDiff, Nat.reducePow, Int.reducePow, Int.reduceToNat, Nat.reduceAdd, lk1, nx]
  refine eff_callF rfl ((opy _).mono ?_)
  rintro v2 h3 ⟨hx2, rfl⟩
  have H3 := (H.ext hx1).ext hx2
  have lk2 := H3.ld
  by_cases b : ir < ry
  · rw [decide_eq_true b] at ny
    rw [if_pos (.inr b)] at hR
    simp (disch := first | omega | assumption) only [C.ref6_ordered_gos, T.tv, ↓reduceIte, Nat.reduceEqDiff, reduceCtorEq, Nat.reduceLeDiff, Nat.reducePow, Int.reducePow, Int.reduceToNat, Nat.reduceAdd, lk2, ny]
    refine eff_callF rfl (rorder_any.mono ?_)
    rintro v3 h4 ⟨rfl, rfl⟩
    subst hR
    cases more <;> (simp (disch := first | omega | assumption) only [C.ref6_ordered_gos, T.tv, ↓reduceIte, Nat.reduceEqDiff, reduceCtorEq, Nat.reduceLeDiff, Nat.reducePow, Int.reducePow, Int.reduceToNat, Nat.reduceAdd]; first | exact (E.trans hx1).trans hx2 | exact ⟨(E.trans hx1).trans hx2, rfl⟩)
  rw [decide_eq_false b] at ny
  rw [if_neg (by omega)] at hR
  simp (disch := first | omega | assumption) only [C.ref6_ordered_gos, T.tv, ↓reduceIte, Nat.reduceEqDiff, reduceCtorEq, Nat.reduceLeDiff, Nat.reducePow, Int.reducePow, Int.reduceToNat, Nat.reduceAdd, lk2, ny]
  refine eff_callF rfl ((lxy _).mono ?_)
  rintro v3 h4 ⟨hx3, rfl⟩
  have lk3 := (H3.ext hx3).ld
  have E3 := ((E.trans hx1).trans hx2).trans hx3
  by_cases c : kx < ky
  · rw [if_pos c] at hR
    rw [decide_eq_true c]
    simp (disch := first | omega | assumption) only [C.ref6_ordered_gos, T.tv, ↓reduceIte, Nat.reduceEqDiff, reduceCtorEq, Nat.reduceLeDiff, Nat.reducePow, Int.reducePow, Int.reduceToNat, Nat.reduceAdd, lk3, lk2]
    refine eff_callF rfl ((lxy _).mono ?_)
    rintro v4 h5 ⟨hx4, rfl⟩
    have lk4 := ((H3.ext hx3).ext hx4).ld
    rw [decide_eq_true c]
    simp (disch := first | omega | assumption) only [C.ref6_ordered_gos, T.tv, ↓reduceIte, Nat.reduceEqDiff, reduceCtorEq, Nat.reduceLeDiff, Nat.reducePow, Int.reducePow, Int.reduceToNat, Nat.reduceAdd, lk4]
    refine eff_callF rfl (rorder_any.mono ?_)
    rintro v5 h6 ⟨rfl, rfl⟩
    subst hR
    simp (disch := first | omega | assumption) only [C.ref6_ordered_gos, T.tv, ↓reduceIte, Nat.reduceEqDiff, reduceCtorEq, Nat.reduceLeDiff, Nat.reducePow, Int.reducePow, Int.reduceToNat, Nat.reduceAdd]
    first | exact E3.trans hx4 | exact ⟨E3.trans hx4, rfl⟩
  · rw [if_neg c] at hR
    rw [decide_eq_false c]
    simp (disch := first | omega | assumption) only [C.ref6_ordered_gos, T.tv, ↓reduceIte, Nat.reduceEqDiff, reduceCtorEq, Nat.reduceLeDiff, Nat.reducePow, Int.reducePow, Int.reduceToNat, Nat.reduceAdd, lk3, lk2]
    refine eff_callF rfl ((lxy _).mono ?_)
    rintro v4 h5 ⟨hx4, rfl⟩
    have lk4 := ((H3.ext hx3).ext hx4).ld
    rw [decide_eq_false c]
    simp (disch := first | omega | assumption) only [C.ref6_ordered_gos, T.tv, ↓reduceIte, Nat.reduceEqDiff, reduceCtorEq, Nat.reduceLeDiff, Nat.reducePow, Int.reducePow, Int.reduceToNat, Nat.reduceAdd, lk4]
    refine eff_callF rfl ((lyx _).mono ?_)
    rintro v5 h6 ⟨hx5, rfl⟩
    have E5 := (E3.trans hx4).trans hx5
    by_cases d : ky < kx
    · rw [if_pos d] at hR
      rw [decide_eq_true d]
      simp (disch := first | omega | assumption) only [C.ref6_ordered_gos, T.tv, ↓reduceIte, Nat.reduceEqDiff, reduceCtorEq, Nat.reduceLeDiff, Nat.reducePow, Int.reducePow, Int.reduceToNat, Nat.reduceAdd]
      refine eff_callF rfl (rorder_any.mono ?_)
      rintro v5 h6 ⟨rfl, rfl⟩
      subst hR
      simp (disch := first | omega | assumption) only [C.ref6_ordered_gos, T.tv, ↓reduceIte, Nat.reduceEqDiff, reduceCtorEq, Nat.reduceLeDiff, Nat.reducePow, Int.reducePow, Int.reduceToNat, Nat.reduceAdd]
      first | exact E5 | exact ⟨E5, rfl⟩
    · rw [if_neg d] at hR
      rw [decide_eq_false d]
      simp (disch := first | omega | assumption) only [C.ref6_ordered_gos, T.tv, ↓reduceIte, Nat.reduceEqDiff, reduceCtorEq, Nat.reduceLeDiff, Nat.reducePow, Int.reducePow, Int.reduceToNat, Nat.reduceAdd]
      refine eff_callF rfl (rorder_any.mono ?_)
      rintro v5 h6 ⟨rfl, rfl⟩
      subst hR
      simp (disch := first | omega | assumption) only [C.ref6_ordered_gos, T.tv, ↓reduceIte, Nat.reduceEqDiff, reduceCtorEq, Nat.reduceLeDiff, Nat.reducePow, Int.reducePow, Int.reduceToNat, Nat.reduceAdd]
      first | exact E5 | exact ⟨E5, rfl⟩
end Go.Proofs.Ytedleaeohbjfnaa
