/- num.basic and num.Two: what they give. No condition. -/
import Derived.Test.YtedleaeohbjfnaaRE
import Derived.Test.YtedleaeohbjfnaaQY
import Derived.Test.YtedleaeohbjfnaaRC
namespace Go.Proofs.Ytedleaeohbjfnaa
open Go.Vc Go.Num
set_option maxRecDepth 100000
set_option linter.unusedSimpArgs false
set_option linter.unusedVariables false

/-- What an instruction of two values gives: a word and an error's number. -/
def basS (k w a b : Nat) : Int × Int :=
  if k = 0 then (if 2 < w ∧ b % 4294967296 = 0 then (0, 27) else (whS 4294967296 w (sgI 4294967296 (a % 4294967296)) (sgI 4294967296 (b % 4294967296)), 0))
  else if k = 1 then (if 2 < w ∧ b = 0 then (0, 27) else (whS 18446744073709551616 w (sgI 18446744073709551616 a) (sgI 18446744073709551616 b), 0))
  else if k = 2 then (((opS SG w (a % 4294967296) (b % 4294967296) : Nat) : Int), 0)
  else (((opS D w a b : Nat) : Int), 0)
theorem real32 {w x y : Nat} {r : Nat} (h : PR SG w x y r) : (if SG.infRung < rung SG r then nanW SG else r) = opS SG w x y := by
  rcases h with ⟨h1, h2⟩ | ⟨h1, h2⟩
  · rw [if_pos h1, h2]
  · rw [if_neg (by omega), h2]
theorem sgI_zero {q a : Nat} (ha : a < q) (h : a ≠ 0) : sgI q a ≠ 0 := by
  unfold sgI; split <;> omega

set_option maxHeartbeats 2000000 in
theorem basic_0 {h : Heap} {o w a b : Nat} (hw : w ≤ 4) (ho : o = 96 + 4 * w + 0) (ha : a < 18446744073709551616) (hb : b < 18446744073709551616) :
    HCalls Try.prog 6 #[.int .u8 (o : Int), .int .u64 (a : Int), .int .u64 (b : Int)] h fun v h' => h' = h ∧ v = .tuple #[.int .u64 (basS 0 w a b).1, .int .i64 (basS 0 w a b).2] := by
  refine C.num_basic_calls (args := [.int .u8 (o : Int), .int .u64 (a : Int), .int .u64 (b : Int)]) rfl ?_
  have e1 : (o : Int) - 96 = ((4 * w + 0 : Nat) : Int) := by omega
  have e0 : IntKind.u8.wrap ((4 * w + 0 : Nat) : Int) = ((4 * w + 0 : Nat) : Int) := wrap_u8 (by omega) (by omega)
  have e2 : ((4 * w + 0 : Nat) : Int) % 4 = 0 := by omega
  have e3 : ((4 * w + 0 : Nat) : Int) / 4 = (w : Int) := by omega
  have e4 : IntKind.u8.wrap (w : Int) = (w : Int) := wrap_u8 (by omega) (by omega)
  clear ho
  generalize ((4 * w + 0 : Nat) : Int) = z at *

  have f0 : basS 0 w a b = if 2 < w ∧ b % 4294967296 = 0 then (0, 27) else (whS 4294967296 w (sgI 4294967296 (a % 4294967296)) (sgI 4294967296 (b % 4294967296)), 0) := rfl
  have ub := wrap_u32_mod b
  have sa := wrap_s32 a
  have sb := wrap_s32 b
  have ra := sg_range32 (a := a % 4294967296) (by omega)
  have rb := sg_range32 (a := b % 4294967296) (by omega)
  have nb : b % 4294967296 ≠ 0 → sgI 4294967296 (b % 4294967296) ≠ 0 := sgI_zero (by omega)
  by_cases c1 : (2 : Int) < (w : Int)
  · by_cases c2 : ((b % 4294967296 : Nat) : Int) = 0
    · rw [f0, if_pos ⟨by omega, by omega⟩]
      simp (disch := first | omega | assumption) only [C.num_basic_gos, T.tv, ↓reduceIte, Nat.reduceEqDiff, reduceCtorEq, Nat.reduceLeDiff, Nat.reducePow, Int.reducePow, Int.reduceToNat, Nat.reduceAdd, vf, ub, e1, e0, e2, e3, e4, c1, c2, Int.reduceEq, Int.reduceSub, Int.reduceMul, Int.reduceAdd, Int.reduceNeg, Int.reduceLT, Int.reduceLE]
    · rw [f0, if_neg (by omega)]
      simp (disch := first | omega | assumption) only [C.num_basic_gos, T.tv, ↓reduceIte, Nat.reduceEqDiff, reduceCtorEq, Nat.reduceLeDiff, Nat.reducePow, Int.reducePow, Int.reduceToNat, Nat.reduceAdd, vf, ub, sa, sb, e1, e0, e2, e3, e4, c1, c2, Int.reduceEq, Int.reduceSub, Int.reduceMul, Int.reduceAdd, Int.reduceNeg, Int.reduceLT, Int.reduceLE]
      refine eff_callF rfl ((whole32_any hw ⟨ra.1, ra.2.1⟩ ⟨rb.1, rb.2.1⟩ (fun _ => nb (by omega))).mono ?_)
      rintro v1 h1 ⟨rfl, r, rfl, g1, g2, g3⟩
      simp (disch := first | omega | assumption) only [C.num_basic_gos, T.tv, ↓reduceIte, Nat.reduceEqDiff, reduceCtorEq, Nat.reduceLeDiff, Nat.reducePow, Int.reducePow, Int.reduceToNat, Nat.reduceAdd]
      refine eff_callF rfl ((i32_any ⟨g1, g2⟩).mono ?_)
      rintro v2 h2 ⟨rfl, rfl⟩
      rw [g3]
      simp (disch := first | omega | assumption) only [C.num_basic_gos, T.tv, ↓reduceIte, Nat.reduceEqDiff, reduceCtorEq, Nat.reduceLeDiff, Nat.reducePow, Int.reducePow, Int.reduceToNat, Nat.reduceAdd]
  · rw [f0, if_neg (by omega)]
    simp (disch := first | omega | assumption) only [C.num_basic_gos, T.tv, ↓reduceIte, Nat.reduceEqDiff, reduceCtorEq, Nat.reduceLeDiff, Nat.reducePow, Int.reducePow, Int.reduceToNat, Nat.reduceAdd, vf, sa, sb, e1, e0, e2, e3, e4, c1, Int.reduceEq, Int.reduceSub, Int.reduceMul, Int.reduceAdd, Int.reduceNeg, Int.reduceLT, Int.reduceLE]
    refine eff_callF rfl ((whole32_any hw ⟨ra.1, ra.2.1⟩ ⟨rb.1, rb.2.1⟩ (fun _ => by omega)).mono ?_)
    rintro v1 h1 ⟨rfl, r, rfl, g1, g2, g3⟩
    simp (disch := first | omega | assumption) only [C.num_basic_gos, T.tv, ↓reduceIte, Nat.reduceEqDiff, reduceCtorEq, Nat.reduceLeDiff, Nat.reducePow, Int.reducePow, Int.reduceToNat, Nat.reduceAdd]
    refine eff_callF rfl ((i32_any ⟨g1, g2⟩).mono ?_)
    rintro v2 h2 ⟨rfl, rfl⟩
    rw [g3]
    simp (disch := first | omega | assumption) only [C.num_basic_gos, T.tv, ↓reduceIte, Nat.reduceEqDiff, reduceCtorEq, Nat.reduceLeDiff, Nat.reducePow, Int.reducePow, Int.reduceToNat, Nat.reduceAdd]
set_option maxHeartbeats 2000000 in
theorem basic_1 {h : Heap} {o w a b : Nat} (hw : w ≤ 4) (ho : o = 96 + 4 * w + 1) (ha : a < 18446744073709551616) (hb : b < 18446744073709551616) :
    HCalls Try.prog 6 #[.int .u8 (o : Int), .int .u64 (a : Int), .int .u64 (b : Int)] h fun v h' => h' = h ∧ v = .tuple #[.int .u64 (basS 1 w a b).1, .int .i64 (basS 1 w a b).2] := by
  refine C.num_basic_calls (args := [.int .u8 (o : Int), .int .u64 (a : Int), .int .u64 (b : Int)]) rfl ?_
  have e1 : (o : Int) - 96 = ((4 * w + 1 : Nat) : Int) := by omega
  have e0 : IntKind.u8.wrap ((4 * w + 1 : Nat) : Int) = ((4 * w + 1 : Nat) : Int) := wrap_u8 (by omega) (by omega)
  have e2 : ((4 * w + 1 : Nat) : Int) % 4 = 1 := by omega
  have e3 : ((4 * w + 1 : Nat) : Int) / 4 = (w : Int) := by omega
  have e4 : IntKind.u8.wrap (w : Int) = (w : Int) := wrap_u8 (by omega) (by omega)
  clear ho
  generalize ((4 * w + 1 : Nat) : Int) = z at *

  have f0 : basS 1 w a b = if 2 < w ∧ b = 0 then (0, 27) else (whS 18446744073709551616 w (sgI 18446744073709551616 a) (sgI 18446744073709551616 b), 0) := rfl
  have sa := wrap_s64 a
  have sb := wrap_s64 b
  rw [Nat.mod_eq_of_lt ha] at sa
  rw [Nat.mod_eq_of_lt hb] at sb
  have ra := sg_range64 ha
  have rb := sg_range64 hb
  have nb : b ≠ 0 → sgI 18446744073709551616 b ≠ 0 := sgI_zero hb
  by_cases c1 : (2 : Int) < (w : Int)
  · by_cases c2 : (b : Int) = 0
    · rw [f0, if_pos ⟨by omega, by omega⟩]
      simp (disch := first | omega | assumption) only [C.num_basic_gos, T.tv, ↓reduceIte, Nat.reduceEqDiff, reduceCtorEq, Nat.reduceLeDiff, Nat.reducePow, Int.reducePow, Int.reduceToNat, Nat.reduceAdd, vf, e1, e0, e2, e3, e4, c1, c2, Int.reduceEq, Int.reduceSub, Int.reduceMul, Int.reduceAdd, Int.reduceNeg, Int.reduceLT, Int.reduceLE]
    · rw [f0, if_neg (by omega)]
      simp (disch := first | omega | assumption) only [C.num_basic_gos, T.tv, ↓reduceIte, Nat.reduceEqDiff, reduceCtorEq, Nat.reduceLeDiff, Nat.reducePow, Int.reducePow, Int.reduceToNat, Nat.reduceAdd, vf, sa, sb, e1, e0, e2, e3, e4, c1, c2, Int.reduceEq, Int.reduceSub, Int.reduceMul, Int.reduceAdd, Int.reduceNeg, Int.reduceLT, Int.reduceLE]
      refine eff_callF rfl ((whole64_any hw ⟨ra.1, ra.2.1⟩ ⟨rb.1, rb.2.1⟩ (fun _ => nb (by omega))).mono ?_)
      rintro v1 h1 ⟨rfl, r, rfl, g1, g2, g3⟩
      have g4 := wrap_u64_all r
      rw [g3] at g4
      simp (disch := first | omega | assumption) only [C.num_basic_gos, T.tv, ↓reduceIte, Nat.reduceEqDiff, reduceCtorEq, Nat.reduceLeDiff, Nat.reducePow, Int.reducePow, Int.reduceToNat, Nat.reduceAdd, g4]
  · rw [f0, if_neg (by omega)]
    simp (disch := first | omega | assumption) only [C.num_basic_gos, T.tv, ↓reduceIte, Nat.reduceEqDiff, reduceCtorEq, Nat.reduceLeDiff, Nat.reducePow, Int.reducePow, Int.reduceToNat, Nat.reduceAdd, vf, sa, sb, e1, e0, e2, e3, e4, c1, Int.reduceEq, Int.reduceSub, Int.reduceMul, Int.reduceAdd, Int.reduceNeg, Int.reduceLT, Int.reduceLE]
    refine eff_callF rfl ((whole64_any hw ⟨ra.1, ra.2.1⟩ ⟨rb.1, rb.2.1⟩ (fun _ => by omega)).mono ?_)
    rintro v1 h1 ⟨rfl, r, rfl, g1, g2, g3⟩
    have g4 := wrap_u64_all r
    rw [g3] at g4
    simp (disch := first | omega | assumption) only [C.num_basic_gos, T.tv, ↓reduceIte, Nat.reduceEqDiff, reduceCtorEq, Nat.reduceLeDiff, Nat.reducePow, Int.reducePow, Int.reduceToNat, Nat.reduceAdd, g4]
set_option maxHeartbeats 2000000 in
theorem basic_2 {h : Heap} {o w a b : Nat} (hw : w ≤ 4) (ho : o = 96 + 4 * w + 2) (ha : a < 18446744073709551616) (hb : b < 18446744073709551616) :
    HCalls Try.prog 6 #[.int .u8 (o : Int), .int .u64 (a : Int), .int .u64 (b : Int)] h fun v h' => h' = h ∧ v = .tuple #[.int .u64 (basS 2 w a b).1, .int .i64 (basS 2 w a b).2] := by
  refine C.num_basic_calls (args := [.int .u8 (o : Int), .int .u64 (a : Int), .int .u64 (b : Int)]) rfl ?_
  have e1 : (o : Int) - 96 = ((4 * w + 2 : Nat) : Int) := by omega
  have e0 : IntKind.u8.wrap ((4 * w + 2 : Nat) : Int) = ((4 * w + 2 : Nat) : Int) := wrap_u8 (by omega) (by omega)
  have e2 : ((4 * w + 2 : Nat) : Int) % 4 = 2 := by omega
  have e3 : ((4 * w + 2 : Nat) : Int) / 4 = (w : Int) := by omega
  have e4 : IntKind.u8.wrap (w : Int) = (w : Int) := wrap_u8 (by omega) (by omega)
  clear ho
  generalize ((4 * w + 2 : Nat) : Int) = z at *

  simp (disch := first | omega | assumption) only [C.num_basic_gos, T.tv, ↓reduceIte, Nat.reduceEqDiff, reduceCtorEq, Nat.reduceLeDiff, Nat.reducePow, Int.reducePow, Int.reduceToNat, Nat.reduceAdd, vf, e1, e0, e2, e3, e4, Int.reduceEq, Int.reduceSub, Int.reduceMul, Int.reduceAdd, Int.reduceNeg, Int.reduceLT, Int.reduceLE]
  refine eff_callF rfl (f32_any.mono ?_)
  rintro v1 h1 ⟨rfl, rfl⟩
  simp (disch := first | omega | assumption) only [C.num_basic_gos, T.tv, ↓reduceIte, Nat.reduceEqDiff, reduceCtorEq, Nat.reduceLeDiff, Nat.reducePow, Int.reducePow, Int.reduceToNat, Nat.reduceAdd]
  refine eff_callF rfl (f32_any.mono ?_)
  rintro v2 h2 ⟨rfl, rfl⟩
  simp (disch := first | omega | assumption) only [C.num_basic_gos, T.tv, ↓reduceIte, Nat.reduceEqDiff, reduceCtorEq, Nat.reduceLeDiff, Nat.reducePow, Int.reducePow, Int.reduceToNat, Nat.reduceAdd]
  refine eff_callF rfl ((part32_any hw (Nat.mod_lt _ (by decide)) (Nat.mod_lt _ (by decide))).mono ?_)
  rintro v3 h3 ⟨rfl, r, rb, hr, rfl⟩
  simp (disch := first | omega | assumption) only [C.num_basic_gos, T.tv, ↓reduceIte, Nat.reduceEqDiff, reduceCtorEq, Nat.reduceLeDiff, Nat.reducePow, Int.reducePow, Int.reduceToNat, Nat.reduceAdd]
  refine eff_callF rfl ((of32_any rb).mono ?_)
  rintro v4 h4 ⟨rfl, rfl⟩
  rw [real32 hr]
  simp (disch := first | omega | assumption) only [C.num_basic_gos, T.tv, ↓reduceIte, Nat.reduceEqDiff, reduceCtorEq, Nat.reduceLeDiff, Nat.reducePow, Int.reducePow, Int.reduceToNat, Nat.reduceAdd]
  first | done | rfl
set_option maxHeartbeats 2000000 in
theorem basic_3 {h : Heap} {o w a b : Nat} (hw : w ≤ 4) (ho : o = 96 + 4 * w + 3) (ha : a < 18446744073709551616) (hb : b < 18446744073709551616) :
    HCalls Try.prog 6 #[.int .u8 (o : Int), .int .u64 (a : Int), .int .u64 (b : Int)] h fun v h' => h' = h ∧ v = .tuple #[.int .u64 (basS 3 w a b).1, .int .i64 (basS 3 w a b).2] := by
  refine C.num_basic_calls (args := [.int .u8 (o : Int), .int .u64 (a : Int), .int .u64 (b : Int)]) rfl ?_
  have e1 : (o : Int) - 96 = ((4 * w + 3 : Nat) : Int) := by omega
  have e0 : IntKind.u8.wrap ((4 * w + 3 : Nat) : Int) = ((4 * w + 3 : Nat) : Int) := wrap_u8 (by omega) (by omega)
  have e2 : ((4 * w + 3 : Nat) : Int) % 4 = 3 := by omega
  have e3 : ((4 * w + 3 : Nat) : Int) / 4 = (w : Int) := by omega
  have e4 : IntKind.u8.wrap (w : Int) = (w : Int) := wrap_u8 (by omega) (by omega)
  clear ho
  generalize ((4 * w + 3 : Nat) : Int) = z at *

  simp (disch := first | omega | assumption) only [C.num_basic_gos, T.tv, ↓reduceIte, Nat.reduceEqDiff, reduceCtorEq, Nat.reduceLeDiff, Nat.reducePow, Int.reducePow, Int.reduceToNat, Nat.reduceAdd, vf, e1, e0, e2, e3, e4, Int.reduceEq, Int.reduceSub, Int.reduceMul, Int.reduceAdd, Int.reduceNeg, Int.reduceLT, Int.reduceLE]
  refine eff_callF rfl (f64_any.mono ?_)
  rintro v1 h1 ⟨rfl, rfl⟩
  simp (disch := first | omega | assumption) only [C.num_basic_gos, T.tv, ↓reduceIte, Nat.reduceEqDiff, reduceCtorEq, Nat.reduceLeDiff, Nat.reducePow, Int.reducePow, Int.reduceToNat, Nat.reduceAdd]
  refine eff_callF rfl (f64_any.mono ?_)
  rintro v2 h2 ⟨rfl, rfl⟩
  simp (disch := first | omega | assumption) only [C.num_basic_gos, T.tv, ↓reduceIte, Nat.reduceEqDiff, reduceCtorEq, Nat.reduceLeDiff, Nat.reducePow, Int.reducePow, Int.reduceToNat, Nat.reduceAdd]
  refine eff_callF rfl ((part64_any hw ha hb).mono ?_)
  rintro v3 h3 ⟨rfl, r, hr, rfl⟩
  simp (disch := first | omega | assumption) only [C.num_basic_gos, T.tv, ↓reduceIte, Nat.reduceEqDiff, reduceCtorEq, Nat.reduceLeDiff, Nat.reducePow, Int.reducePow, Int.reduceToNat, Nat.reduceAdd]
  refine eff_callF rfl (of64_any.mono ?_)
  rintro v4 h4 ⟨rfl, rfl⟩
  rw [real64_any hr]
  simp (disch := first | omega | assumption) only [C.num_basic_gos, T.tv, ↓reduceIte, Nat.reduceEqDiff, reduceCtorEq, Nat.reduceLeDiff, Nat.reducePow, Int.reducePow, Int.reduceToNat, Nat.reduceAdd]
  first | done | rfl
end Go.Proofs.Ytedleaeohbjfnaa
