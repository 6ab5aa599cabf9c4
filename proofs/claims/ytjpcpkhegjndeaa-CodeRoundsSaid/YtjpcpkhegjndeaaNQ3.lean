/- The law CodeRounds, on heaps. -/
import Derived.Test.YtjpcpkhegjndeaaNQ2
import Derived.Test.YtjpcpkhegjndeaaNDL
import Derived.Test.YtjpcpkhegjndeaaND7
import Derived.Test.YtjpcpkhegjndeaaCi
namespace Go.Proofs.Ytjpcpkhegjndeaa
open Go.Vc
set_option maxRecDepth 100000
set_option linter.unusedSimpArgs false
set_option linter.unusedVariables false

set_option maxHeartbeats 2000000 in
theorem codeRounds_any (l : List UInt8) (h : Heap) (hl : l.length ≤ 9223372036854775807) :
    HCalls Try.prog 5 #[str l] h fun r h' => Ext h h' ∧ r = .bool true := by
  refine C.law2_CodeRounds_calls (args := [str l]) rfl ?_
  by_cases hbig : 32768 < l.length
  · have hbig' : (32768 : Int) < l.length := by omega
    simp (disch := first | omega | assumption) only [C.law2_CodeRounds_gos, vs, Go.Vc.vk, T.ts, ↓reduceIte, Nat.reduceEqDiff, reduceCtorEq, Nat.reduceLeDiff, Nat.reducePow, Int.reducePow, Int.reduceToNat, Nat.reduceAdd, hbig']
    exact Ext.refl _
  have hbig' : ¬ (32768 : Int) < l.length := by omega
  obtain ⟨hn, hL⟩ := decD_len l (by omega)
  have hF := decD_fit l (by omega)
  simp (disch := first | omega | assumption) only [C.law2_CodeRounds_gos, vs, Go.Vc.vk, T.ts, ↓reduceIte, Nat.reduceEqDiff, reduceCtorEq, Nat.reduceLeDiff, Nat.reducePow, Int.reducePow, Int.reduceToNat, Nat.reduceAdd, hbig']
  refine eff_call_of ?_
  simp (disch := first | omega | assumption) only [C.law2_CodeRounds_gos, vs, Go.Vc.vk, T.ts, ↓reduceIte, Nat.reduceEqDiff, reduceCtorEq, Nat.reduceLeDiff, Nat.reducePow, Int.reducePow, Int.reduceToNat, Nat.reduceAdd]
  refine (decode_any l h (by omega)).mono ?_
  intro v1 h1 hp1
  have x1 := hp1.1
  obtain ⟨sv, hv1, F1⟩ := hp1.2
  clear hp1
  by_cases he : (decD l).2.1 = 0
  · have hB := back_of he
    have he' : (((decD l).2.1 : Nat) : Int) = 0 := by omega
    rw [he'] at hv1
    simp (disch := first | omega | assumption) only [C.law2_CodeRounds_gos, vs, Go.Vc.vk, T.ts, ↓reduceIte, Nat.reduceEqDiff, reduceCtorEq, Nat.reduceLeDiff, Nat.reducePow, Int.reducePow, Int.reduceToNat, Nat.reduceAdd, hv1]
    refine eff_call_of ?_
    simp (disch := first | omega | assumption) only [C.law2_CodeRounds_gos, vs, Go.Vc.vk, T.ts, ↓reduceIte, Nat.reduceEqDiff, reduceCtorEq, Nat.reduceLeDiff, Nat.reducePow, Int.reducePow, Int.reduceToNat, Nat.reduceAdd]
    refine (encode_any (decD l).1 sv h1 F1.insC hF (by omega) (fun x hx => by have := hL x hx; omega)).mono ?_
    intro v2 h2 hp2
    have x2 := hp2.1
    have hv2 := hp2.2
    clear hp2
    rw [hB] at hv2
    have hv2 : v2 = .tuple #[str l, .int .i64 0, .int .i64 0] := hv2
    simp (disch := first | omega | assumption) only [C.law2_CodeRounds_gos, vs, Go.Vc.vk, T.ts, ↓reduceIte, Nat.reduceEqDiff, reduceCtorEq, Nat.reduceLeDiff, Nat.reducePow, Int.reducePow, Int.reduceToNat, Nat.reduceAdd, hv2]
    exact x1.trans x2
  · have hB := bad_of he
    have he' : ¬ (((decD l).2.1 : Nat) : Int) = 0 := by omega
    rw [hB] at F1
    obtain ⟨_, _, hr2, _⟩ := F1.insC
    obtain ⟨_, a, c, rfl, _⟩ := hr2
    have hv1 : v1 = .tuple #[.slice a 0 c, .int .i64 ((decD l).2.1 : Int), .int .i64 ((decD l).2.2 : Int)] := hv1
    simp (disch := first | omega | assumption) only [C.law2_CodeRounds_gos, vs, Go.Vc.vk, T.ts, ↓reduceIte, Nat.reduceEqDiff, reduceCtorEq, Nat.reduceLeDiff, Nat.reducePow, Int.reducePow, Int.reduceToNat, Nat.reduceAdd, hv1, eq_false he']
    refine eff_call_of ?_
    simp (disch := first | omega | assumption) only [C.law2_CodeRounds_gos, vs, Go.Vc.vk, T.ts, ↓reduceIte, Nat.reduceEqDiff, reduceCtorEq, Nat.reduceLeDiff, Nat.reducePow, Int.reducePow, Int.reduceToNat, Nat.reduceAdd]
    refine (decode_any [0, 177] h1 (by decide)).mono ?_
    intro v2 h2 hp2
    have x2 := hp2.1
    obtain ⟨sv2, hv2, F2⟩ := hp2.2
    clear hp2
    rw [dec_0b1] at hv2 F2
    obtain ⟨rb, ro, rc, vk, vt, heq, hrd0, _, _⟩ := F2.at (i := 1) (by decide)
    cases heq
    have c0 : cellAt h2 ⟨rb, ro + 8, none⟩ = some (.int .i64 1) := hrd0 0 _ rfl
    have hv2 : v2 = .tuple #[.slice (some ⟨rb, ro, none⟩) 2 rc, .int .i64 0, .int .i64 0] := hv2
    have q0 : ((0 : Nat) : Int) = 0 := rfl
    have q2 : ((2 : Nat) : Int) = 2 := rfl
    simp (disch := first | omega | assumption) only [C.law2_CodeRounds_gos, vs, Go.Vc.vk, T.ts, ↓reduceIte, Nat.reduceEqDiff, reduceCtorEq, Nat.reduceLeDiff, Nat.reducePow, Int.reducePow, Int.reduceToNat, Nat.reduceAdd, hv2, c0, eq_true q0, eq_true q2]
    exact x1.trans x2
end Go.Proofs.Ytjpcpkhegjndeaa
