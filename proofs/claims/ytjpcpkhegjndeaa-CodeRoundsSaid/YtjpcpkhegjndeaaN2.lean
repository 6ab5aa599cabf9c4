/- The encoder of instructions: unsigned, signed, targets, byte. -/
import Derived.Test.YtjpcpkhegjndeaaN1
import Derived.Test.YtjpcpkhegjndeaaNA
namespace Go.Proofs.Ytjpcpkhegjndeaa
open Go.Vc
set_option maxRecDepth 100000
set_option linter.unusedSimpArgs false
set_option linter.unusedVariables false

def okU (x : Int) (n : Nat) : Bool := decide (0 ≤ x) && decide (x ≤ 256 ^ n - 1)
def okI (x : Int) (n : Nat) : Bool := decide (-(128 * 256 ^ (n - 1)) ≤ x) && decide (x ≤ 128 * 256 ^ (n - 1) - 1)
section
variable {h0 h : Heap} {g : Nat} {b : List UInt8} {ok : Bool}
set_option maxHeartbeats 1000000 in
theorem uns_any (x : Int) (n : Nat) (hn : n = 1 ∨ n = 2) (hb : b.length ≤ 1099511627776) (H : En h0 h g b ok) :
    HCalls Try.prog 30 #[.pointer (some ⟨g, 0, none⟩), .int .i64 x, .int .i64 n] h fun _ h' => En h0 h' g (b ++ bigS (atU x) n) (ok && okU x n) ∧ KeepB h h' g := by
  refine C.code_unsigned_calls (args := [.pointer (some ⟨g, 0, none⟩), .int .i64 x, .int .i64 n]) rfl ?_
  rcases hn with rfl | rfl
  · rw [show ((1 : Nat) : Int) = 1 from rfl]
    simp (disch := first | omega | assumption) only [C.code_unsigned_gos, vs, Go.Vc.vk, T.ts, ↓reduceIte, Nat.reduceEqDiff, reduceCtorEq, Nat.reduceLeDiff, Nat.reducePow, Int.reducePow, Int.reduceToNat, Nat.reduceAdd, Int.reduceMul, Int.reduceToNat, Int.reducePow, Int.reduceSub, Nat.reduceLeDiff]
    refine eff_call_of ?_
    simp (disch := first | omega | assumption) only [C.code_unsigned_gos, vs, Go.Vc.vk, T.ts, ↓reduceIte, Nat.reduceEqDiff, reduceCtorEq, Nat.reduceLeDiff, Nat.reducePow, Int.reducePow, Int.reduceToNat, Nat.reduceAdd]
    refine (put_any x 0 255 1 (by omega) hb H).mono ?_
    rintro v1 h1 ⟨H1, K1⟩
    simp (disch := first | omega | assumption) only [C.code_unsigned_gos, vs, Go.Vc.vk, T.ts, ↓reduceIte, Nat.reduceEqDiff, reduceCtorEq, Nat.reduceLeDiff, Nat.reducePow, Int.reducePow, Int.reduceToNat, Nat.reduceAdd]
    exact ⟨H1, K1⟩
  · rw [show ((2 : Nat) : Int) = 2 from rfl]
    simp (disch := first | omega | assumption) only [C.code_unsigned_gos, vs, Go.Vc.vk, T.ts, ↓reduceIte, Nat.reduceEqDiff, reduceCtorEq, Nat.reduceLeDiff, Nat.reducePow, Int.reducePow, Int.reduceToNat, Nat.reduceAdd, Int.reduceMul, Int.reduceToNat, Int.reducePow, Int.reduceSub, Nat.reduceLeDiff]
    refine eff_call_of ?_
    simp (disch := first | omega | assumption) only [C.code_unsigned_gos, vs, Go.Vc.vk, T.ts, ↓reduceIte, Nat.reduceEqDiff, reduceCtorEq, Nat.reduceLeDiff, Nat.reducePow, Int.reducePow, Int.reduceToNat, Nat.reduceAdd]
    refine (put_any x 0 65535 2 (by omega) hb H).mono ?_
    rintro v1 h1 ⟨H1, K1⟩
    simp (disch := first | omega | assumption) only [C.code_unsigned_gos, vs, Go.Vc.vk, T.ts, ↓reduceIte, Nat.reduceEqDiff, reduceCtorEq, Nat.reduceLeDiff, Nat.reducePow, Int.reducePow, Int.reduceToNat, Nat.reduceAdd]
    exact ⟨H1, K1⟩
set_option maxHeartbeats 1000000 in
theorem sig_any (x : Int) (n : Nat) (hn : n = 1 ∨ n = 2 ∨ n = 4) (hb : b.length ≤ 1099511627776) (H : En h0 h g b ok) :
    HCalls Try.prog 29 #[.pointer (some ⟨g, 0, none⟩), .int .i64 x, .int .i64 n] h fun _ h' => En h0 h' g (b ++ bigS (atU x) n) (ok && okI x n) ∧ KeepB h h' g := by
  refine C.code_signed_calls (args := [.pointer (some ⟨g, 0, none⟩), .int .i64 x, .int .i64 n]) rfl ?_
  rcases hn with rfl | rfl | rfl
  · rw [show ((1 : Nat) : Int) = 1 from rfl]
    simp (disch := first | omega | assumption) only [C.code_signed_gos, vs, Go.Vc.vk, T.ts, ↓reduceIte, Nat.reduceEqDiff, reduceCtorEq, Nat.reduceLeDiff, Nat.reducePow, Int.reducePow, Int.reduceToNat, Nat.reduceAdd, Int.reduceMul, Int.reduceToNat, Int.reducePow, Int.reduceSub, Int.reduceNeg, Nat.reduceLeDiff]
    refine eff_call_of ?_
    simp (disch := first | omega | assumption) only [C.code_signed_gos, vs, Go.Vc.vk, T.ts, ↓reduceIte, Nat.reduceEqDiff, reduceCtorEq, Nat.reduceLeDiff, Nat.reducePow, Int.reducePow, Int.reduceToNat, Nat.reduceAdd]
    refine (put_any x (-128) 127 1 (by omega) hb H).mono ?_
    rintro v1 h1 ⟨H1, K1⟩
    simp (disch := first | omega | assumption) only [C.code_signed_gos, vs, Go.Vc.vk, T.ts, ↓reduceIte, Nat.reduceEqDiff, reduceCtorEq, Nat.reduceLeDiff, Nat.reducePow, Int.reducePow, Int.reduceToNat, Nat.reduceAdd]
    exact ⟨H1, K1⟩
  · rw [show ((2 : Nat) : Int) = 2 from rfl]
    simp (disch := first | omega | assumption) only [C.code_signed_gos, vs, Go.Vc.vk, T.ts, ↓reduceIte, Nat.reduceEqDiff, reduceCtorEq, Nat.reduceLeDiff, Nat.reducePow, Int.reducePow, Int.reduceToNat, Nat.reduceAdd, Int.reduceMul, Int.reduceToNat, Int.reducePow, Int.reduceSub, Int.reduceNeg, Nat.reduceLeDiff]
    refine eff_call_of ?_
    simp (disch := first | omega | assumption) only [C.code_signed_gos, vs, Go.Vc.vk, T.ts, ↓reduceIte, Nat.reduceEqDiff, reduceCtorEq, Nat.reduceLeDiff, Nat.reducePow, Int.reducePow, Int.reduceToNat, Nat.reduceAdd]
    refine (put_any x (-32768) 32767 2 (by omega) hb H).mono ?_
    rintro v1 h1 ⟨H1, K1⟩
    simp (disch := first | omega | assumption) only [C.code_signed_gos, vs, Go.Vc.vk, T.ts, ↓reduceIte, Nat.reduceEqDiff, reduceCtorEq, Nat.reduceLeDiff, Nat.reducePow, Int.reducePow, Int.reduceToNat, Nat.reduceAdd]
    exact ⟨H1, K1⟩
  · rw [show ((4 : Nat) : Int) = 4 from rfl]
    simp (disch := first | omega | assumption) only [C.code_signed_gos, vs, Go.Vc.vk, T.ts, ↓reduceIte, Nat.reduceEqDiff, reduceCtorEq, Nat.reduceLeDiff, Nat.reducePow, Int.reducePow, Int.reduceToNat, Nat.reduceAdd, Int.reduceMul, Int.reduceToNat, Int.reducePow, Int.reduceSub, Int.reduceNeg, Nat.reduceLeDiff]
    refine eff_call_of ?_
    simp (disch := first | omega | assumption) only [C.code_signed_gos, vs, Go.Vc.vk, T.ts, ↓reduceIte, Nat.reduceEqDiff, reduceCtorEq, Nat.reduceLeDiff, Nat.reducePow, Int.reducePow, Int.reduceToNat, Nat.reduceAdd]
    refine (put_any x (-2147483648) 2147483647 4 (by omega) hb H).mono ?_
    rintro v1 h1 ⟨H1, K1⟩
    simp (disch := first | omega | assumption) only [C.code_signed_gos, vs, Go.Vc.vk, T.ts, ↓reduceIte, Nat.reduceEqDiff, reduceCtorEq, Nat.reduceLeDiff, Nat.reducePow, Int.reducePow, Int.reduceToNat, Nat.reduceAdd]
    exact ⟨H1, K1⟩
end
section
variable {h0 h : Heap} {g : Nat} {b : List UInt8} {ok : Bool}
set_option maxHeartbeats 1000000 in
theorem targets_any (x : In) (vk : Value) (at7 : Option Addr) (nt ct n : Nat) (hvk : ∃ a n c, vk = .slice a n c) (H : En h0 h g b ok) :
    HCalls Try.prog 28 #[.pointer (some ⟨g, 0, none⟩), .agg (InV x vk (.slice at7 nt ct)).toArray, .int .i64 n] h fun v h' => En h0 h' g b (ok && decide (nt = n)) ∧ KeepB h h' g ∧ v = .bool (ok && decide (nt = n)) := by
  refine C.code_targets_calls (args := [.pointer (some ⟨g, 0, none⟩), .agg (InV x vk (.slice at7 nt ct)).toArray, .int .i64 n]) rfl ?_
  obtain ⟨ak, nk, ck, rfl⟩ := hvk
  simp only [InV]
  have hgs := H.lt
  simp (disch := first | omega | assumption) only [C.code_targets_gos, vs, Go.Vc.vk, T.ts, ↓reduceIte, Nat.reduceEqDiff, reduceCtorEq, Nat.reduceLeDiff, Nat.reducePow, Int.reducePow, Int.reduceToNat, Nat.reduceAdd]
  refine eff_box ?_
  have E := Ext.push h (.cells #[.int .i64 x.at', .int .u8 (x.op : Int), .bool x.wide, .int .i64 x.A, .int .i64 x.B, .int .i64 x.low, .slice ak nk ck, .slice at7 nt ct] 35)
  have H1 := H.ext E
  have c1 := H1.c1
  have c7 : cellAt (h.push (.cells #[.int .i64 x.at', .int .u8 (x.op : Int), .bool x.wide, .int .i64 x.A, .int .i64 x.B, .int .i64 x.low, .slice ak nk ck, .slice at7 nt ct] 35)) ⟨h.size, 7, none⟩ = some (.slice at7 nt ct) := by rw [cellAt_push_new]; rfl
  have hfz : frozenAt (h.push (.cells #[.int .i64 x.at', .int .u8 (x.op : Int), .bool x.wide, .int .i64 x.A, .int .i64 x.B, .int .i64 x.low, .slice ak nk ck, .slice at7 nt ct] 35)) ⟨g, 1, none⟩ = false := by
    obtain ⟨_, _, vb, hblk, _⟩ := H1
    simp [frozenAt, hblk]
  simp (disch := first | omega | assumption) only [C.code_targets_gos, vs, Go.Vc.vk, T.ts, ↓reduceIte, Nat.reduceEqDiff, reduceCtorEq, Nat.reduceLeDiff, Nat.reducePow, Int.reducePow, Int.reduceToNat, Nat.reduceAdd]
  generalize h.push (.cells #[.int .i64 x.at', .int .u8 (x.op : Int), .bool x.wide, .int .i64 x.A, .int .i64 x.B, .int .i64 x.low, .slice ak nk ck, .slice at7 nt ct] 35) = h1 at *
  have hd : decide ((nt : Int) = (n : Int)) = decide (nt = n) := decide_eq_decide.2 (by omega)
  cases ok with
  | false =>
    simp (disch := first | omega | assumption) only [C.code_targets_gos, vs, Go.Vc.vk, T.ts, ↓reduceIte, Nat.reduceEqDiff, reduceCtorEq, Nat.reduceLeDiff, Nat.reducePow, Int.reducePow, Int.reduceToNat, Nat.reduceAdd, c1]
    refine eff_store1_z T.zr_4 rfl rfl rfl rfl rfl c1 hfz ?_
    obtain ⟨H2, K2⟩ := H1.setOk false
    have d1 := H2.c1
    simp (disch := first | omega | assumption) only [C.code_targets_gos, vs, Go.Vc.vk, T.ts, ↓reduceIte, Nat.reduceEqDiff, reduceCtorEq, Nat.reduceLeDiff, Nat.reducePow, Int.reducePow, Int.reduceToNat, Nat.reduceAdd, d1]
    exact ⟨by simpa using H2, (KeepB.ext E).trans K2, by simp⟩
  | true =>
    simp (disch := first | omega | assumption) only [C.code_targets_gos, vs, Go.Vc.vk, T.ts, ↓reduceIte, Nat.reduceEqDiff, reduceCtorEq, Nat.reduceLeDiff, Nat.reducePow, Int.reducePow, Int.reduceToNat, Nat.reduceAdd, c1, c7, hd]
    refine eff_store1_z T.zr_4 rfl rfl rfl rfl rfl c1 hfz ?_
    obtain ⟨H2, K2⟩ := H1.setOk (decide (nt = n))
    have d1 := H2.c1
    simp (disch := first | omega | assumption) only [C.code_targets_gos, vs, Go.Vc.vk, T.ts, ↓reduceIte, Nat.reduceEqDiff, reduceCtorEq, Nat.reduceLeDiff, Nat.reducePow, Int.reducePow, Int.reduceToNat, Nat.reduceAdd, d1]
    exact ⟨by simpa using H2, (KeepB.ext E).trans K2, by simp⟩
end
end Go.Proofs.Ytjpcpkhegjndeaa
