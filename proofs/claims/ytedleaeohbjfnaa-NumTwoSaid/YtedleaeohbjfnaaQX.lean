/- Singles: comparisons, bits, the five operations. No condition. -/
import Derived.Test.YtedleaeohbjfnaaQW
namespace Go.Proofs.Ytedleaeohbjfnaa
open Go.Vc Go.Num
set_option maxRecDepth 100000
set_option linter.unusedSimpArgs false
set_option linter.unusedVariables false

abbrev F32 (w : Nat) : Value := .float .f32 w
abbrev SG : Ieee.Format := Ieee.single
theorem SG_inf : SG.infRung = 2139095040 := by decide
theorem SG_sw : SG.signWeight = 2147483648 := by decide
section
variable {P : Program} {τ ρ : Env} {h : Heap} {K : Value → Heap → Prop} {ty : TypeId}
theorem eff_f32bits {l : List Operand} {ats : Array TypeId} {b : Nat} (hv : evs τ ρ l = some [F32 b]) (H : K (.int .u32 (b : Int)) h) :
    eff Try.prog (.call { callee := .value (.func 33), args := l.toArray, argTypes := ats }) ty τ ρ h K :=
  eff_callX (v := .int .u32 (b : Int)) (e := Extern.MathFloatBits.float32bits) hv Try.func33 (by kernel_rfl) (by kernel_rfl) (by kernel_rfl) (by kernel_rfl) (fun _ => rfl) H
theorem eff_f32from {l : List Operand} {ats : Array TypeId} {b : Nat} (hv : evs τ ρ l = some [.int .u32 (b : Int)]) (H : K (F32 b) h) :
    eff Try.prog (.call { callee := .value (.func 25), args := l.toArray, argTypes := ats }) ty τ ρ h K :=
  eff_callX (v := F32 b) (e := Extern.MathFloatBits.float32frombits) hv Try.func25 (by kernel_rfl) (by kernel_rfl) (by kernel_rfl) (by kernel_rfl) (fun _ => rfl) H
end
theorem wrap_u32_mod (n : Nat) : IntKind.u32.wrap (n : Int) = ((n % 4294967296 : Nat) : Int) := by
  simp only [IntKind.wrap, IntKind.bits, IntKind.signed, Bool.false_and, Bool.false_eq_true, if_false, Int.reducePow]; omega
theorem ord_self32 (a : Nat) : (FloatKind.f32.format.order a a != some .eq) = decide (2139095040 < rung SG a) := by
  by_cases c : 2139095040 < rung SG a
  · have := order_nan SG (by decide) (x := a) (y := a) (.inl (by rw [SG_inf]; exact c))
    rw [show FloatKind.f32.format.order a a = none from this, decide_eq_true c]; rfl
  · have := order_rank SG (by decide) (x := a) (y := a) (by rw [SG_inf]; omega) (by rw [SG_inf]; omega)
    rw [show FloatKind.f32.format.order a a = some (compare (rank SG a) (rank SG a)) from this, decide_eq_false c]
    have h := cmp_eq (rank SG a) (rank SG a)
    rw [decide_eq_true rfl] at h
    simp only [bne, h]; rfl
theorem of32_any {h : Heap} {b : Nat} (hb : b < 4294967296) : HCalls Try.prog 21 #[F32 b] h fun v h' => h' = h ∧ v = .int .u64 ((if SG.infRung < rung SG b then nanW SG else b : Nat) : Int) := by
  refine C.num_of32_calls (args := [F32 b]) rfl ?_
  have hn : nanW SG = 2143289344 := nw23
  rw [hn, SG_inf]
  by_cases c : 2139095040 < rung SG b
  · rw [if_pos c]
    have s := ord_self32 b
    rw [decide_eq_true c] at s
    simp (disch := first | omega | assumption) only [C.num_of32_gos, T.tv, ↓reduceIte, Nat.reduceEqDiff, reduceCtorEq, Nat.reduceLeDiff, Nat.reducePow, Int.reducePow, Int.reduceToNat, Nat.reduceAdd, vf, s]
    rfl
  · rw [if_neg c]
    have s := ord_self32 b
    rw [decide_eq_false c] at s
    simp (disch := first | omega | assumption) only [C.num_of32_gos, T.tv, ↓reduceIte, Nat.reduceEqDiff, reduceCtorEq, Nat.reduceLeDiff, Nat.reducePow, Int.reducePow, Int.reduceToNat, Nat.reduceAdd, vf, s]
    refine eff_f32bits rfl ?_
    simp (disch := first | omega | assumption) only [C.num_of32_gos, T.tv, ↓reduceIte, Nat.reduceEqDiff, reduceCtorEq, Nat.reduceLeDiff, Nat.reducePow, Int.reducePow, Int.reduceToNat, Nat.reduceAdd, vf]
theorem f32_any {h : Heap} {b : Nat} : HCalls Try.prog 9 #[.int .u64 (b : Int)] h fun v h' => h' = h ∧ v = F32 (b % 4294967296) := by
  refine C.num_f32_calls (args := [.int .u64 (b : Int)]) rfl ?_
  simp (disch := first | omega | assumption) only [C.num_f32_gos, T.tv, ↓reduceIte, Nat.reduceEqDiff, reduceCtorEq, Nat.reduceLeDiff, Nat.reducePow, Int.reducePow, Int.reduceToNat, Nat.reduceAdd, wrap_u32_mod]
  refine eff_f32from rfl ?_
  simp (disch := first | omega | assumption) only [C.num_f32_gos, T.tv, ↓reduceIte, Nat.reduceEqDiff, reduceCtorEq, Nat.reduceLeDiff, Nat.reducePow, Int.reducePow, Int.reduceToNat, Nat.reduceAdd]
end Go.Proofs.Ytedleaeohbjfnaa
