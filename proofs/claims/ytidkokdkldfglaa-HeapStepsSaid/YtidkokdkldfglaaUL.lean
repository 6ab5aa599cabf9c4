/- Each of those that are held. No condition. -/
import Derived.Test.YtidkokdkldfglaaUI
namespace Go.Proofs.Ytidkokdkldfglaa
open Go.Vc
set_option maxRecDepth 100000
set_option linter.unusedSimpArgs false
set_option linter.unusedVariables false

theorem eff_callC {P : Program} {f : Operand} {g : FuncId} {cap : Array Value} {args : List Operand} {ats : Array TypeId} {ty : TypeId} {τ ρ : Env} {h : Heap} {K : Value → Heap → Prop} {vs : List Value}
    (hf : evo τ ρ f = some (.func (.func g) #[] cap)) (hv : evs τ ρ args = some vs) (hc : callable P g = true) (H : HCalls P g (vs.toArray ++ cap) h K) : eff P (.call { callee := .value f, args := args.toArray, argTypes := ats }) ty τ ρ h K := by
  refine eff_call_of ?_
  rw [hf]
  show OptK (evs τ ρ args) (kcall P h K (.func (.func g) #[] cap))
  rw [hv]
  show callV P (.func (.func g) #[] cap) vs h K
  exact ⟨hc, by simpa using H⟩
theorem ia_rt {b o : Nat} {k : IntKind} {i : Int} {h : Heap} (h0 : 0 ≤ i) (h1 : i < (16 : Nat)) : iaE Try.prog 52 (ptr b o) (.int k i) h = some (ptr b (o + i.toNat * 1)) := iar_of (by kernel_rfl) h0 h1
theorem each_any {S : Nat} {g : FuncId} {cap : Array Value} {h : Heap} {Q : Nat → Heap → Prop} (hc : callable Try.prog g = true) (H0 : Q 0 h)
    (H : ∀ k h, k < 16 → Q k h → HCalls Try.prog g (#[ptr S (1 + k)] ++ cap) h fun _ h' => Q (k + 1) h') :
    HCalls Try.prog 68 #[ptr S 0, .func (.func g) #[] cap] h fun _ h' => Q 16 h' := by
  refine C.s_Each_calls (args := [ptr S 0, .func (.func g) #[] cap]) rfl ?_
  simp (disch := first | omega | assumption) only [C.s_Each_gos, T.tv, ↓reduceIte, Nat.reduceEqDiff, reduceCtorEq, Nat.reduceLeDiff, Nat.reducePow, Int.reducePow, Int.reduceToNat, Nat.reduceAdd]
  refine loop_intro [0, 1, 5] (fun m ρ hc => ∃ i : Nat, m = 16 - i ∧ i ≤ 16 ∧ ρ = [(0, ptr S 0), (1, .func (.func g) #[] cap), (5, .int .i64 (i : Int))] ∧ Q i hc) ?_ ?_
  · simp (disch := first | omega | assumption) only [C.s_Each_gos, T.tv, ↓reduceIte, Nat.reduceEqDiff, reduceCtorEq, Nat.reduceLeDiff, Nat.reducePow, Int.reducePow, Int.reduceToNat, Nat.reduceAdd]
    exact ⟨_, 0, rfl, Nat.zero_le _, rfl, H0⟩
  rintro m ρ hc1 ⟨i, rfl, hi, rfl, hq⟩
  by_cases c : i < 16
  · have c1 : (i : Int) < 16 := by omega
    have b1 : (0 : Int) ≤ (i : Int) := by omega
    have b2 : (i : Int) < ((16 : Nat) : Int) := by omega
    have w : IntKind.i64.wrap ((i : Int) + 1) = ((i + 1 : Nat) : Int) := by rw [wrap_i64 (by omega) (by omega)]; omega
    simp (disch := first | omega | assumption) only [C.s_Each_gos, T.tv, ↓reduceIte, Nat.reduceEqDiff, reduceCtorEq, Nat.reduceLeDiff, Nat.reducePow, Int.reducePow, Int.reduceToNat, Nat.reduceAdd, c1, ia_rt, b1, b2, w]
    refine eff_callC rfl rfl hc ((H i hc1 c hq).mono ?_)
    intro v h1 hq1
    simp (disch := first | omega | assumption) only [C.s_Each_gos, T.tv, ↓reduceIte, Nat.reduceEqDiff, reduceCtorEq, Nat.reduceLeDiff, Nat.reducePow, Int.reducePow, Int.reduceToNat, Nat.reduceAdd, w]
    exact ⟨_, by omega, i + 1, rfl, by omega, rfl, hq1⟩
  · have c1 : ¬ (i : Int) < 16 := by omega
    have e : i = 16 := by omega
    subst e
    simp (disch := first | omega | assumption) only [C.s_Each_gos, T.tv, ↓reduceIte, Nat.reduceEqDiff, reduceCtorEq, Nat.reduceLeDiff, Nat.reducePow, Int.reducePow, Int.reduceToNat, Nat.reduceAdd, c1]
    exact hq
end Go.Proofs.Ytidkokdkldfglaa
