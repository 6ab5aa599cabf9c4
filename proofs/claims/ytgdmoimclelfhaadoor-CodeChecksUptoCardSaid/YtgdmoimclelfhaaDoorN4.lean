/- The forms of instructions, by the reference. -/
import Derived.Test.YtgdmoimclelfhaaDoorN3
namespace Go.Proofs.YtgdmoimclelfhaaDoor
open Go.Vc
set_option maxRecDepth 100000
set_option linter.unusedSimpArgs false
set_option linter.unusedVariables false


def formsL : List UInt8 := (List.append (List.append [46, 46, 46, 46, 46, 46, 46, 46, 46, 46, 46, 46, 46, 46, 46, 46, 98, 115, 99, 105, 105, 108, 108, 108, 108, 108, 46, 46, 46, 46, 46, 46, 46, 46, 46, 46, 46, 46, 46, 46, 46, 46, 46, 46, 46, 46, 46, 46, 46, 46] [46, 46, 46, 46, 108, 108, 108, 108, 108, 46, 46, 46, 46, 46, 46, 46, 46, 46, 46, 46, 46, 46, 46, 46, 46, 46, 46, 46, 46, 46, 46, 46, 46, 46, 46, 46, 46, 46, 46, 46, 46, 46, 46, 46, 46, 46, 46, 46, 46, 46]) (List.append [46, 46, 46, 46, 46, 46, 46, 46, 46, 46, 46, 46, 46, 46, 46, 46, 46, 46, 46, 46, 46, 46, 46, 46, 46, 46, 46, 46, 46, 46, 46, 46, 110, 46, 46, 46, 46, 46, 46, 46, 46, 46, 46, 46, 46, 46, 46, 46, 46, 46] [46, 46, 46, 106, 106, 106, 106, 106, 106, 106, 106, 106, 106, 106, 106, 106, 106, 106, 120, 120, 116, 107, 46, 46, 46, 46, 46, 46, 105, 105, 105, 105, 105, 105, 105, 102, 120, 105, 97, 105, 46, 46, 105, 105, 46, 46, 119, 109, 106, 106, 74]))
theorem forms_str : (List.append (List.append [46, 46, 46, 46, 46, 46, 46, 46, 46, 46, 46, 46, 46, 46, 46, 46, 98, 115, 99, 105, 105, 108, 108, 108, 108, 108, 46, 46, 46, 46, 46, 46, 46, 46, 46, 46, 46, 46, 46, 46, 46, 46, 46, 46, 46, 46, 46, 46, 46, 46] [46, 46, 46, 46, 108, 108, 108, 108, 108, 46, 46, 46, 46, 46, 46, 46, 46, 46, 46, 46, 46, 46, 46, 46, 46, 46, 46, 46, 46, 46, 46, 46, 46, 46, 46, 46, 46, 46, 46, 46, 46, 46, 46, 46, 46, 46, 46, 46, 46, 46]) (List.append [46, 46, 46, 46, 46, 46, 46, 46, 46, 46, 46, 46, 46, 46, 46, 46, 46, 46, 46, 46, 46, 46, 46, 46, 46, 46, 46, 46, 46, 46, 46, 46, 110, 46, 46, 46, 46, 46, 46, 46, 46, 46, 46, 46, 46, 46, 46, 46, 46, 46] [46, 46, 46, 106, 106, 106, 106, 106, 106, 106, 106, 106, 106, 106, 106, 106, 106, 106, 120, 120, 116, 107, 46, 46, 46, 46, 46, 46, 105, 105, 105, 105, 105, 105, 105, 102, 120, 105, 97, 105, 46, 46, 105, 105, 46, 46, 119, 109, 106, 106, 74])) = formsL := by rfl
def frmL (op : Nat) : List UInt8 := if 201 ≤ op then [120] else (formsL.take (op + 1)).drop op
theorem formsL_len : formsL.length = 201 := by rfl
theorem rform_any (op : Nat) (hop : op < 256) (h : Heap) : HCalls Tryd.prog 23 #[.int .i64 op] h fun v h' => h' = h ∧ v = str (frmL op) := by
  refine C.ref2_form_calls (args := [.int .i64 op]) rfl ?_
  unfold frmL
  by_cases h2 : 201 ≤ op
  · have h2' : (201 : Int) ≤ op := by omega
    rw [if_pos h2]
    simp (disch := first | omega | assumption) only [C.ref2_form_gos, T.tv, ↓reduceIte, Nat.reduceEqDiff, reduceCtorEq, Nat.reduceLeDiff, Nat.reducePow, Int.reducePow, Int.reduceToNat, Nat.reduceAdd, h2']
  · have h2' : ¬ (201 : Int) ≤ op := by omega
    rw [if_neg h2]
    have hl : (op : Int) + 1 ≤ (formsL.length : Int) := by rw [formsL_len]; omega
    have ht : ((op : Int) + 1).toNat = op + 1 := by omega
    simp (disch := first | omega | assumption) only [C.ref2_form_gos, T.tv, ↓reduceIte, Nat.reduceEqDiff, reduceCtorEq, Nat.reduceLeDiff, Nat.reducePow, Int.reducePow, Int.reduceToNat, Nat.reduceAdd, h2', forms_str, hl, ht]
def letS (f : Nat) : UInt8 := [46, 120, 98, 115, 99, 105, 108, 110, 106, 74, 116, 107, 102, 97, 109, 119].getD f 0
theorem frm_eq : ∀ op, op < 256 → frmL op = [letS (formS op)] := by decide +kernel
theorem formS_lt : ∀ op, op < 256 → formS op < 16 := by decide +kernel
end Go.Proofs.YtgdmoimclelfhaaDoor
