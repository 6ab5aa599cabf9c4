/-
  No cell of these rows narrows 'for every input' (looked for: loops, veiled, ifaces, maps, wideKeys, modest, calm, conditions, laid).
  DERIVED. THE GIVEN ROWS OF THIS SEAT. 6 by the template 'for every input the law returns true; each argument reads behind the call as it read before'; 0 by the template 'total and deterministic' (their statements: YtnpgmbpialokcaaTotals.lean).
  GIVEN WITH THE SEED: the statements are not yours to turn. If you find one false, say at which input.
  Laid BY PROGRAM, IN A SANDBOX (cutbox-rows.mjs): the forced cells as the released guide's own fill.sh prints them over the translation 01b007e6c46f7f1f… (all of the seat's roots in one cut). By AI agents, Wed Nov 11 2026. No macro, syntax, notation, axiom, sorry.
-/
import Derived.Test.YtnpgmbpialokcaaChecked
import GoSem.Claim
import GoSem.ClaimJoined
import GoSem.ClaimMapViews
import Derived.JoinedTies
import Derived.KernelRfl
namespace Go.Proofs.Ytnpgmbpialokcaa
/- THE CELL 'sum', in the pinned program and in every row, IS THE sha256 OF THE DUMP (.gsa) THAT YtnpgmbpialokcaaProg.lean LOADS. Nothing in Lean hashes anything: it is a label: what it is worth is what the hold of that sum in a sandbox is worth. -/
noncomputable def Try.pinned : Pinned := { name := "ytnpgmbpialokcaa", sum := "01b007e6c46f7f1f013bb369732524f93e316d695157a7b7dc8b0065c6fa696d", checked := Try.checked }
namespace Rows
def none {H : Type} : Left H := { results := [], args := [] }

/-- 'jvmcorelaw1.Names': WHATEVER THE INPUT: true; the input reads as it did. -/
def namesSpec : ChangeSpec := { name := "names", fn := fun _ => fun
  | [] => { results := [.lit (.bool true)], args := [] }
  | _ => none }
def namesRow : OpenClaim := { program := "ytnpgmbpialokcaa", sum := "01b007e6c46f7f1f013bb369732524f93e316d695157a7b7dc8b0065c6fa696d", func := "jvmcore/jvmcorelaw1.Names", spec := "names", apart := false }
def NamesSaid : Prop := namesRow.holds Try.pinned (OpenSpec.ofChange namesSpec)

/-- ITS FALSE NEIGHBOUR: 'it returns false'. Refute it at one input. -/
def namesWrong : ChangeSpec := { name := "names", fn := fun _ => fun
  | [] => { results := [.lit (.bool false)], args := [] }
  | _ => none }
def NamesWrongFalsely : Prop := namesRow.holds Try.pinned (OpenSpec.ofChange namesWrong)

/-- 'jvmcorelaw1.PoolUnits': WHATEVER THE INPUT: true; the input reads as it did. -/
def poolUnitsSpec : ChangeSpec := { name := "poolUnits", fn := fun _ => fun
  | [d] => { results := [.lit (.bool true)], args := [d] }
  | _ => none }
def poolUnitsRow : OpenClaim := { program := "ytnpgmbpialokcaa", sum := "01b007e6c46f7f1f013bb369732524f93e316d695157a7b7dc8b0065c6fa696d", func := "jvmcore/jvmcorelaw1.PoolUnits", spec := "poolUnits", unfollowed := true, recurses := true, apart := false }
def PoolUnitsSaid : Prop := poolUnitsRow.holds Try.pinned (OpenSpec.ofChange poolUnitsSpec)

/-- ITS FALSE NEIGHBOUR: 'it returns false'. Refute it at one input. -/
def poolUnitsWrong : ChangeSpec := { name := "poolUnits", fn := fun _ => fun
  | [d] => { results := [.lit (.bool false)], args := [d] }
  | _ => none }
def PoolUnitsWrongFalsely : Prop := poolUnitsRow.holds Try.pinned (OpenSpec.ofChange poolUnitsWrong)

/-- 'jvmcorelaw1.PoolTexts': WHATEVER THE INPUT: true; the input reads as it did. -/
def poolTextsSpec : ChangeSpec := { name := "poolTexts", fn := fun _ => fun
  | [d] => { results := [.lit (.bool true)], args := [d] }
  | _ => none }
def poolTextsRow : OpenClaim := { program := "ytnpgmbpialokcaa", sum := "01b007e6c46f7f1f013bb369732524f93e316d695157a7b7dc8b0065c6fa696d", func := "jvmcore/jvmcorelaw1.PoolTexts", spec := "poolTexts", unfollowed := true, recurses := true, apart := false }
def PoolTextsSaid : Prop := poolTextsRow.holds Try.pinned (OpenSpec.ofChange poolTextsSpec)

/-- ITS FALSE NEIGHBOUR: 'it returns false'. Refute it at one input. -/
def poolTextsWrong : ChangeSpec := { name := "poolTexts", fn := fun _ => fun
  | [d] => { results := [.lit (.bool false)], args := [d] }
  | _ => none }
def PoolTextsWrongFalsely : Prop := poolTextsRow.holds Try.pinned (OpenSpec.ofChange poolTextsWrong)

/-- 'jvmcorelaw1.PoolWrites': WHATEVER THE INPUT: true; the input reads as it did. -/
def poolWritesSpec : ChangeSpec := { name := "poolWrites", fn := fun _ => fun
  | [d] => { results := [.lit (.bool true)], args := [d] }
  | _ => none }
def poolWritesRow : OpenClaim := { program := "ytnpgmbpialokcaa", sum := "01b007e6c46f7f1f013bb369732524f93e316d695157a7b7dc8b0065c6fa696d", func := "jvmcore/jvmcorelaw1.PoolWrites", spec := "poolWrites", unfollowed := true, recurses := true, apart := false }
def PoolWritesSaid : Prop := poolWritesRow.holds Try.pinned (OpenSpec.ofChange poolWritesSpec)

/-- ITS FALSE NEIGHBOUR: 'it returns false'. Refute it at one input. -/
def poolWritesWrong : ChangeSpec := { name := "poolWrites", fn := fun _ => fun
  | [d] => { results := [.lit (.bool false)], args := [d] }
  | _ => none }
def PoolWritesWrongFalsely : Prop := poolWritesRow.holds Try.pinned (OpenSpec.ofChange poolWritesWrong)

/-- 'jvmcorelaw1.PoolReads': WHATEVER THE INPUT: true; the input reads as it did. -/
def poolReadsSpec : ChangeSpec := { name := "poolReads", fn := fun _ => fun
  | [d] => { results := [.lit (.bool true)], args := [d] }
  | _ => none }
def poolReadsRow : OpenClaim := { program := "ytnpgmbpialokcaa", sum := "01b007e6c46f7f1f013bb369732524f93e316d695157a7b7dc8b0065c6fa696d", func := "jvmcore/jvmcorelaw1.PoolReads", spec := "poolReads", unfollowed := true, recurses := true, apart := false }
def PoolReadsSaid : Prop := poolReadsRow.holds Try.pinned (OpenSpec.ofChange poolReadsSpec)

/-- ITS FALSE NEIGHBOUR: 'it returns false'. Refute it at one input. -/
def poolReadsWrong : ChangeSpec := { name := "poolReads", fn := fun _ => fun
  | [d] => { results := [.lit (.bool false)], args := [d] }
  | _ => none }
def PoolReadsWrongFalsely : Prop := poolReadsRow.holds Try.pinned (OpenSpec.ofChange poolReadsWrong)

/-- 'jvmcorelaw1.PoolRounds': WHATEVER THE INPUT: true; the input reads as it did. -/
def poolRoundsSpec : ChangeSpec := { name := "poolRounds", fn := fun _ => fun
  | [d] => { results := [.lit (.bool true)], args := [d] }
  | _ => none }
def poolRoundsRow : OpenClaim := { program := "ytnpgmbpialokcaa", sum := "01b007e6c46f7f1f013bb369732524f93e316d695157a7b7dc8b0065c6fa696d", func := "jvmcore/jvmcorelaw1.PoolRounds", spec := "poolRounds", unfollowed := true, recurses := true, apart := false }
def PoolRoundsSaid : Prop := poolRoundsRow.holds Try.pinned (OpenSpec.ofChange poolRoundsSpec)

/-- ITS FALSE NEIGHBOUR: 'it returns false'. Refute it at one input. -/
def poolRoundsWrong : ChangeSpec := { name := "poolRounds", fn := fun _ => fun
  | [d] => { results := [.lit (.bool false)], args := [d] }
  | _ => none }
def PoolRoundsWrongFalsely : Prop := poolRoundsRow.holds Try.pinned (OpenSpec.ofChange poolRoundsWrong)

/- THE SECOND FORM. 'bulk': how many values and letters a reading holds, each counted each time it is reached (what is shared counts as often as it is met; a slice's spare places count too). A statement '..UptoSaid' is the law's where the arguments, and the package variables that the reading takes, are together of bulk at most 1048576: NARROWER than '..Said'. Prove '..Said' where nothing that the law and all that it calls make is longer than what came in: it says more and counts as full. Else prove '..UptoSaid'. A law counts once. -/
mutual
def uptoBulk {H : Type} : DataW H → Nat
  | .lit (.string bytes) => bytes.length + 1
  | .lit _ => 1
  | .nil => 1
  | .ptr d => uptoBulk d + 1
  | .slice elems spare => uptoBulkAll elems + uptoBulkAll spare + 1
  | .agg parts => uptoBulkAll parts + 1
  | .iface _ d => uptoBulk d + 1
  | .map entries => uptoBulkEntries entries + 1
  | .held _ => 1
def uptoBulkAll {H : Type} : List (DataW H) → Nat
  | [] => 0
  | d :: r => uptoBulk d + uptoBulkAll r
def uptoBulkEntries {H : Type} : List (Lit × DataW H) → Nat
  | [] => 0
  | x :: r => uptoBulkEntry x + uptoBulkEntries r
def uptoBulkEntry {H : Type} : Lit × DataW H → Nat
  | (.string bytes, d) => bytes.length + uptoBulk d + 1
  | (_, d) => uptoBulk d + 1
 end
def uptoSmall : (H : Type) → List (DataW H) → Bool := fun _ ds => decide (uptoBulkAll ds ≤ 1048576)
def OpenSpec.upto (s : _root_.Go.ChangeSpec) : _root_.Go.OpenSpec := { _root_.Go.OpenSpec.ofChange s with cond := some uptoSmall }

/-- 'jvmcorelaw1.Names', WHERE WHAT IT READS IS OF BULK AT MOST 1048576: true; the input reads as it did. -/
def namesUptoRow : OpenClaim := { program := "ytnpgmbpialokcaa", sum := "01b007e6c46f7f1f013bb369732524f93e316d695157a7b7dc8b0065c6fa696d", func := "jvmcore/jvmcorelaw1.Names", spec := "names", apart := false, narrowed := true }
def NamesUptoSaid : Prop := namesUptoRow.holds Try.pinned (OpenSpec.upto namesSpec)

/-- 'jvmcorelaw1.PoolUnits', WHERE WHAT IT READS IS OF BULK AT MOST 1048576: true; the input reads as it did. -/
def poolUnitsUptoRow : OpenClaim := { program := "ytnpgmbpialokcaa", sum := "01b007e6c46f7f1f013bb369732524f93e316d695157a7b7dc8b0065c6fa696d", func := "jvmcore/jvmcorelaw1.PoolUnits", spec := "poolUnits", unfollowed := true, recurses := true, apart := false, narrowed := true }
def PoolUnitsUptoSaid : Prop := poolUnitsUptoRow.holds Try.pinned (OpenSpec.upto poolUnitsSpec)

/-- 'jvmcorelaw1.PoolTexts', WHERE WHAT IT READS IS OF BULK AT MOST 1048576: true; the input reads as it did. -/
def poolTextsUptoRow : OpenClaim := { program := "ytnpgmbpialokcaa", sum := "01b007e6c46f7f1f013bb369732524f93e316d695157a7b7dc8b0065c6fa696d", func := "jvmcore/jvmcorelaw1.PoolTexts", spec := "poolTexts", unfollowed := true, recurses := true, apart := false, narrowed := true }
def PoolTextsUptoSaid : Prop := poolTextsUptoRow.holds Try.pinned (OpenSpec.upto poolTextsSpec)

/-- 'jvmcorelaw1.PoolWrites', WHERE WHAT IT READS IS OF BULK AT MOST 1048576: true; the input reads as it did. -/
def poolWritesUptoRow : OpenClaim := { program := "ytnpgmbpialokcaa", sum := "01b007e6c46f7f1f013bb369732524f93e316d695157a7b7dc8b0065c6fa696d", func := "jvmcore/jvmcorelaw1.PoolWrites", spec := "poolWrites", unfollowed := true, recurses := true, apart := false, narrowed := true }
def PoolWritesUptoSaid : Prop := poolWritesUptoRow.holds Try.pinned (OpenSpec.upto poolWritesSpec)

/-- 'jvmcorelaw1.PoolReads', WHERE WHAT IT READS IS OF BULK AT MOST 1048576: true; the input reads as it did. -/
def poolReadsUptoRow : OpenClaim := { program := "ytnpgmbpialokcaa", sum := "01b007e6c46f7f1f013bb369732524f93e316d695157a7b7dc8b0065c6fa696d", func := "jvmcore/jvmcorelaw1.PoolReads", spec := "poolReads", unfollowed := true, recurses := true, apart := false, narrowed := true }
def PoolReadsUptoSaid : Prop := poolReadsUptoRow.holds Try.pinned (OpenSpec.upto poolReadsSpec)

/-- 'jvmcorelaw1.PoolRounds', WHERE WHAT IT READS IS OF BULK AT MOST 1048576: true; the input reads as it did. -/
def poolRoundsUptoRow : OpenClaim := { program := "ytnpgmbpialokcaa", sum := "01b007e6c46f7f1f013bb369732524f93e316d695157a7b7dc8b0065c6fa696d", func := "jvmcore/jvmcorelaw1.PoolRounds", spec := "poolRounds", unfollowed := true, recurses := true, apart := false, narrowed := true }
def PoolRoundsUptoSaid : Prop := poolRoundsUptoRow.holds Try.pinned (OpenSpec.upto poolRoundsSpec)

end Rows
end Go.Proofs.Ytnpgmbpialokcaa
