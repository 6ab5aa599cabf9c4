/-
  No cell of these rows narrows 'for every input' (looked for: loops, veiled, ifaces, maps, wideKeys, modest, calm, conditions, laid).
  DERIVED. THE GIVEN ROWS OF THIS SEAT. 3 by the template 'for every input the law returns true; each argument reads behind the call as it read before'; 0 by the template 'total and deterministic' (their statements: YthhfbnkmhgadaaaTotals.lean).
  GIVEN WITH THE SEED: the statements are not yours to turn. If you find one false, say at which input.
  Laid BY PROGRAM, IN A SANDBOX (cutbox-rows.mjs): the forced cells as the released guide's own fill.sh prints them over the translation 50dea6f11409ee84… (all of the seat's roots in one cut). By AI agents, Wed Nov 11 2026. No macro, syntax, notation, axiom, sorry.
-/
import Derived.Test.YthhfbnkmhgadaaaChecked
import GoSem.Claim
import GoSem.ClaimJoined
import GoSem.ClaimMapViews
import Derived.JoinedTies
import Derived.KernelRfl
namespace Go.Proofs.Ythhfbnkmhgadaaa
/- THE CELL 'sum', in the pinned program and in every row, IS THE sha256 OF THE DUMP (.gsa) THAT YthhfbnkmhgadaaaProg.lean LOADS. Nothing in Lean hashes anything: it is a label: what it is worth is what the hold of that sum in a sandbox is worth. -/
noncomputable def Try.pinned : Pinned := { name := "ythhfbnkmhgadaaa", sum := "50dea6f11409ee8407a36ff0a72f1e3e93fc828cea7f9da884c3655de8dd8751", checked := Try.checked }
namespace Rows
def none {H : Type} : Left H := { results := [], args := [] }

/-- 'jvmcorelaw3.MapWrites': WHATEVER THE INPUT: true; the input reads as it did. -/
def mapWritesSpec : ChangeSpec := { name := "mapWrites", fn := fun _ => fun
  | [d1, d2, d3] => { results := [.lit (.bool true)], args := [d1, d2, d3] }
  | _ => none }
def mapWritesRow : OpenClaim := { program := "ythhfbnkmhgadaaa", sum := "50dea6f11409ee8407a36ff0a72f1e3e93fc828cea7f9da884c3655de8dd8751", func := "jvmcore/jvmcorelaw3.MapWrites", spec := "mapWrites", unfollowed := true, recurses := true, apart := false }
def MapWritesSaid : Prop := mapWritesRow.holds Try.pinned (OpenSpec.ofChange mapWritesSpec)

/-- ITS FALSE NEIGHBOUR: 'it returns false'. Refute it at one input. -/
def mapWritesWrong : ChangeSpec := { name := "mapWrites", fn := fun _ => fun
  | [d1, d2, d3] => { results := [.lit (.bool false)], args := [d1, d2, d3] }
  | _ => none }
def MapWritesWrongFalsely : Prop := mapWritesRow.holds Try.pinned (OpenSpec.ofChange mapWritesWrong)

/-- 'jvmcorelaw3.MapReads': WHATEVER THE INPUT: true; the input reads as it did. -/
def mapReadsSpec : ChangeSpec := { name := "mapReads", fn := fun _ => fun
  | [d1, d2, d3] => { results := [.lit (.bool true)], args := [d1, d2, d3] }
  | _ => none }
def mapReadsRow : OpenClaim := { program := "ythhfbnkmhgadaaa", sum := "50dea6f11409ee8407a36ff0a72f1e3e93fc828cea7f9da884c3655de8dd8751", func := "jvmcore/jvmcorelaw3.MapReads", spec := "mapReads", apart := false }
def MapReadsSaid : Prop := mapReadsRow.holds Try.pinned (OpenSpec.ofChange mapReadsSpec)

/-- ITS FALSE NEIGHBOUR: 'it returns false'. Refute it at one input. -/
def mapReadsWrong : ChangeSpec := { name := "mapReads", fn := fun _ => fun
  | [d1, d2, d3] => { results := [.lit (.bool false)], args := [d1, d2, d3] }
  | _ => none }
def MapReadsWrongFalsely : Prop := mapReadsRow.holds Try.pinned (OpenSpec.ofChange mapReadsWrong)

/-- 'jvmcorelaw3.MapRounds': WHATEVER THE INPUT: true; the input reads as it did. -/
def mapRoundsSpec : ChangeSpec := { name := "mapRounds", fn := fun _ => fun
  | [d1, d2, d3] => { results := [.lit (.bool true)], args := [d1, d2, d3] }
  | _ => none }
def mapRoundsRow : OpenClaim := { program := "ythhfbnkmhgadaaa", sum := "50dea6f11409ee8407a36ff0a72f1e3e93fc828cea7f9da884c3655de8dd8751", func := "jvmcore/jvmcorelaw3.MapRounds", spec := "mapRounds", unfollowed := true, recurses := true, apart := false }
def MapRoundsSaid : Prop := mapRoundsRow.holds Try.pinned (OpenSpec.ofChange mapRoundsSpec)

/-- ITS FALSE NEIGHBOUR: 'it returns false'. Refute it at one input. -/
def mapRoundsWrong : ChangeSpec := { name := "mapRounds", fn := fun _ => fun
  | [d1, d2, d3] => { results := [.lit (.bool false)], args := [d1, d2, d3] }
  | _ => none }
def MapRoundsWrongFalsely : Prop := mapRoundsRow.holds Try.pinned (OpenSpec.ofChange mapRoundsWrong)

/- THE SECOND FORM. 'bulk': how many values and letters a reading holds, each counted each time it is reached (what is shared counts as often as it is met; a slice's spare places count too). A statement '..UptoSaid' is the law's where the arguments, and the package variables that the reading takes, are together of bulk at most 1048576: NARROWER than '..Said'. Prove '..Said' where nothing that the law and all that it calls make is longer than what came in: it says more and counts as full. Else prove '..UptoSaid'. A law counts once. -/
mutual
def uptoBulk {H : Type} : DataW H → Nat
  | .lit (.string bytes) => bytes.length + 1
  | .lit _ => 1
  | .nil => 1
  | .ptr d => uptoBulk d + 1
  | .slice elems spare => uptoBulkAll elems + uptoBulkAll spare + 1
  | .agg parts => uptoBulkAll parts + 1
  | .iface _ d => uptoBulk d + 1
  | .map entries => uptoBulkEntries entries + 1
  | .held _ => 1
def uptoBulkAll {H : Type} : List (DataW H) → Nat
  | [] => 0
  | d :: r => uptoBulk d + uptoBulkAll r
def uptoBulkEntries {H : Type} : List (Lit × DataW H) → Nat
  | [] => 0
  | x :: r => uptoBulkEntry x + uptoBulkEntries r
def uptoBulkEntry {H : Type} : Lit × DataW H → Nat
  | (.string bytes, d) => bytes.length + uptoBulk d + 1
  | (_, d) => uptoBulk d + 1
 end
def uptoSmall : (H : Type) → List (DataW H) → Bool := fun _ ds => decide (uptoBulkAll ds ≤ 1048576)
def OpenSpec.upto (s : _root_.Go.ChangeSpec) : _root_.Go.OpenSpec := { _root_.Go.OpenSpec.ofChange s with cond := some uptoSmall }

/-- 'jvmcorelaw3.MapWrites', WHERE WHAT IT READS IS OF BULK AT MOST 1048576: true; the input reads as it did. -/
def mapWritesUptoRow : OpenClaim := { program := "ythhfbnkmhgadaaa", sum := "50dea6f11409ee8407a36ff0a72f1e3e93fc828cea7f9da884c3655de8dd8751", func := "jvmcore/jvmcorelaw3.MapWrites", spec := "mapWrites", unfollowed := true, recurses := true, apart := false, narrowed := true }
def MapWritesUptoSaid : Prop := mapWritesUptoRow.holds Try.pinned (OpenSpec.upto mapWritesSpec)

/-- 'jvmcorelaw3.MapReads', WHERE WHAT IT READS IS OF BULK AT MOST 1048576: true; the input reads as it did. -/
def mapReadsUptoRow : OpenClaim := { program := "ythhfbnkmhgadaaa", sum := "50dea6f11409ee8407a36ff0a72f1e3e93fc828cea7f9da884c3655de8dd8751", func := "jvmcore/jvmcorelaw3.MapReads", spec := "mapReads", apart := false, narrowed := true }
def MapReadsUptoSaid : Prop := mapReadsUptoRow.holds Try.pinned (OpenSpec.upto mapReadsSpec)

/-- 'jvmcorelaw3.MapRounds', WHERE WHAT IT READS IS OF BULK AT MOST 1048576: true; the input reads as it did. -/
def mapRoundsUptoRow : OpenClaim := { program := "ythhfbnkmhgadaaa", sum := "50dea6f11409ee8407a36ff0a72f1e3e93fc828cea7f9da884c3655de8dd8751", func := "jvmcore/jvmcorelaw3.MapRounds", spec := "mapRounds", unfollowed := true, recurses := true, apart := false, narrowed := true }
def MapRoundsUptoSaid : Prop := mapRoundsUptoRow.holds Try.pinned (OpenSpec.upto mapRoundsSpec)

end Rows
end Go.Proofs.Ythhfbnkmhgadaaa
