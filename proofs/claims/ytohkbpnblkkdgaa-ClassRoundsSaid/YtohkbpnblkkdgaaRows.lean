/-
  No cell of these rows narrows 'for every input' (looked for: loops, veiled, ifaces, maps, wideKeys, modest, calm, conditions, laid).
  DERIVED. THE GIVEN ROWS OF THIS SEAT. 5 by the template 'for every input the law returns true; each argument reads behind the call as it read before'; 0 by the template 'total and deterministic' (their statements: YtohkbpnblkkdgaaTotals.lean).
  GIVEN WITH THE SEED: the statements are not yours to turn. If you find one false, say at which input.
  Laid BY PROGRAM, IN A SANDBOX (cutbox-rows.mjs): the forced cells as the released guide's own fill.sh prints them over the translation 5944ddfbc6fd1d50… (all of the seat's roots in one cut). By AI agents, Wed Nov 11 2026. No macro, syntax, notation, axiom, sorry.
-/
import Derived.Test.YtohkbpnblkkdgaaChecked
import GoSem.Claim
import GoSem.ClaimJoined
import GoSem.ClaimMapViews
import Derived.JoinedTies
import Derived.KernelRfl
namespace Go.Proofs.Ytohkbpnblkkdgaa
/- THE CELL 'sum', in the pinned program and in every row, IS THE sha256 OF THE DUMP (.gsa) THAT YtohkbpnblkkdgaaProg.lean LOADS. Nothing in Lean hashes anything: it is a label: what it is worth is what the hold of that sum in a sandbox is worth. -/
noncomputable def Try.pinned : Pinned := { name := "ytohkbpnblkkdgaa", sum := "5944ddfbc6fd1d5064e6853100a623291a924b066b056b745d24d67d799ccec1", checked := Try.checked }
namespace Rows
def none {H : Type} : Left H := { results := [], args := [] }

/-- 'jvmcorelaw3.MapReads': WHATEVER THE INPUT: true; the input reads as it did. -/
def mapReadsSpec : ChangeSpec := { name := "mapReads", fn := fun _ => fun
  | [d1, d2, d3] => { results := [.lit (.bool true)], args := [d1, d2, d3] }
  | _ => none }
def mapReadsRow : OpenClaim := { program := "ytohkbpnblkkdgaa", sum := "5944ddfbc6fd1d5064e6853100a623291a924b066b056b745d24d67d799ccec1", func := "jvmcore/jvmcorelaw3.MapReads", spec := "mapReads", apart := false }
def MapReadsSaid : Prop := mapReadsRow.holds Try.pinned (OpenSpec.ofChange mapReadsSpec)

/-- ITS FALSE NEIGHBOUR: 'it returns false'. Refute it at one input. -/
def mapReadsWrong : ChangeSpec := { name := "mapReads", fn := fun _ => fun
  | [d1, d2, d3] => { results := [.lit (.bool false)], args := [d1, d2, d3] }
  | _ => none }
def MapReadsWrongFalsely : Prop := mapReadsRow.holds Try.pinned (OpenSpec.ofChange mapReadsWrong)

/-- 'jvmcorelaw3.MapRounds': WHATEVER THE INPUT: true; the input reads as it did. -/
def mapRoundsSpec : ChangeSpec := { name := "mapRounds", fn := fun _ => fun
  | [d1, d2, d3] => { results := [.lit (.bool true)], args := [d1, d2, d3] }
  | _ => none }
def mapRoundsRow : OpenClaim := { program := "ytohkbpnblkkdgaa", sum := "5944ddfbc6fd1d5064e6853100a623291a924b066b056b745d24d67d799ccec1", func := "jvmcore/jvmcorelaw3.MapRounds", spec := "mapRounds", unfollowed := true, recurses := true, apart := false }
def MapRoundsSaid : Prop := mapRoundsRow.holds Try.pinned (OpenSpec.ofChange mapRoundsSpec)

/-- ITS FALSE NEIGHBOUR: 'it returns false'. Refute it at one input. -/
def mapRoundsWrong : ChangeSpec := { name := "mapRounds", fn := fun _ => fun
  | [d1, d2, d3] => { results := [.lit (.bool false)], args := [d1, d2, d3] }
  | _ => none }
def MapRoundsWrongFalsely : Prop := mapRoundsRow.holds Try.pinned (OpenSpec.ofChange mapRoundsWrong)

/-- 'jvmcorelaw3.ClassWrites': WHATEVER THE INPUT: true; the input reads as it did. -/
def classWritesSpec : ChangeSpec := { name := "classWrites", fn := fun _ => fun
  | [d] => { results := [.lit (.bool true)], args := [d] }
  | _ => none }
def classWritesRow : OpenClaim := { program := "ytohkbpnblkkdgaa", sum := "5944ddfbc6fd1d5064e6853100a623291a924b066b056b745d24d67d799ccec1", func := "jvmcore/jvmcorelaw3.ClassWrites", spec := "classWrites", unfollowed := true, recurses := true, apart := false }
def ClassWritesSaid : Prop := classWritesRow.holds Try.pinned (OpenSpec.ofChange classWritesSpec)

/-- ITS FALSE NEIGHBOUR: 'it returns false'. Refute it at one input. -/
def classWritesWrong : ChangeSpec := { name := "classWrites", fn := fun _ => fun
  | [d] => { results := [.lit (.bool false)], args := [d] }
  | _ => none }
def ClassWritesWrongFalsely : Prop := classWritesRow.holds Try.pinned (OpenSpec.ofChange classWritesWrong)

/-- 'jvmcorelaw3.ClassReads': WHATEVER THE INPUT: true; the input reads as it did. -/
def classReadsSpec : ChangeSpec := { name := "classReads", fn := fun _ => fun
  | [d] => { results := [.lit (.bool true)], args := [d] }
  | _ => none }
def classReadsRow : OpenClaim := { program := "ytohkbpnblkkdgaa", sum := "5944ddfbc6fd1d5064e6853100a623291a924b066b056b745d24d67d799ccec1", func := "jvmcore/jvmcorelaw3.ClassReads", spec := "classReads", unfollowed := true, recurses := true, apart := false }
def ClassReadsSaid : Prop := classReadsRow.holds Try.pinned (OpenSpec.ofChange classReadsSpec)

/-- ITS FALSE NEIGHBOUR: 'it returns false'. Refute it at one input. -/
def classReadsWrong : ChangeSpec := { name := "classReads", fn := fun _ => fun
  | [d] => { results := [.lit (.bool false)], args := [d] }
  | _ => none }
def ClassReadsWrongFalsely : Prop := classReadsRow.holds Try.pinned (OpenSpec.ofChange classReadsWrong)

/-- 'jvmcorelaw3.ClassRounds': WHATEVER THE INPUT: true; the input reads as it did. -/
def classRoundsSpec : ChangeSpec := { name := "classRounds", fn := fun _ => fun
  | [d] => { results := [.lit (.bool true)], args := [d] }
  | _ => none }
def classRoundsRow : OpenClaim := { program := "ytohkbpnblkkdgaa", sum := "5944ddfbc6fd1d5064e6853100a623291a924b066b056b745d24d67d799ccec1", func := "jvmcore/jvmcorelaw3.ClassRounds", spec := "classRounds", unfollowed := true, recurses := true, apart := false }
def ClassRoundsSaid : Prop := classRoundsRow.holds Try.pinned (OpenSpec.ofChange classRoundsSpec)

/-- ITS FALSE NEIGHBOUR: 'it returns false'. Refute it at one input. -/
def classRoundsWrong : ChangeSpec := { name := "classRounds", fn := fun _ => fun
  | [d] => { results := [.lit (.bool false)], args := [d] }
  | _ => none }
def ClassRoundsWrongFalsely : Prop := classRoundsRow.holds Try.pinned (OpenSpec.ofChange classRoundsWrong)

/- THE SECOND FORM. 'bulk': how many values and letters a reading holds, each counted each time it is reached (what is shared counts as often as it is met; a slice's spare places count too). A statement '..UptoSaid' is the law's where the arguments, and the package variables that the reading takes, are together of bulk at most 1048576: NARROWER than '..Said'. Prove '..Said' where nothing that the law and all that it calls make is longer than what came in: it says more and counts as full. Else prove '..UptoSaid'. A law counts once. -/
mutual
def uptoBulk {H : Type} : DataW H → Nat
  | .lit (.string bytes) => bytes.length + 1
  | .lit _ => 1
  | .nil => 1
  | .ptr d => uptoBulk d + 1
  | .slice elems spare => uptoBulkAll elems + uptoBulkAll spare + 1
  | .agg parts => uptoBulkAll parts + 1
  | .iface _ d => uptoBulk d + 1
  | .map entries => uptoBulkEntries entries + 1
  | .held _ => 1
def uptoBulkAll {H : Type} : List (DataW H) → Nat
  | [] => 0
  | d :: r => uptoBulk d + uptoBulkAll r
def uptoBulkEntries {H : Type} : List (Lit × DataW H) → Nat
  | [] => 0
  | x :: r => uptoBulkEntry x + uptoBulkEntries r
def uptoBulkEntry {H : Type} : Lit × DataW H → Nat
  | (.string bytes, d) => bytes.length + uptoBulk d + 1
  | (_, d) => uptoBulk d + 1
 end
def uptoSmall : (H : Type) → List (DataW H) → Bool := fun _ ds => decide (uptoBulkAll ds ≤ 1048576)
def OpenSpec.upto (s : _root_.Go.ChangeSpec) : _root_.Go.OpenSpec := { _root_.Go.OpenSpec.ofChange s with cond := some uptoSmall }

/-- 'jvmcorelaw3.MapReads', WHERE WHAT IT READS IS OF BULK AT MOST 1048576: true; the input reads as it did. -/
def mapReadsUptoRow : OpenClaim := { program := "ytohkbpnblkkdgaa", sum := "5944ddfbc6fd1d5064e6853100a623291a924b066b056b745d24d67d799ccec1", func := "jvmcore/jvmcorelaw3.MapReads", spec := "mapReads", apart := false, narrowed := true }
def MapReadsUptoSaid : Prop := mapReadsUptoRow.holds Try.pinned (OpenSpec.upto mapReadsSpec)

/-- 'jvmcorelaw3.MapRounds', WHERE WHAT IT READS IS OF BULK AT MOST 1048576: true; the input reads as it did. -/
def mapRoundsUptoRow : OpenClaim := { program := "ytohkbpnblkkdgaa", sum := "5944ddfbc6fd1d5064e6853100a623291a924b066b056b745d24d67d799ccec1", func := "jvmcore/jvmcorelaw3.MapRounds", spec := "mapRounds", unfollowed := true, recurses := true, apart := false, narrowed := true }
def MapRoundsUptoSaid : Prop := mapRoundsUptoRow.holds Try.pinned (OpenSpec.upto mapRoundsSpec)

/-- 'jvmcorelaw3.ClassWrites', WHERE WHAT IT READS IS OF BULK AT MOST 1048576: true; the input reads as it did. -/
def classWritesUptoRow : OpenClaim := { program := "ytohkbpnblkkdgaa", sum := "5944ddfbc6fd1d5064e6853100a623291a924b066b056b745d24d67d799ccec1", func := "jvmcore/jvmcorelaw3.ClassWrites", spec := "classWrites", unfollowed := true, recurses := true, apart := false, narrowed := true }
def ClassWritesUptoSaid : Prop := classWritesUptoRow.holds Try.pinned (OpenSpec.upto classWritesSpec)

/-- 'jvmcorelaw3.ClassReads', WHERE WHAT IT READS IS OF BULK AT MOST 1048576: true; the input reads as it did. -/
def classReadsUptoRow : OpenClaim := { program := "ytohkbpnblkkdgaa", sum := "5944ddfbc6fd1d5064e6853100a623291a924b066b056b745d24d67d799ccec1", func := "jvmcore/jvmcorelaw3.ClassReads", spec := "classReads", unfollowed := true, recurses := true, apart := false, narrowed := true }
def ClassReadsUptoSaid : Prop := classReadsUptoRow.holds Try.pinned (OpenSpec.upto classReadsSpec)

/-- 'jvmcorelaw3.ClassRounds', WHERE WHAT IT READS IS OF BULK AT MOST 1048576: true; the input reads as it did. -/
def classRoundsUptoRow : OpenClaim := { program := "ytohkbpnblkkdgaa", sum := "5944ddfbc6fd1d5064e6853100a623291a924b066b056b745d24d67d799ccec1", func := "jvmcore/jvmcorelaw3.ClassRounds", spec := "classRounds", unfollowed := true, recurses := true, apart := false, narrowed := true }
def ClassRoundsUptoSaid : Prop := classRoundsUptoRow.holds Try.pinned (OpenSpec.upto classRoundsSpec)

end Rows
end Go.Proofs.Ytohkbpnblkkdgaa
