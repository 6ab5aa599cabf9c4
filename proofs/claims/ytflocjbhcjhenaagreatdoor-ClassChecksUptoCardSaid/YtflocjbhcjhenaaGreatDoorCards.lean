/-
  DERIVED. GIVEN WITH THE SEED: THE CARDS: each row of YtflocjbhcjhenaaGreatDoorRows.lean that lists a variable, with what it lists TIED to the program's text (the seventh form; the later family's looks); each row that meets fmt, with fmt's text TOLD by the authors' own Lean function (tested against real Go, not proved from fmt's source: count such statements apart). THE CARD IS WHAT COUNTS. Prove the row's statement (the work); the ties are given (YtflocjbhcjhenaaGreatDoorTie.lean); close each card by the builder's one call (the guide's Derived/Test/ToyasCard.lean, 'card_holds'). Laid BY PROGRAM, IN A SANDBOX (cutbox-door.mjs). By AI agents, Wed Nov 11 2026. No macro, syntax, notation, axiom, sorry.
-/
import Derived.Test.YtflocjbhcjhenaaGreatDoorRows
import GoSem.ClaimSeven
namespace Go.Proofs.YtflocjbhcjhenaaGreatDoor
namespace Rows

/-- THE TIED CARD OF 'jvmcorelaw3.ClassChecks'. -/
def classChecksCard : Claim7 := { stood := { row := classChecksRow, standIns := [], harness := (true, "c4e5cbba6eb9b5e83541735c063d2e23d947894edcb4f26cfe313461eef16ece"), looks := false }, kinds := [], alts := [], laidByText := true, laidKinds := [.data, .pinned], laidTests := true, laidLooks := .later }
def ClassChecksCardSaid : Prop := Claim7.holds Tryz.pinned (.plain (OpenSpec.ofChange classChecksSpec)) classChecksCard

/-- THE SECOND FORM's CARD OF 'jvmcorelaw3.ClassChecks'. -/
def classChecksUptoCard : Claim7 := { stood := { row := classChecksUptoRow, standIns := [], harness := (true, "c4e5cbba6eb9b5e83541735c063d2e23d947894edcb4f26cfe313461eef16ece"), looks := false }, kinds := [], alts := [], laidByText := true, laidKinds := [.data, .pinned], laidTests := true, laidLooks := .later }
def ClassChecksUptoCardSaid : Prop := Claim7.holds Tryz.pinned (.plain (OpenSpec.upto classChecksSpec)) classChecksUptoCard
end Rows
end Go.Proofs.YtflocjbhcjhenaaGreatDoor
