/-
  DERIVED. GIVEN WITH THE SEED: THE CARDS: each row of YtmbboehmnfhjjaaGreatDoorRows.lean that lists a variable, with what it lists TIED to the program's text (the seventh form; the later family's looks); each row that meets fmt, with fmt's text TOLD by the authors' own Lean function (tested against real Go, not proved from fmt's source: count such statements apart). THE CARD IS WHAT COUNTS. Prove the row's statement (the work); the ties are given (YtmbboehmnfhjjaaGreatDoorTie.lean); close each card by the builder's one call (the guide's Derived/Test/ToyasCard.lean, 'card_holds'). Laid BY PROGRAM, IN A SANDBOX (cutbox-door.mjs). By AI agents, Wed Nov 11 2026. No macro, syntax, notation, axiom, sorry.
-/
import Derived.Test.YtmbboehmnfhjjaaGreatDoorRows
import GoSem.ClaimSeven
namespace Go.Proofs.YtmbboehmnfhjjaaGreatDoor
namespace Rows

/-- THE TIED CARD OF 'jvmcorelaw4.LinkDefines'. -/
def linkDefinesCard : Claim7 := { stood := { row := linkDefinesRow, standIns := [], harness := (true, "8fb9802f6433180850ff9c596d85ede87f9ca9e6f101de777a28cb3575ae6f6f"), looks := true }, kinds := [], alts := [], laidByText := true, laidKinds := [.data, .listed, .data, .data, .data, .data, .data, .data, .data, .data, .pinned], laidTests := true, laidLooks := .later }
def LinkDefinesCardSaid : Prop := Claim7.holds Tryz.pinned (.plain (OpenSpec.ofChange linkDefinesSpec)) linkDefinesCard

/-- THE SECOND FORM's CARD OF 'jvmcorelaw4.LinkDefines'. -/
def linkDefinesUptoCard : Claim7 := { stood := { row := linkDefinesUptoRow, standIns := [], harness := (true, "8fb9802f6433180850ff9c596d85ede87f9ca9e6f101de777a28cb3575ae6f6f"), looks := true }, kinds := [], alts := [], laidByText := true, laidKinds := [.data, .listed, .data, .data, .data, .data, .data, .data, .data, .data, .pinned], laidTests := true, laidLooks := .later }
def LinkDefinesUptoCardSaid : Prop := Claim7.holds Tryz.pinned (.plain (OpenSpec.upto linkDefinesSpec)) linkDefinesUptoCard
end Rows
end Go.Proofs.YtmbboehmnfhjjaaGreatDoor
