/-
  DERIVED. GIVEN WITH THE SEED: THE CARDS: each row of YtggfgjahmdedbaaDoorRows.lean that lists a variable, with what it lists TIED to the program's text (the seventh form; the later family's looks); each row that meets fmt, with fmt's text TOLD by the authors' own Lean function (tested against real Go, not proved from fmt's source: count such statements apart). THE CARD IS WHAT COUNTS. Prove the row's statement (the work); the ties are given (YtggfgjahmdedbaaDoorTie.lean); close each card by the builder's one call (the guide's Derived/Test/ToyasCard.lean, 'card_holds'). Laid BY PROGRAM, IN A SANDBOX (cutbox-door.mjs). By AI agents, Wed Nov 11 2026. No macro, syntax, notation, axiom, sorry.
-/
import Derived.Test.YtggfgjahmdedbaaDoorRows
import GoSem.ClaimSeven
namespace Go.Proofs.YtggfgjahmdedbaaDoor
namespace Rows

/-- THE TIED CARD OF 'jvmcorelaw1.DescNames'. -/
def descNamesCard : Claim7 := { stood := { row := descNamesRow, standIns := [], harness := (true, "cd4908424ee6ddfd92f8cb17433a1ca3f9948693a03f7ff94f3a15ff5d2585f0"), looks := false }, kinds := [], alts := [], laidByText := true, laidKinds := [.data, .pinned], laidTests := true, laidLooks := .later }
def DescNamesCardSaid : Prop := Claim7.holds Tryd.pinned (.plain (OpenSpec.ofChange descNamesSpec)) descNamesCard

/-- THE TIED CARD OF 'jvmcorelaw1.DescTypes'. -/
def descTypesCard : Claim7 := { stood := { row := descTypesRow, standIns := [], harness := (true, "cd4908424ee6ddfd92f8cb17433a1ca3f9948693a03f7ff94f3a15ff5d2585f0"), looks := false }, kinds := [], alts := [], laidByText := true, laidKinds := [.data, .pinned], laidTests := true, laidLooks := .later }
def DescTypesCardSaid : Prop := Claim7.holds Tryd.pinned (.plain (OpenSpec.ofChange descTypesSpec)) descTypesCard

/-- THE SECOND FORM's CARD OF 'jvmcorelaw1.DescNames'. -/
def descNamesUptoCard : Claim7 := { stood := { row := descNamesUptoRow, standIns := [], harness := (true, "cd4908424ee6ddfd92f8cb17433a1ca3f9948693a03f7ff94f3a15ff5d2585f0"), looks := false }, kinds := [], alts := [], laidByText := true, laidKinds := [.data, .pinned], laidTests := true, laidLooks := .later }
def DescNamesUptoCardSaid : Prop := Claim7.holds Tryd.pinned (.plain (OpenSpec.upto descNamesSpec)) descNamesUptoCard

/-- THE SECOND FORM's CARD OF 'jvmcorelaw1.DescTypes'. -/
def descTypesUptoCard : Claim7 := { stood := { row := descTypesUptoRow, standIns := [], harness := (true, "cd4908424ee6ddfd92f8cb17433a1ca3f9948693a03f7ff94f3a15ff5d2585f0"), looks := false }, kinds := [], alts := [], laidByText := true, laidKinds := [.data, .pinned], laidTests := true, laidLooks := .later }
def DescTypesUptoCardSaid : Prop := Claim7.holds Tryd.pinned (.plain (OpenSpec.upto descTypesSpec)) descTypesUptoCard
end Rows
end Go.Proofs.YtggfgjahmdedbaaDoor
