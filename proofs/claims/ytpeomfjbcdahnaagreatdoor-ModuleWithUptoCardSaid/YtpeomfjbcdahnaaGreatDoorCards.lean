/-
  DERIVED. GIVEN WITH THE SEED: THE CARDS: each row of YtpeomfjbcdahnaaGreatDoorRows.lean that lists a variable, with what it lists TIED to the program's text (the seventh form; the later family's looks); each row that meets fmt, with fmt's text TOLD by the authors' own Lean function (tested against real Go, not proved from fmt's source: count such statements apart). THE CARD IS WHAT COUNTS. Prove the row's statement (the work); the ties are given (YtpeomfjbcdahnaaGreatDoorTie.lean); close each card by the builder's one call (the guide's Derived/Test/ToyasCard.lean, 'card_holds'). Laid BY PROGRAM, IN A SANDBOX (cutbox-door.mjs). By AI agents, Wed Nov 11 2026. No macro, syntax, notation, axiom, sorry.
-/
import Derived.Test.YtpeomfjbcdahnaaGreatDoorRows
import GoSem.ClaimSeven
namespace Go.Proofs.YtpeomfjbcdahnaaGreatDoor
namespace Rows

/-- THE TIED CARD OF 'framewiselaw28.ModuleNames'. -/
def moduleNamesCard : Claim7 := { stood := { row := moduleNamesRow, standIns := [], harness := (true, "9c23146ee47041bd8c167f5c77ebf1ed69dbad045036f06525169f39d0801870"), looks := true }, kinds := [], alts := [], laidByText := true, laidKinds := [.data, .data, .data, .data, .sentinel, .sentinel, .listed, .data, .pinned], laidTests := true, laidLooks := .later }
def ModuleNamesCardSaid : Prop := Claim7.holds Tryz.pinned (.plain (OpenSpec.ofChange moduleNamesSpec)) moduleNamesCard

/-- THE TIED CARD OF 'framewiselaw28.ModuleWith'. -/
def moduleWithCard : Claim7 := { stood := { row := moduleWithRow, standIns := [], harness := (true, "9c23146ee47041bd8c167f5c77ebf1ed69dbad045036f06525169f39d0801870"), looks := true }, kinds := [], alts := [], laidByText := true, laidKinds := [.data, .data, .data, .data, .sentinel, .sentinel, .listed, .data, .pinned], laidTests := true, laidLooks := .later }
def ModuleWithCardSaid : Prop := Claim7.holds Tryz.pinned (.plain (OpenSpec.ofChange moduleWithSpec)) moduleWithCard

/-- THE SECOND FORM's CARD OF 'framewiselaw28.ModuleNames'. -/
def moduleNamesUptoCard : Claim7 := { stood := { row := moduleNamesUptoRow, standIns := [], harness := (true, "9c23146ee47041bd8c167f5c77ebf1ed69dbad045036f06525169f39d0801870"), looks := true }, kinds := [], alts := [], laidByText := true, laidKinds := [.data, .data, .data, .data, .sentinel, .sentinel, .listed, .data, .pinned], laidTests := true, laidLooks := .later }
def ModuleNamesUptoCardSaid : Prop := Claim7.holds Tryz.pinned (.plain (OpenSpec.upto moduleNamesSpec)) moduleNamesUptoCard

/-- THE SECOND FORM's CARD OF 'framewiselaw28.ModuleWith'. -/
def moduleWithUptoCard : Claim7 := { stood := { row := moduleWithUptoRow, standIns := [], harness := (true, "9c23146ee47041bd8c167f5c77ebf1ed69dbad045036f06525169f39d0801870"), looks := true }, kinds := [], alts := [], laidByText := true, laidKinds := [.data, .data, .data, .data, .sentinel, .sentinel, .listed, .data, .pinned], laidTests := true, laidLooks := .later }
def ModuleWithUptoCardSaid : Prop := Claim7.holds Tryz.pinned (.plain (OpenSpec.upto moduleWithSpec)) moduleWithUptoCard
end Rows
end Go.Proofs.YtpeomfjbcdahnaaGreatDoor
