/-
  DERIVED. GIVEN WITH THE SEED: THE CARDS: each row of YtonjnjkdebpilaaGreatDoorRows.lean that lists a variable, with what it lists TIED to the program's text (the seventh form; the later family's looks); each row that meets fmt, with fmt's text TOLD by the authors' own Lean function (tested against real Go, not proved from fmt's source: count such statements apart). THE CARD IS WHAT COUNTS. Prove the row's statement (the work); the ties are given (YtonjnjkdebpilaaGreatDoorTie.lean); close each card by the builder's one call (the guide's Derived/Test/ToyasCard.lean, 'card_holds'). Laid BY PROGRAM, IN A SANDBOX (cutbox-door.mjs). By AI agents, Wed Nov 11 2026. No macro, syntax, notation, axiom, sorry.
-/
import Derived.Test.YtonjnjkdebpilaaGreatDoorRows
import GoSem.ClaimSeven
namespace Go.Proofs.YtonjnjkdebpilaaGreatDoor
namespace Rows

/-- THE TIED CARD OF 'framewiselaw33.CheckerGranted'. -/
def checkerGrantedCard : Claim7 := { stood := { row := checkerGrantedRow, standIns := [], harness := (true, "ec9277052aeae87f76b444373fa973b406e156d0c23d8569b32ae81346eb29a9"), looks := true }, kinds := [], alts := [], laidByText := true, laidKinds := [.data, .data, .data, .data, .sentinel, .sentinel, .listed, .data, .pinned], laidTests := true, laidLooks := .later }
def CheckerGrantedCardSaid : Prop := Claim7.holds Tryz.pinned (.plain (OpenSpec.ofChange checkerGrantedSpec)) checkerGrantedCard

/-- THE SECOND FORM's CARD OF 'framewiselaw33.CheckerGranted'. -/
def checkerGrantedUptoCard : Claim7 := { stood := { row := checkerGrantedUptoRow, standIns := [], harness := (true, "ec9277052aeae87f76b444373fa973b406e156d0c23d8569b32ae81346eb29a9"), looks := true }, kinds := [], alts := [], laidByText := true, laidKinds := [.data, .data, .data, .data, .sentinel, .sentinel, .listed, .data, .pinned], laidTests := true, laidLooks := .later }
def CheckerGrantedUptoCardSaid : Prop := Claim7.holds Tryz.pinned (.plain (OpenSpec.upto checkerGrantedSpec)) checkerGrantedUptoCard
end Rows
end Go.Proofs.YtonjnjkdebpilaaGreatDoor
