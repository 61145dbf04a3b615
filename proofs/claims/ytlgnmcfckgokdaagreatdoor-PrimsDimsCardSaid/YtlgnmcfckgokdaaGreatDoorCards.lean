/-
  DERIVED. GIVEN WITH THE SEED: THE CARDS: each row of YtlgnmcfckgokdaaGreatDoorRows.lean that lists a variable, with what it lists TIED to the program's text (the seventh form; the later family's looks); each row that meets fmt, with fmt's text TOLD by the authors' own Lean function (tested against real Go, not proved from fmt's source: count such statements apart). THE CARD IS WHAT COUNTS. Prove the row's statement (the work); the ties are given (YtlgnmcfckgokdaaGreatDoorTie.lean); close each card by the builder's one call (the guide's Derived/Test/ToyasCard.lean, 'card_holds'). Laid BY PROGRAM, IN A SANDBOX (cutbox-door.mjs). By AI agents, Wed Nov 11 2026. No macro, syntax, notation, axiom, sorry.
-/
import Derived.Test.YtlgnmcfckgokdaaGreatDoorRows
import GoSem.ClaimSeven
namespace Go.Proofs.YtlgnmcfckgokdaaGreatDoor
namespace Rows

/-- THE TIED CARD OF 'framewiselaw23.PrimsUnder'. -/
def primsUnderCard : Claim7 := { stood := { row := primsUnderRow, standIns := [], harness := (true, "6bb8a84d892dac5463fcf4889d189ccc047ab28932e450c6e44b3171c7af1df8"), looks := true }, kinds := [], alts := [], laidByText := true, laidKinds := [.data, .data, .data, .data, .sentinel, .sentinel, .listed, .data, .pinned], laidTests := true, laidLooks := .later }
def PrimsUnderCardSaid : Prop := Claim7.holds Tryz.pinned (.plain (OpenSpec.ofChange primsUnderSpec)) primsUnderCard

/-- THE TIED CARD OF 'framewiselaw23.PrimsSchemes'. -/
def primsSchemesCard : Claim7 := { stood := { row := primsSchemesRow, standIns := [], harness := (true, "6bb8a84d892dac5463fcf4889d189ccc047ab28932e450c6e44b3171c7af1df8"), looks := true }, kinds := [], alts := [], laidByText := true, laidKinds := [.data, .data, .data, .data, .sentinel, .sentinel, .listed, .data, .pinned], laidTests := true, laidLooks := .later }
def PrimsSchemesCardSaid : Prop := Claim7.holds Tryz.pinned (.plain (OpenSpec.ofChange primsSchemesSpec)) primsSchemesCard

/-- THE TIED CARD OF 'framewiselaw23.PrimsSubstitution'. -/
def primsSubstitutionCard : Claim7 := { stood := { row := primsSubstitutionRow, standIns := [], harness := (true, "6bb8a84d892dac5463fcf4889d189ccc047ab28932e450c6e44b3171c7af1df8"), looks := true }, kinds := [], alts := [], laidByText := true, laidKinds := [.data, .data, .data, .data, .sentinel, .sentinel, .listed, .data, .pinned], laidTests := true, laidLooks := .later }
def PrimsSubstitutionCardSaid : Prop := Claim7.holds Tryz.pinned (.plain (OpenSpec.ofChange primsSubstitutionSpec)) primsSubstitutionCard

/-- THE TIED CARD OF 'framewiselaw23.PrimsDims'. -/
def primsDimsCard : Claim7 := { stood := { row := primsDimsRow, standIns := [], harness := (true, "6bb8a84d892dac5463fcf4889d189ccc047ab28932e450c6e44b3171c7af1df8"), looks := true }, kinds := [], alts := [], laidByText := true, laidKinds := [.data, .data, .data, .data, .sentinel, .sentinel, .listed, .data, .pinned], laidTests := true, laidLooks := .later }
def PrimsDimsCardSaid : Prop := Claim7.holds Tryz.pinned (.plain (OpenSpec.ofChange primsDimsSpec)) primsDimsCard

/-- THE TIED CARD OF 'framewiselaw23.PrimsTable'. -/
def primsTableCard : Claim7 := { stood := { row := primsTableRow, standIns := [], harness := (true, "6bb8a84d892dac5463fcf4889d189ccc047ab28932e450c6e44b3171c7af1df8"), looks := true }, kinds := [], alts := [], laidByText := true, laidKinds := [.data, .data, .data, .data, .sentinel, .sentinel, .listed, .data, .pinned], laidTests := true, laidLooks := .later }
def PrimsTableCardSaid : Prop := Claim7.holds Tryz.pinned (.plain (OpenSpec.ofChange primsTableSpec)) primsTableCard

/-- THE TIED CARD OF 'framewiselaw23.PrimsOperators'. -/
def primsOperatorsCard : Claim7 := { stood := { row := primsOperatorsRow, standIns := [], harness := (true, "6bb8a84d892dac5463fcf4889d189ccc047ab28932e450c6e44b3171c7af1df8"), looks := true }, kinds := [], alts := [], laidByText := true, laidKinds := [.data, .data, .data, .data, .sentinel, .sentinel, .listed, .data, .pinned], laidTests := true, laidLooks := .later }
def PrimsOperatorsCardSaid : Prop := Claim7.holds Tryz.pinned (.plain (OpenSpec.ofChange primsOperatorsSpec)) primsOperatorsCard

/-- THE TIED CARD OF 'framewiselaw23.PrimsLaws'. -/
def primsLawsCard : Claim7 := { stood := { row := primsLawsRow, standIns := [], harness := (true, "6bb8a84d892dac5463fcf4889d189ccc047ab28932e450c6e44b3171c7af1df8"), looks := true }, kinds := [], alts := [], laidByText := true, laidKinds := [.data, .data, .data, .data, .sentinel, .sentinel, .listed, .data, .pinned], laidTests := true, laidLooks := .later }
def PrimsLawsCardSaid : Prop := Claim7.holds Tryz.pinned (.plain (OpenSpec.ofChange primsLawsSpec)) primsLawsCard

/-- THE TIED CARD OF 'framewiselaw23.PrimsAlgebra'. -/
def primsAlgebraCard : Claim7 := { stood := { row := primsAlgebraRow, standIns := [], harness := (true, "6bb8a84d892dac5463fcf4889d189ccc047ab28932e450c6e44b3171c7af1df8"), looks := true }, kinds := [], alts := [], laidByText := true, laidKinds := [.data, .data, .data, .data, .sentinel, .sentinel, .listed, .data, .pinned], laidTests := true, laidLooks := .later }
def PrimsAlgebraCardSaid : Prop := Claim7.holds Tryz.pinned (.plain (OpenSpec.ofChange primsAlgebraSpec)) primsAlgebraCard

/-- THE SECOND FORM's CARD OF 'framewiselaw23.PrimsUnder'. -/
def primsUnderUptoCard : Claim7 := { stood := { row := primsUnderUptoRow, standIns := [], harness := (true, "6bb8a84d892dac5463fcf4889d189ccc047ab28932e450c6e44b3171c7af1df8"), looks := true }, kinds := [], alts := [], laidByText := true, laidKinds := [.data, .data, .data, .data, .sentinel, .sentinel, .listed, .data, .pinned], laidTests := true, laidLooks := .later }
def PrimsUnderUptoCardSaid : Prop := Claim7.holds Tryz.pinned (.plain (OpenSpec.upto primsUnderSpec)) primsUnderUptoCard

/-- THE SECOND FORM's CARD OF 'framewiselaw23.PrimsSchemes'. -/
def primsSchemesUptoCard : Claim7 := { stood := { row := primsSchemesUptoRow, standIns := [], harness := (true, "6bb8a84d892dac5463fcf4889d189ccc047ab28932e450c6e44b3171c7af1df8"), looks := true }, kinds := [], alts := [], laidByText := true, laidKinds := [.data, .data, .data, .data, .sentinel, .sentinel, .listed, .data, .pinned], laidTests := true, laidLooks := .later }
def PrimsSchemesUptoCardSaid : Prop := Claim7.holds Tryz.pinned (.plain (OpenSpec.upto primsSchemesSpec)) primsSchemesUptoCard

/-- THE SECOND FORM's CARD OF 'framewiselaw23.PrimsSubstitution'. -/
def primsSubstitutionUptoCard : Claim7 := { stood := { row := primsSubstitutionUptoRow, standIns := [], harness := (true, "6bb8a84d892dac5463fcf4889d189ccc047ab28932e450c6e44b3171c7af1df8"), looks := true }, kinds := [], alts := [], laidByText := true, laidKinds := [.data, .data, .data, .data, .sentinel, .sentinel, .listed, .data, .pinned], laidTests := true, laidLooks := .later }
def PrimsSubstitutionUptoCardSaid : Prop := Claim7.holds Tryz.pinned (.plain (OpenSpec.upto primsSubstitutionSpec)) primsSubstitutionUptoCard

/-- THE SECOND FORM's CARD OF 'framewiselaw23.PrimsDims'. -/
def primsDimsUptoCard : Claim7 := { stood := { row := primsDimsUptoRow, standIns := [], harness := (true, "6bb8a84d892dac5463fcf4889d189ccc047ab28932e450c6e44b3171c7af1df8"), looks := true }, kinds := [], alts := [], laidByText := true, laidKinds := [.data, .data, .data, .data, .sentinel, .sentinel, .listed, .data, .pinned], laidTests := true, laidLooks := .later }
def PrimsDimsUptoCardSaid : Prop := Claim7.holds Tryz.pinned (.plain (OpenSpec.upto primsDimsSpec)) primsDimsUptoCard

/-- THE SECOND FORM's CARD OF 'framewiselaw23.PrimsTable'. -/
def primsTableUptoCard : Claim7 := { stood := { row := primsTableUptoRow, standIns := [], harness := (true, "6bb8a84d892dac5463fcf4889d189ccc047ab28932e450c6e44b3171c7af1df8"), looks := true }, kinds := [], alts := [], laidByText := true, laidKinds := [.data, .data, .data, .data, .sentinel, .sentinel, .listed, .data, .pinned], laidTests := true, laidLooks := .later }
def PrimsTableUptoCardSaid : Prop := Claim7.holds Tryz.pinned (.plain (OpenSpec.upto primsTableSpec)) primsTableUptoCard

/-- THE SECOND FORM's CARD OF 'framewiselaw23.PrimsOperators'. -/
def primsOperatorsUptoCard : Claim7 := { stood := { row := primsOperatorsUptoRow, standIns := [], harness := (true, "6bb8a84d892dac5463fcf4889d189ccc047ab28932e450c6e44b3171c7af1df8"), looks := true }, kinds := [], alts := [], laidByText := true, laidKinds := [.data, .data, .data, .data, .sentinel, .sentinel, .listed, .data, .pinned], laidTests := true, laidLooks := .later }
def PrimsOperatorsUptoCardSaid : Prop := Claim7.holds Tryz.pinned (.plain (OpenSpec.upto primsOperatorsSpec)) primsOperatorsUptoCard

/-- THE SECOND FORM's CARD OF 'framewiselaw23.PrimsLaws'. -/
def primsLawsUptoCard : Claim7 := { stood := { row := primsLawsUptoRow, standIns := [], harness := (true, "6bb8a84d892dac5463fcf4889d189ccc047ab28932e450c6e44b3171c7af1df8"), looks := true }, kinds := [], alts := [], laidByText := true, laidKinds := [.data, .data, .data, .data, .sentinel, .sentinel, .listed, .data, .pinned], laidTests := true, laidLooks := .later }
def PrimsLawsUptoCardSaid : Prop := Claim7.holds Tryz.pinned (.plain (OpenSpec.upto primsLawsSpec)) primsLawsUptoCard

/-- THE SECOND FORM's CARD OF 'framewiselaw23.PrimsAlgebra'. -/
def primsAlgebraUptoCard : Claim7 := { stood := { row := primsAlgebraUptoRow, standIns := [], harness := (true, "6bb8a84d892dac5463fcf4889d189ccc047ab28932e450c6e44b3171c7af1df8"), looks := true }, kinds := [], alts := [], laidByText := true, laidKinds := [.data, .data, .data, .data, .sentinel, .sentinel, .listed, .data, .pinned], laidTests := true, laidLooks := .later }
def PrimsAlgebraUptoCardSaid : Prop := Claim7.holds Tryz.pinned (.plain (OpenSpec.upto primsAlgebraSpec)) primsAlgebraUptoCard
end Rows
end Go.Proofs.YtlgnmcfckgokdaaGreatDoor
