/-
  DERIVED. GIVEN WITH THE SEED: THE CARDS: each row of YtgfgckimecpmlaaGreatDoorRows.lean that lists a variable, with what it lists TIED to the program's text (the seventh form; the later family's looks); each row that meets fmt, with fmt's text TOLD by the authors' own Lean function (tested against real Go, not proved from fmt's source: count such statements apart). THE CARD IS WHAT COUNTS. Prove the row's statement (the work); the ties are given (YtgfgckimecpmlaaGreatDoorTie.lean); close each card by the builder's one call (the guide's Derived/Test/ToyasCard.lean, 'card_holds'). Laid BY PROGRAM, IN A SANDBOX (cutbox-door.mjs). By AI agents, Wed Nov 11 2026. No macro, syntax, notation, axiom, sorry.
-/
import Derived.Test.YtgfgckimecpmlaaGreatDoorRows
import GoSem.ClaimSeven
namespace Go.Proofs.YtgfgckimecpmlaaGreatDoor
namespace Rows

/-- THE TIED CARD OF 'framewiselaw14.AgreeFrame'. -/
def agreeFrameCard : Claim7 := { stood := { row := agreeFrameRow, standIns := [], harness := (true, "3ded135804764bd1d150cbd05cfce7aa3973edc858dd4c56c096dfa8fb0e30c4"), looks := true }, kinds := [], alts := [], laidByText := true, laidKinds := [.data, .data, .data, .data, .sentinel, .sentinel, .pinned], laidTests := true, laidLooks := .later }
def AgreeFrameCardSaid : Prop := Claim7.holds Tryz.pinned (.plain (OpenSpec.ofChange agreeFrameSpec)) agreeFrameCard

/-- THE TIED CARD OF 'framewiselaw14.AgreePairs'. -/
def agreePairsCard : Claim7 := { stood := { row := agreePairsRow, standIns := [], harness := (true, "3ded135804764bd1d150cbd05cfce7aa3973edc858dd4c56c096dfa8fb0e30c4"), looks := true }, kinds := [], alts := [], laidByText := true, laidKinds := [.data, .data, .data, .data, .sentinel, .sentinel, .pinned], laidTests := true, laidLooks := .later }
def AgreePairsCardSaid : Prop := Claim7.holds Tryz.pinned (.plain (OpenSpec.ofChange agreePairsSpec)) agreePairsCard

/-- THE TIED CARD OF 'framewiselaw14.AgreeUnique'. -/
def agreeUniqueCard : Claim7 := { stood := { row := agreeUniqueRow, standIns := [], harness := (true, "3ded135804764bd1d150cbd05cfce7aa3973edc858dd4c56c096dfa8fb0e30c4"), looks := true }, kinds := [], alts := [], laidByText := true, laidKinds := [.data, .data, .data, .data, .sentinel, .sentinel, .pinned], laidTests := true, laidLooks := .later }
def AgreeUniqueCardSaid : Prop := Claim7.holds Tryz.pinned (.plain (OpenSpec.ofChange agreeUniqueSpec)) agreeUniqueCard

/-- THE TIED CARD OF 'framewiselaw14.AgreeSolve'. -/
def agreeSolveCard : Claim7 := { stood := { row := agreeSolveRow, standIns := [], harness := (true, "3ded135804764bd1d150cbd05cfce7aa3973edc858dd4c56c096dfa8fb0e30c4"), looks := true }, kinds := [], alts := [], laidByText := true, laidKinds := [.data, .data, .data, .data, .sentinel, .sentinel, .pinned], laidTests := true, laidLooks := .later }
def AgreeSolveCardSaid : Prop := Claim7.holds Tryz.pinned (.plain (OpenSpec.ofChange agreeSolveSpec)) agreeSolveCard

/-- THE TIED CARD OF 'framewiselaw14.AgreeScalars'. -/
def agreeScalarsCard : Claim7 := { stood := { row := agreeScalarsRow, standIns := [], harness := (true, "3ded135804764bd1d150cbd05cfce7aa3973edc858dd4c56c096dfa8fb0e30c4"), looks := true }, kinds := [], alts := [], laidByText := true, laidKinds := [.data, .data, .data, .data, .sentinel, .sentinel, .pinned], laidTests := true, laidLooks := .later }
def AgreeScalarsCardSaid : Prop := Claim7.holds Tryz.pinned (.plain (OpenSpec.ofChange agreeScalarsSpec)) agreeScalarsCard

/-- THE TIED CARD OF 'framewiselaw14.AgreeDims'. -/
def agreeDimsCard : Claim7 := { stood := { row := agreeDimsRow, standIns := [], harness := (true, "3ded135804764bd1d150cbd05cfce7aa3973edc858dd4c56c096dfa8fb0e30c4"), looks := true }, kinds := [], alts := [], laidByText := true, laidKinds := [.data, .data, .data, .data, .sentinel, .sentinel, .pinned], laidTests := true, laidLooks := .later }
def AgreeDimsCardSaid : Prop := Claim7.holds Tryz.pinned (.plain (OpenSpec.ofChange agreeDimsSpec)) agreeDimsCard

/-- THE TIED CARD OF 'framewiselaw14.AgreeValues'. -/
def agreeValuesCard : Claim7 := { stood := { row := agreeValuesRow, standIns := [], harness := (true, "3ded135804764bd1d150cbd05cfce7aa3973edc858dd4c56c096dfa8fb0e30c4"), looks := true }, kinds := [], alts := [], laidByText := true, laidKinds := [.data, .data, .data, .data, .sentinel, .sentinel, .pinned], laidTests := true, laidLooks := .later }
def AgreeValuesCardSaid : Prop := Claim7.holds Tryz.pinned (.plain (OpenSpec.ofChange agreeValuesSpec)) agreeValuesCard

/-- THE TIED CARD OF 'framewiselaw23.PrimsUnder'. -/
def primsUnderCard : Claim7 := { stood := { row := primsUnderRow, standIns := [], harness := (true, "3ded135804764bd1d150cbd05cfce7aa3973edc858dd4c56c096dfa8fb0e30c4"), looks := true }, kinds := [], alts := [], laidByText := true, laidKinds := [.data, .data, .data, .data, .sentinel, .sentinel, .listed, .data, .pinned], laidTests := true, laidLooks := .later }
def PrimsUnderCardSaid : Prop := Claim7.holds Tryz.pinned (.plain (OpenSpec.ofChange primsUnderSpec)) primsUnderCard

/-- THE TIED CARD OF 'framewiselaw23.PrimsSubstitution'. -/
def primsSubstitutionCard : Claim7 := { stood := { row := primsSubstitutionRow, standIns := [], harness := (true, "3ded135804764bd1d150cbd05cfce7aa3973edc858dd4c56c096dfa8fb0e30c4"), looks := true }, kinds := [], alts := [], laidByText := true, laidKinds := [.data, .data, .data, .data, .sentinel, .sentinel, .listed, .data, .pinned], laidTests := true, laidLooks := .later }
def PrimsSubstitutionCardSaid : Prop := Claim7.holds Tryz.pinned (.plain (OpenSpec.ofChange primsSubstitutionSpec)) primsSubstitutionCard

/-- THE SECOND FORM's CARD OF 'framewiselaw14.AgreeFrame'. -/
def agreeFrameUptoCard : Claim7 := { stood := { row := agreeFrameUptoRow, standIns := [], harness := (true, "3ded135804764bd1d150cbd05cfce7aa3973edc858dd4c56c096dfa8fb0e30c4"), looks := true }, kinds := [], alts := [], laidByText := true, laidKinds := [.data, .data, .data, .data, .sentinel, .sentinel, .pinned], laidTests := true, laidLooks := .later }
def AgreeFrameUptoCardSaid : Prop := Claim7.holds Tryz.pinned (.plain (OpenSpec.upto agreeFrameSpec)) agreeFrameUptoCard

/-- THE SECOND FORM's CARD OF 'framewiselaw14.AgreePairs'. -/
def agreePairsUptoCard : Claim7 := { stood := { row := agreePairsUptoRow, standIns := [], harness := (true, "3ded135804764bd1d150cbd05cfce7aa3973edc858dd4c56c096dfa8fb0e30c4"), looks := true }, kinds := [], alts := [], laidByText := true, laidKinds := [.data, .data, .data, .data, .sentinel, .sentinel, .pinned], laidTests := true, laidLooks := .later }
def AgreePairsUptoCardSaid : Prop := Claim7.holds Tryz.pinned (.plain (OpenSpec.upto agreePairsSpec)) agreePairsUptoCard

/-- THE SECOND FORM's CARD OF 'framewiselaw14.AgreeUnique'. -/
def agreeUniqueUptoCard : Claim7 := { stood := { row := agreeUniqueUptoRow, standIns := [], harness := (true, "3ded135804764bd1d150cbd05cfce7aa3973edc858dd4c56c096dfa8fb0e30c4"), looks := true }, kinds := [], alts := [], laidByText := true, laidKinds := [.data, .data, .data, .data, .sentinel, .sentinel, .pinned], laidTests := true, laidLooks := .later }
def AgreeUniqueUptoCardSaid : Prop := Claim7.holds Tryz.pinned (.plain (OpenSpec.upto agreeUniqueSpec)) agreeUniqueUptoCard

/-- THE SECOND FORM's CARD OF 'framewiselaw14.AgreeSolve'. -/
def agreeSolveUptoCard : Claim7 := { stood := { row := agreeSolveUptoRow, standIns := [], harness := (true, "3ded135804764bd1d150cbd05cfce7aa3973edc858dd4c56c096dfa8fb0e30c4"), looks := true }, kinds := [], alts := [], laidByText := true, laidKinds := [.data, .data, .data, .data, .sentinel, .sentinel, .pinned], laidTests := true, laidLooks := .later }
def AgreeSolveUptoCardSaid : Prop := Claim7.holds Tryz.pinned (.plain (OpenSpec.upto agreeSolveSpec)) agreeSolveUptoCard

/-- THE SECOND FORM's CARD OF 'framewiselaw14.AgreeScalars'. -/
def agreeScalarsUptoCard : Claim7 := { stood := { row := agreeScalarsUptoRow, standIns := [], harness := (true, "3ded135804764bd1d150cbd05cfce7aa3973edc858dd4c56c096dfa8fb0e30c4"), looks := true }, kinds := [], alts := [], laidByText := true, laidKinds := [.data, .data, .data, .data, .sentinel, .sentinel, .pinned], laidTests := true, laidLooks := .later }
def AgreeScalarsUptoCardSaid : Prop := Claim7.holds Tryz.pinned (.plain (OpenSpec.upto agreeScalarsSpec)) agreeScalarsUptoCard

/-- THE SECOND FORM's CARD OF 'framewiselaw14.AgreeDims'. -/
def agreeDimsUptoCard : Claim7 := { stood := { row := agreeDimsUptoRow, standIns := [], harness := (true, "3ded135804764bd1d150cbd05cfce7aa3973edc858dd4c56c096dfa8fb0e30c4"), looks := true }, kinds := [], alts := [], laidByText := true, laidKinds := [.data, .data, .data, .data, .sentinel, .sentinel, .pinned], laidTests := true, laidLooks := .later }
def AgreeDimsUptoCardSaid : Prop := Claim7.holds Tryz.pinned (.plain (OpenSpec.upto agreeDimsSpec)) agreeDimsUptoCard

/-- THE SECOND FORM's CARD OF 'framewiselaw14.AgreeValues'. -/
def agreeValuesUptoCard : Claim7 := { stood := { row := agreeValuesUptoRow, standIns := [], harness := (true, "3ded135804764bd1d150cbd05cfce7aa3973edc858dd4c56c096dfa8fb0e30c4"), looks := true }, kinds := [], alts := [], laidByText := true, laidKinds := [.data, .data, .data, .data, .sentinel, .sentinel, .pinned], laidTests := true, laidLooks := .later }
def AgreeValuesUptoCardSaid : Prop := Claim7.holds Tryz.pinned (.plain (OpenSpec.upto agreeValuesSpec)) agreeValuesUptoCard

/-- THE SECOND FORM's CARD OF 'framewiselaw23.PrimsUnder'. -/
def primsUnderUptoCard : Claim7 := { stood := { row := primsUnderUptoRow, standIns := [], harness := (true, "3ded135804764bd1d150cbd05cfce7aa3973edc858dd4c56c096dfa8fb0e30c4"), looks := true }, kinds := [], alts := [], laidByText := true, laidKinds := [.data, .data, .data, .data, .sentinel, .sentinel, .listed, .data, .pinned], laidTests := true, laidLooks := .later }
def PrimsUnderUptoCardSaid : Prop := Claim7.holds Tryz.pinned (.plain (OpenSpec.upto primsUnderSpec)) primsUnderUptoCard

/-- THE SECOND FORM's CARD OF 'framewiselaw23.PrimsSubstitution'. -/
def primsSubstitutionUptoCard : Claim7 := { stood := { row := primsSubstitutionUptoRow, standIns := [], harness := (true, "3ded135804764bd1d150cbd05cfce7aa3973edc858dd4c56c096dfa8fb0e30c4"), looks := true }, kinds := [], alts := [], laidByText := true, laidKinds := [.data, .data, .data, .data, .sentinel, .sentinel, .listed, .data, .pinned], laidTests := true, laidLooks := .later }
def PrimsSubstitutionUptoCardSaid : Prop := Claim7.holds Tryz.pinned (.plain (OpenSpec.upto primsSubstitutionSpec)) primsSubstitutionUptoCard
end Rows
end Go.Proofs.YtgfgckimecpmlaaGreatDoor
