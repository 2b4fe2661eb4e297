/-
  DERIVED. GIVEN WITH THE SEED: THE CARDS: each row of YtiefpodmdpnppaaDoorRows.lean that lists a variable, with what it lists TIED to the program's text (the seventh form; the later family's looks); each row that meets fmt, with fmt's text TOLD by the authors' own Lean function (tested against real Go, not proved from fmt's source: count such statements apart). THE CARD IS WHAT COUNTS. Prove the row's statement (the work); the ties are given (YtiefpodmdpnppaaDoorTie.lean); close each card by the builder's one call (the guide's Derived/Test/ToyasCard.lean, 'card_holds'). Laid BY PROGRAM, IN A SANDBOX (cutbox-door.mjs). By AI agents, Wed Nov 11 2026. No macro, syntax, notation, axiom, sorry.
-/
import Derived.Test.YtiefpodmdpnppaaDoorRows
import GoSem.ClaimSeven
namespace Go.Proofs.YtiefpodmdpnppaaDoor
namespace Rows

/-- THE TIED CARD OF 'glazierlaw56.CellsParts'. -/
def cellsPartsCard : Claim7 := { stood := { row := cellsPartsRow, standIns := [], harness := (true, "cc63fef4a882d36c117dde1f75035927acdc47478383906e5c1dc8f33c1cefb3"), looks := false }, kinds := [], alts := [], laidByText := true, laidKinds := [.data, .pinned], laidTests := true, laidLooks := .later }
def CellsPartsCardSaid : Prop := Claim7.holds Tryd.pinned (.plain (OpenSpec.ofChange cellsPartsSpec)) cellsPartsCard

/-- THE TIED CARD OF 'glazierlaw56.CellsWrites'. -/
def cellsWritesCard : Claim7 := { stood := { row := cellsWritesRow, standIns := [], harness := (true, "cc63fef4a882d36c117dde1f75035927acdc47478383906e5c1dc8f33c1cefb3"), looks := false }, kinds := [], alts := [], laidByText := true, laidKinds := [.data, .pinned], laidTests := true, laidLooks := .later }
def CellsWritesCardSaid : Prop := Claim7.holds Tryd.pinned (.plain (OpenSpec.ofChange cellsWritesSpec)) cellsWritesCard

/-- THE TIED CARD OF 'glazierlaw56.CellsLines'. -/
def cellsLinesCard : Claim7 := { stood := { row := cellsLinesRow, standIns := [], harness := (true, "cc63fef4a882d36c117dde1f75035927acdc47478383906e5c1dc8f33c1cefb3"), looks := false }, kinds := [], alts := [], laidByText := true, laidKinds := [.data, .pinned], laidTests := true, laidLooks := .later }
def CellsLinesCardSaid : Prop := Claim7.holds Tryd.pinned (.plain (OpenSpec.ofChange cellsLinesSpec)) cellsLinesCard

/-- THE TIED CARD OF 'glazierlaw56.CellsSizes'. -/
def cellsSizesCard : Claim7 := { stood := { row := cellsSizesRow, standIns := [], harness := (true, "cc63fef4a882d36c117dde1f75035927acdc47478383906e5c1dc8f33c1cefb3"), looks := false }, kinds := [], alts := [], laidByText := true, laidKinds := [.data, .pinned], laidTests := true, laidLooks := .later }
def CellsSizesCardSaid : Prop := Claim7.holds Tryd.pinned (.plain (OpenSpec.ofChange cellsSizesSpec)) cellsSizesCard

/-- THE TIED CARD OF 'glazierlaw56.CellsNew'. -/
def cellsNewCard : Claim7 := { stood := { row := cellsNewRow, standIns := [], harness := (true, "cc63fef4a882d36c117dde1f75035927acdc47478383906e5c1dc8f33c1cefb3"), looks := false }, kinds := [], alts := [], laidByText := true, laidKinds := [.data, .pinned], laidTests := true, laidLooks := .later }
def CellsNewCardSaid : Prop := Claim7.holds Tryd.pinned (.plain (OpenSpec.ofChange cellsNewSpec)) cellsNewCard

/-- THE TIED CARD OF 'glazierlaw56.CellsHolds'. -/
def cellsHoldsCard : Claim7 := { stood := { row := cellsHoldsRow, standIns := [], harness := (true, "cc63fef4a882d36c117dde1f75035927acdc47478383906e5c1dc8f33c1cefb3"), looks := false }, kinds := [], alts := [], laidByText := true, laidKinds := [.data, .pinned], laidTests := true, laidLooks := .later }
def CellsHoldsCardSaid : Prop := Claim7.holds Tryd.pinned (.plain (OpenSpec.ofChange cellsHoldsSpec)) cellsHoldsCard

/-- THE TIED CARD OF 'glazierlaw56.CellsBack'. -/
def cellsBackCard : Claim7 := { stood := { row := cellsBackRow, standIns := [], harness := (true, "cc63fef4a882d36c117dde1f75035927acdc47478383906e5c1dc8f33c1cefb3"), looks := false }, kinds := [], alts := [], laidByText := true, laidKinds := [.data, .pinned], laidTests := true, laidLooks := .later }
def CellsBackCardSaid : Prop := Claim7.holds Tryd.pinned (.plain (OpenSpec.ofChange cellsBackSpec)) cellsBackCard

/-- THE SECOND FORM's CARD OF 'glazierlaw56.CellsParts'. -/
def cellsPartsUptoCard : Claim7 := { stood := { row := cellsPartsUptoRow, standIns := [], harness := (true, "cc63fef4a882d36c117dde1f75035927acdc47478383906e5c1dc8f33c1cefb3"), looks := false }, kinds := [], alts := [], laidByText := true, laidKinds := [.data, .pinned], laidTests := true, laidLooks := .later }
def CellsPartsUptoCardSaid : Prop := Claim7.holds Tryd.pinned (.plain (OpenSpec.upto cellsPartsSpec)) cellsPartsUptoCard

/-- THE SECOND FORM's CARD OF 'glazierlaw56.CellsWrites'. -/
def cellsWritesUptoCard : Claim7 := { stood := { row := cellsWritesUptoRow, standIns := [], harness := (true, "cc63fef4a882d36c117dde1f75035927acdc47478383906e5c1dc8f33c1cefb3"), looks := false }, kinds := [], alts := [], laidByText := true, laidKinds := [.data, .pinned], laidTests := true, laidLooks := .later }
def CellsWritesUptoCardSaid : Prop := Claim7.holds Tryd.pinned (.plain (OpenSpec.upto cellsWritesSpec)) cellsWritesUptoCard

/-- THE SECOND FORM's CARD OF 'glazierlaw56.CellsLines'. -/
def cellsLinesUptoCard : Claim7 := { stood := { row := cellsLinesUptoRow, standIns := [], harness := (true, "cc63fef4a882d36c117dde1f75035927acdc47478383906e5c1dc8f33c1cefb3"), looks := false }, kinds := [], alts := [], laidByText := true, laidKinds := [.data, .pinned], laidTests := true, laidLooks := .later }
def CellsLinesUptoCardSaid : Prop := Claim7.holds Tryd.pinned (.plain (OpenSpec.upto cellsLinesSpec)) cellsLinesUptoCard

/-- THE SECOND FORM's CARD OF 'glazierlaw56.CellsSizes'. -/
def cellsSizesUptoCard : Claim7 := { stood := { row := cellsSizesUptoRow, standIns := [], harness := (true, "cc63fef4a882d36c117dde1f75035927acdc47478383906e5c1dc8f33c1cefb3"), looks := false }, kinds := [], alts := [], laidByText := true, laidKinds := [.data, .pinned], laidTests := true, laidLooks := .later }
def CellsSizesUptoCardSaid : Prop := Claim7.holds Tryd.pinned (.plain (OpenSpec.upto cellsSizesSpec)) cellsSizesUptoCard

/-- THE SECOND FORM's CARD OF 'glazierlaw56.CellsNew'. -/
def cellsNewUptoCard : Claim7 := { stood := { row := cellsNewUptoRow, standIns := [], harness := (true, "cc63fef4a882d36c117dde1f75035927acdc47478383906e5c1dc8f33c1cefb3"), looks := false }, kinds := [], alts := [], laidByText := true, laidKinds := [.data, .pinned], laidTests := true, laidLooks := .later }
def CellsNewUptoCardSaid : Prop := Claim7.holds Tryd.pinned (.plain (OpenSpec.upto cellsNewSpec)) cellsNewUptoCard

/-- THE SECOND FORM's CARD OF 'glazierlaw56.CellsHolds'. -/
def cellsHoldsUptoCard : Claim7 := { stood := { row := cellsHoldsUptoRow, standIns := [], harness := (true, "cc63fef4a882d36c117dde1f75035927acdc47478383906e5c1dc8f33c1cefb3"), looks := false }, kinds := [], alts := [], laidByText := true, laidKinds := [.data, .pinned], laidTests := true, laidLooks := .later }
def CellsHoldsUptoCardSaid : Prop := Claim7.holds Tryd.pinned (.plain (OpenSpec.upto cellsHoldsSpec)) cellsHoldsUptoCard

/-- THE SECOND FORM's CARD OF 'glazierlaw56.CellsBack'. -/
def cellsBackUptoCard : Claim7 := { stood := { row := cellsBackUptoRow, standIns := [], harness := (true, "cc63fef4a882d36c117dde1f75035927acdc47478383906e5c1dc8f33c1cefb3"), looks := false }, kinds := [], alts := [], laidByText := true, laidKinds := [.data, .pinned], laidTests := true, laidLooks := .later }
def CellsBackUptoCardSaid : Prop := Claim7.holds Tryd.pinned (.plain (OpenSpec.upto cellsBackSpec)) cellsBackUptoCard
end Rows
end Go.Proofs.YtiefpodmdpnppaaDoor
