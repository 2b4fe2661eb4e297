/-
  DERIVED. GIVEN WITH THE SEED: THE CARDS: each row of YtboepibmnfmgfaaDoorRows.lean that lists a variable, with what it lists TIED to the program's text (the seventh form; the later family's looks); each row that meets fmt, with fmt's text TOLD by the authors' own Lean function (tested against real Go, not proved from fmt's source: count such statements apart). THE CARD IS WHAT COUNTS. Prove the row's statement (the work); the ties are given (YtboepibmnfmgfaaDoorTie.lean); close each card by the builder's one call (the guide's Derived/Test/ToyasCard.lean, 'card_holds'). Laid BY PROGRAM, IN A SANDBOX (cutbox-door.mjs). By AI agents, Wed Nov 11 2026. No macro, syntax, notation, axiom, sorry.
-/
import Derived.Test.YtboepibmnfmgfaaDoorRows
import GoSem.ClaimSeven
namespace Go.Proofs.YtboepibmnfmgfaaDoor
namespace Rows

/-- THE TIED CARD OF 'glazierlaw18.RopThen'. -/
def ropThenCard : Claim7 := { stood := { row := ropThenRow, standIns := [], harness := (true, "e1de0e25f441857e2ade17e674b1e05f75f91772cc86f02ed581f4c182a9d991"), looks := false }, kinds := [], alts := [], laidByText := true, laidKinds := [.data], laidTests := true, laidLooks := .later }
def RopThenCardSaid : Prop := Claim7.holds Tryd.pinned (.plain (OpenSpec.ofChange ropThenSpec)) ropThenCard

/-- THE TIED CARD OF 'glazierlaw18.RopTwice'. -/
def ropTwiceCard : Claim7 := { stood := { row := ropTwiceRow, standIns := [], harness := (true, "e1de0e25f441857e2ade17e674b1e05f75f91772cc86f02ed581f4c182a9d991"), looks := false }, kinds := [], alts := [], laidByText := true, laidKinds := [.data], laidTests := true, laidLooks := .later }
def RopTwiceCardSaid : Prop := Claim7.holds Tryd.pinned (.plain (OpenSpec.ofChange ropTwiceSpec)) ropTwiceCard

/-- THE TIED CARD OF 'glazierlaw18.RopPlanes'. -/
def ropPlanesCard : Claim7 := { stood := { row := ropPlanesRow, standIns := [], harness := (true, "e1de0e25f441857e2ade17e674b1e05f75f91772cc86f02ed581f4c182a9d991"), looks := false }, kinds := [], alts := [], laidByText := true, laidKinds := [.data], laidTests := true, laidLooks := .later }
def RopPlanesCardSaid : Prop := Claim7.holds Tryd.pinned (.plain (OpenSpec.ofChange ropPlanesSpec)) ropPlanesCard

/-- THE TIED CARD OF 'glazierlaw18.RopTurns'. -/
def ropTurnsCard : Claim7 := { stood := { row := ropTurnsRow, standIns := [], harness := (true, "e1de0e25f441857e2ade17e674b1e05f75f91772cc86f02ed581f4c182a9d991"), looks := false }, kinds := [], alts := [], laidByText := true, laidKinds := [.data], laidTests := true, laidLooks := .later }
def RopTurnsCardSaid : Prop := Claim7.holds Tryd.pinned (.plain (OpenSpec.ofChange ropTurnsSpec)) ropTurnsCard

/-- THE TIED CARD OF 'glazierlaw18.RopGroups'. -/
def ropGroupsCard : Claim7 := { stood := { row := ropGroupsRow, standIns := [], harness := (true, "e1de0e25f441857e2ade17e674b1e05f75f91772cc86f02ed581f4c182a9d991"), looks := false }, kinds := [], alts := [], laidByText := true, laidKinds := [.data], laidTests := true, laidLooks := .later }
def RopGroupsCardSaid : Prop := Claim7.holds Tryd.pinned (.plain (OpenSpec.ofChange ropGroupsSpec)) ropGroupsCard

/-- THE TIED CARD OF 'glazierlaw18.RopMixes'. -/
def ropMixesCard : Claim7 := { stood := { row := ropMixesRow, standIns := [], harness := (true, "e1de0e25f441857e2ade17e674b1e05f75f91772cc86f02ed581f4c182a9d991"), looks := false }, kinds := [], alts := [], laidByText := true, laidKinds := [.data], laidTests := true, laidLooks := .later }
def RopMixesCardSaid : Prop := Claim7.holds Tryd.pinned (.plain (OpenSpec.ofChange ropMixesSpec)) ropMixesCard

/-- THE TIED CARD OF 'glazierlaw18.RopNames'. -/
def ropNamesCard : Claim7 := { stood := { row := ropNamesRow, standIns := [], harness := (true, "e1de0e25f441857e2ade17e674b1e05f75f91772cc86f02ed581f4c182a9d991"), looks := false }, kinds := [], alts := [], laidByText := true, laidKinds := [.data], laidTests := true, laidLooks := .later }
def RopNamesCardSaid : Prop := Claim7.holds Tryd.pinned (.plain (OpenSpec.ofChange ropNamesSpec)) ropNamesCard

/-- THE SECOND FORM's CARD OF 'glazierlaw18.RopThen'. -/
def ropThenUptoCard : Claim7 := { stood := { row := ropThenUptoRow, standIns := [], harness := (true, "e1de0e25f441857e2ade17e674b1e05f75f91772cc86f02ed581f4c182a9d991"), looks := false }, kinds := [], alts := [], laidByText := true, laidKinds := [.data], laidTests := true, laidLooks := .later }
def RopThenUptoCardSaid : Prop := Claim7.holds Tryd.pinned (.plain (OpenSpec.upto ropThenSpec)) ropThenUptoCard

/-- THE SECOND FORM's CARD OF 'glazierlaw18.RopTwice'. -/
def ropTwiceUptoCard : Claim7 := { stood := { row := ropTwiceUptoRow, standIns := [], harness := (true, "e1de0e25f441857e2ade17e674b1e05f75f91772cc86f02ed581f4c182a9d991"), looks := false }, kinds := [], alts := [], laidByText := true, laidKinds := [.data], laidTests := true, laidLooks := .later }
def RopTwiceUptoCardSaid : Prop := Claim7.holds Tryd.pinned (.plain (OpenSpec.upto ropTwiceSpec)) ropTwiceUptoCard

/-- THE SECOND FORM's CARD OF 'glazierlaw18.RopPlanes'. -/
def ropPlanesUptoCard : Claim7 := { stood := { row := ropPlanesUptoRow, standIns := [], harness := (true, "e1de0e25f441857e2ade17e674b1e05f75f91772cc86f02ed581f4c182a9d991"), looks := false }, kinds := [], alts := [], laidByText := true, laidKinds := [.data], laidTests := true, laidLooks := .later }
def RopPlanesUptoCardSaid : Prop := Claim7.holds Tryd.pinned (.plain (OpenSpec.upto ropPlanesSpec)) ropPlanesUptoCard

/-- THE SECOND FORM's CARD OF 'glazierlaw18.RopTurns'. -/
def ropTurnsUptoCard : Claim7 := { stood := { row := ropTurnsUptoRow, standIns := [], harness := (true, "e1de0e25f441857e2ade17e674b1e05f75f91772cc86f02ed581f4c182a9d991"), looks := false }, kinds := [], alts := [], laidByText := true, laidKinds := [.data], laidTests := true, laidLooks := .later }
def RopTurnsUptoCardSaid : Prop := Claim7.holds Tryd.pinned (.plain (OpenSpec.upto ropTurnsSpec)) ropTurnsUptoCard

/-- THE SECOND FORM's CARD OF 'glazierlaw18.RopGroups'. -/
def ropGroupsUptoCard : Claim7 := { stood := { row := ropGroupsUptoRow, standIns := [], harness := (true, "e1de0e25f441857e2ade17e674b1e05f75f91772cc86f02ed581f4c182a9d991"), looks := false }, kinds := [], alts := [], laidByText := true, laidKinds := [.data], laidTests := true, laidLooks := .later }
def RopGroupsUptoCardSaid : Prop := Claim7.holds Tryd.pinned (.plain (OpenSpec.upto ropGroupsSpec)) ropGroupsUptoCard

/-- THE SECOND FORM's CARD OF 'glazierlaw18.RopMixes'. -/
def ropMixesUptoCard : Claim7 := { stood := { row := ropMixesUptoRow, standIns := [], harness := (true, "e1de0e25f441857e2ade17e674b1e05f75f91772cc86f02ed581f4c182a9d991"), looks := false }, kinds := [], alts := [], laidByText := true, laidKinds := [.data], laidTests := true, laidLooks := .later }
def RopMixesUptoCardSaid : Prop := Claim7.holds Tryd.pinned (.plain (OpenSpec.upto ropMixesSpec)) ropMixesUptoCard

/-- THE SECOND FORM's CARD OF 'glazierlaw18.RopNames'. -/
def ropNamesUptoCard : Claim7 := { stood := { row := ropNamesUptoRow, standIns := [], harness := (true, "e1de0e25f441857e2ade17e674b1e05f75f91772cc86f02ed581f4c182a9d991"), looks := false }, kinds := [], alts := [], laidByText := true, laidKinds := [.data], laidTests := true, laidLooks := .later }
def RopNamesUptoCardSaid : Prop := Claim7.holds Tryd.pinned (.plain (OpenSpec.upto ropNamesSpec)) ropNamesUptoCard
end Rows
end Go.Proofs.YtboepibmnfmgfaaDoor
