/-
  DERIVED. GIVEN WITH THE SEED: THE CARDS: each row of YtjnomaiejmgedaaDoorRows.lean that lists a variable, with what it lists TIED to the program's text (the seventh form; the later family's looks); each row that meets fmt, with fmt's text TOLD by the authors' own Lean function (tested against real Go, not proved from fmt's source: count such statements apart). THE CARD IS WHAT COUNTS. Prove the row's statement (the work); the ties are given (YtjnomaiejmgedaaDoorTie.lean); close each card by the builder's one call (the guide's Derived/Test/ToyasCard.lean, 'card_holds'). Laid BY PROGRAM, IN A SANDBOX (cutbox-door.mjs). By AI agents, Wed Nov 11 2026. No macro, syntax, notation, axiom, sorry.
-/
import Derived.Test.YtjnomaiejmgedaaDoorRows
import GoSem.ClaimSeven
namespace Go.Proofs.YtjnomaiejmgedaaDoor
namespace Rows

/-- THE TIED CARD OF 'glazierlaw57.TermSteps'. -/
def termStepsCard : Claim7 := { stood := { row := termStepsRow, standIns := [], harness := (true, "eca67b9b4fbb34afe6f5523c5606e4d412855460230cc3e9ac5ce506f20ebfb2"), looks := false }, kinds := [], alts := [], laidByText := true, laidKinds := [.data, .pinned], laidTests := true, laidLooks := .later }
def TermStepsCardSaid : Prop := Claim7.holds Tryd.pinned (.plain (OpenSpec.ofChange termStepsSpec)) termStepsCard

/-- THE TIED CARD OF 'glazierlaw58.ManagerSpots'. -/
def managerSpotsCard : Claim7 := { stood := { row := managerSpotsRow, standIns := [], harness := (true, "eca67b9b4fbb34afe6f5523c5606e4d412855460230cc3e9ac5ce506f20ebfb2"), looks := false }, kinds := [], alts := [], laidByText := true, laidKinds := [.listed, .data], laidTests := true, laidLooks := .later }
def ManagerSpotsCardSaid : Prop := Claim7.holds Tryd.pinned (.plain (OpenSpec.ofChange managerSpotsSpec)) managerSpotsCard

/-- THE TIED CARD OF 'glazierlaw58.ManagerFrames'. -/
def managerFramesCard : Claim7 := { stood := { row := managerFramesRow, standIns := [], harness := (true, "eca67b9b4fbb34afe6f5523c5606e4d412855460230cc3e9ac5ce506f20ebfb2"), looks := false }, kinds := [], alts := [], laidByText := true, laidKinds := [.listed, .data], laidTests := true, laidLooks := .later }
def ManagerFramesCardSaid : Prop := Claim7.holds Tryd.pinned (.plain (OpenSpec.ofChange managerFramesSpec)) managerFramesCard

/-- THE TIED CARD OF 'glazierlaw58.ManagerAgain'. -/
def managerAgainCard : Claim7 := { stood := { row := managerAgainRow, standIns := [], harness := (true, "eca67b9b4fbb34afe6f5523c5606e4d412855460230cc3e9ac5ce506f20ebfb2"), looks := false }, kinds := [], alts := [], laidByText := true, laidKinds := [.listed, .data], laidTests := true, laidLooks := .later }
def ManagerAgainCardSaid : Prop := Claim7.holds Tryd.pinned (.plain (OpenSpec.ofChange managerAgainSpec)) managerAgainCard

/-- THE TIED CARD OF 'glazierlaw58.ManagerAsks'. -/
def managerAsksCard : Claim7 := { stood := { row := managerAsksRow, standIns := [], harness := (true, "eca67b9b4fbb34afe6f5523c5606e4d412855460230cc3e9ac5ce506f20ebfb2"), looks := false }, kinds := [], alts := [], laidByText := true, laidKinds := [.listed, .data], laidTests := true, laidLooks := .later }
def ManagerAsksCardSaid : Prop := Claim7.holds Tryd.pinned (.plain (OpenSpec.ofChange managerAsksSpec)) managerAsksCard

/-- THE SECOND FORM's CARD OF 'glazierlaw57.TermSteps'. -/
def termStepsUptoCard : Claim7 := { stood := { row := termStepsUptoRow, standIns := [], harness := (true, "eca67b9b4fbb34afe6f5523c5606e4d412855460230cc3e9ac5ce506f20ebfb2"), looks := false }, kinds := [], alts := [], laidByText := true, laidKinds := [.data, .pinned], laidTests := true, laidLooks := .later }
def TermStepsUptoCardSaid : Prop := Claim7.holds Tryd.pinned (.plain (OpenSpec.upto termStepsSpec)) termStepsUptoCard

/-- THE SECOND FORM's CARD OF 'glazierlaw58.ManagerSpots'. -/
def managerSpotsUptoCard : Claim7 := { stood := { row := managerSpotsUptoRow, standIns := [], harness := (true, "eca67b9b4fbb34afe6f5523c5606e4d412855460230cc3e9ac5ce506f20ebfb2"), looks := false }, kinds := [], alts := [], laidByText := true, laidKinds := [.listed, .data], laidTests := true, laidLooks := .later }
def ManagerSpotsUptoCardSaid : Prop := Claim7.holds Tryd.pinned (.plain (OpenSpec.upto managerSpotsSpec)) managerSpotsUptoCard

/-- THE SECOND FORM's CARD OF 'glazierlaw58.ManagerFrames'. -/
def managerFramesUptoCard : Claim7 := { stood := { row := managerFramesUptoRow, standIns := [], harness := (true, "eca67b9b4fbb34afe6f5523c5606e4d412855460230cc3e9ac5ce506f20ebfb2"), looks := false }, kinds := [], alts := [], laidByText := true, laidKinds := [.listed, .data], laidTests := true, laidLooks := .later }
def ManagerFramesUptoCardSaid : Prop := Claim7.holds Tryd.pinned (.plain (OpenSpec.upto managerFramesSpec)) managerFramesUptoCard

/-- THE SECOND FORM's CARD OF 'glazierlaw58.ManagerAgain'. -/
def managerAgainUptoCard : Claim7 := { stood := { row := managerAgainUptoRow, standIns := [], harness := (true, "eca67b9b4fbb34afe6f5523c5606e4d412855460230cc3e9ac5ce506f20ebfb2"), looks := false }, kinds := [], alts := [], laidByText := true, laidKinds := [.listed, .data], laidTests := true, laidLooks := .later }
def ManagerAgainUptoCardSaid : Prop := Claim7.holds Tryd.pinned (.plain (OpenSpec.upto managerAgainSpec)) managerAgainUptoCard

/-- THE SECOND FORM's CARD OF 'glazierlaw58.ManagerAsks'. -/
def managerAsksUptoCard : Claim7 := { stood := { row := managerAsksUptoRow, standIns := [], harness := (true, "eca67b9b4fbb34afe6f5523c5606e4d412855460230cc3e9ac5ce506f20ebfb2"), looks := false }, kinds := [], alts := [], laidByText := true, laidKinds := [.listed, .data], laidTests := true, laidLooks := .later }
def ManagerAsksUptoCardSaid : Prop := Claim7.holds Tryd.pinned (.plain (OpenSpec.upto managerAsksSpec)) managerAsksUptoCard
end Rows
end Go.Proofs.YtjnomaiejmgedaaDoor
