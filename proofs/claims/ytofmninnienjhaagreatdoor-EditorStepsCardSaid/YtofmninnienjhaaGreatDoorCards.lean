/-
  DERIVED. GIVEN WITH THE SEED: THE CARDS: each row of YtofmninnienjhaaGreatDoorRows.lean that lists a variable, with what it lists TIED to the program's text (the seventh form; the later family's looks); each row that meets fmt, with fmt's text TOLD by the authors' own Lean function (tested against real Go, not proved from fmt's source: count such statements apart). THE CARD IS WHAT COUNTS. Prove the row's statement (the work); the ties are given (YtofmninnienjhaaGreatDoorTie.lean); close each card by the builder's one call (the guide's Derived/Test/ToyasCard.lean, 'card_holds'). Laid BY PROGRAM, IN A SANDBOX (cutbox-door.mjs). By AI agents, Wed Nov 11 2026. No macro, syntax, notation, axiom, sorry.
-/
import Derived.Test.YtofmninnienjhaaGreatDoorRows
import GoSem.ClaimSeven
namespace Go.Proofs.YtofmninnienjhaaGreatDoor
namespace Rows

/-- THE TIED CARD OF 'glazierlaw55.EditorTypes'. -/
def editorTypesCard : Claim7 := { stood := { row := editorTypesRow, standIns := [], harness := (true, "031ab1b6af5d40c354448811d3630ebdc88e0c0bd5deece9e87b604efd9864ca"), looks := false }, kinds := [], alts := [], laidByText := true, laidKinds := [.listed, .data], laidTests := true, laidLooks := .later }
def EditorTypesCardSaid : Prop := Claim7.holds Tryz.pinned (.plain (OpenSpec.ofChange editorTypesSpec)) editorTypesCard

/-- THE TIED CARD OF 'glazierlaw55.EditorCopies'. -/
def editorCopiesCard : Claim7 := { stood := { row := editorCopiesRow, standIns := [], harness := (true, "031ab1b6af5d40c354448811d3630ebdc88e0c0bd5deece9e87b604efd9864ca"), looks := false }, kinds := [], alts := [], laidByText := true, laidKinds := [.listed, .data], laidTests := true, laidLooks := .later }
def EditorCopiesCardSaid : Prop := Claim7.holds Tryz.pinned (.plain (OpenSpec.ofChange editorCopiesSpec)) editorCopiesCard

/-- THE TIED CARD OF 'glazierlaw55.EditorSteps'. -/
def editorStepsCard : Claim7 := { stood := { row := editorStepsRow, standIns := [], harness := (true, "031ab1b6af5d40c354448811d3630ebdc88e0c0bd5deece9e87b604efd9864ca"), looks := false }, kinds := [], alts := [], laidByText := true, laidKinds := [.listed, .data], laidTests := true, laidLooks := .later }
def EditorStepsCardSaid : Prop := Claim7.holds Tryz.pinned (.plain (OpenSpec.ofChange editorStepsSpec)) editorStepsCard

/-- THE TIED CARD OF 'glazierlaw55.EditorMarks'. -/
def editorMarksCard : Claim7 := { stood := { row := editorMarksRow, standIns := [], harness := (true, "031ab1b6af5d40c354448811d3630ebdc88e0c0bd5deece9e87b604efd9864ca"), looks := false }, kinds := [], alts := [], laidByText := true, laidKinds := [.listed, .data], laidTests := true, laidLooks := .later }
def EditorMarksCardSaid : Prop := Claim7.holds Tryz.pinned (.plain (OpenSpec.ofChange editorMarksSpec)) editorMarksCard

/-- THE SECOND FORM's CARD OF 'glazierlaw55.EditorTypes'. -/
def editorTypesUptoCard : Claim7 := { stood := { row := editorTypesUptoRow, standIns := [], harness := (true, "031ab1b6af5d40c354448811d3630ebdc88e0c0bd5deece9e87b604efd9864ca"), looks := false }, kinds := [], alts := [], laidByText := true, laidKinds := [.listed, .data], laidTests := true, laidLooks := .later }
def EditorTypesUptoCardSaid : Prop := Claim7.holds Tryz.pinned (.plain (OpenSpec.upto editorTypesSpec)) editorTypesUptoCard

/-- THE SECOND FORM's CARD OF 'glazierlaw55.EditorCopies'. -/
def editorCopiesUptoCard : Claim7 := { stood := { row := editorCopiesUptoRow, standIns := [], harness := (true, "031ab1b6af5d40c354448811d3630ebdc88e0c0bd5deece9e87b604efd9864ca"), looks := false }, kinds := [], alts := [], laidByText := true, laidKinds := [.listed, .data], laidTests := true, laidLooks := .later }
def EditorCopiesUptoCardSaid : Prop := Claim7.holds Tryz.pinned (.plain (OpenSpec.upto editorCopiesSpec)) editorCopiesUptoCard

/-- THE SECOND FORM's CARD OF 'glazierlaw55.EditorSteps'. -/
def editorStepsUptoCard : Claim7 := { stood := { row := editorStepsUptoRow, standIns := [], harness := (true, "031ab1b6af5d40c354448811d3630ebdc88e0c0bd5deece9e87b604efd9864ca"), looks := false }, kinds := [], alts := [], laidByText := true, laidKinds := [.listed, .data], laidTests := true, laidLooks := .later }
def EditorStepsUptoCardSaid : Prop := Claim7.holds Tryz.pinned (.plain (OpenSpec.upto editorStepsSpec)) editorStepsUptoCard

/-- THE SECOND FORM's CARD OF 'glazierlaw55.EditorMarks'. -/
def editorMarksUptoCard : Claim7 := { stood := { row := editorMarksUptoRow, standIns := [], harness := (true, "031ab1b6af5d40c354448811d3630ebdc88e0c0bd5deece9e87b604efd9864ca"), looks := false }, kinds := [], alts := [], laidByText := true, laidKinds := [.listed, .data], laidTests := true, laidLooks := .later }
def EditorMarksUptoCardSaid : Prop := Claim7.holds Tryz.pinned (.plain (OpenSpec.upto editorMarksSpec)) editorMarksUptoCard
end Rows
end Go.Proofs.YtofmninnienjhaaGreatDoor
