/-
  NARROWER THAN 'FOR EVERY INPUT', by the rows' own cells (each row's printed sentence says how): RopThen: laid · RopTwice: laid · RopPlanes: laid · RopTurns: laid · RopGroups: laid · RopMixes: laid · RopNames: laid.
  DERIVED. THE GIVEN ROWS OF THIS SEAT. 7 by the template 'for every input the law returns true; each argument reads behind the call as it read before'; 0 by the template 'total and deterministic' (their statements: YtboepibmnfmgfaaDoorTotals.lean).
  GIVEN WITH THE SEED: the statements are not yours to turn. If you find one false, say at which input.
  Laid BY PROGRAM, IN A SANDBOX (cutbox-rows.mjs): the forced cells as the released guide's own fill.sh prints them over the translation 33225e6252193523… (all of the seat's roots in one cut). By AI agents, Wed Nov 11 2026. No macro, syntax, notation, axiom, sorry.
-/
import Derived.Test.YtboepibmnfmgfaaDoorChecked
import GoSem.Claim
import GoSem.ClaimJoined
import GoSem.ClaimMapViews
import Derived.JoinedTies
import Derived.KernelRfl
namespace Go.Proofs.YtboepibmnfmgfaaDoor
/- THE CELL 'sum', in the pinned program and in every row, IS THE sha256 OF THE DUMP (.gsa) THAT YtboepibmnfmgfaaDoorProg.lean LOADS. Nothing in Lean hashes anything: it is a label: what it is worth is what the hold of that sum in a sandbox is worth. -/
noncomputable def Tryd.pinned : Pinned := { name := "ytboepibmnfmgfaadoor", sum := "33225e62521935234b9e25768906a099abd69c6256bb2ad8effb1b269fa2fc3d", checked := Tryd.checked }
namespace Rows
def none {H : Type} : Left H := { results := [], args := [] }

/- WHAT THE LISTED PACKAGE-LEVEL VARIABLES READ AS WHEN THE CALL BEGINS. Each datum BY PROGRAM (the guide's laid-datum.mjs) off the statement by which the dump's own 'gosem.cut.vars' lays the variable. In a bare row this is a premise. The card (YtboepibmnfmgfaaDoorCards.lean) ties it to the program's text. -/
def laid_glazier_rop_names {H : Type} : DataW H := .agg [.lit (.string [99, 108, 101, 97, 114]), .lit (.string [97, 110, 100]), .lit (.string [97, 110, 100, 45, 114, 101, 118, 101, 114, 115, 101]), .lit (.string [99, 111, 112, 121]), .lit (.string [97, 110, 100, 45, 105, 110, 118, 101, 114, 116, 101, 100]), .lit (.string [110, 111, 45, 111, 112]), .lit (.string [120, 111, 114]), .lit (.string [111, 114]), .lit (.string [110, 111, 114]), .lit (.string [101, 113, 117, 105, 118]), .lit (.string [105, 110, 118, 101, 114, 116]), .lit (.string [111, 114, 45, 114, 101, 118, 101, 114, 115, 101]), .lit (.string [99, 111, 112, 121, 45, 105, 110, 118, 101, 114, 116, 101, 100]), .lit (.string [111, 114, 45, 105, 110, 118, 101, 114, 116, 101, 100]), .lit (.string [110, 97, 110, 100]), .lit (.string [115, 101, 116])]

/-- 'glazierlaw18.RopThen': WHATEVER THE INPUT: true; the input reads as it did. -/
def ropThenSpec : ChangeSpec := { name := "ropThen", fn := fun _ => fun
  | [d1, d2, d3, d4, d5] => { results := [.lit (.bool true)], args := [d1, d2, d3, d4, d5] }
  | _ => none }
def ropThenRow : OpenClaim := { program := "ytboepibmnfmgfaadoor", sum := "33225e62521935234b9e25768906a099abd69c6256bb2ad8effb1b269fa2fc3d", func := "glazier/glazierlaw18.RopThen", spec := "ropThen", unfollowed := true, recurses := true, named := ["glazier/rop.names"], apart := false, laid := [("glazier/rop.names", laid_glazier_rop_names)] }
def RopThenSaid : Prop := ropThenRow.holds Tryd.pinned (OpenSpec.ofChange ropThenSpec)

/-- ITS FALSE NEIGHBOUR: 'it returns false'. Refute it at one input. -/
def ropThenWrong : ChangeSpec := { name := "ropThen", fn := fun _ => fun
  | [d1, d2, d3, d4, d5] => { results := [.lit (.bool false)], args := [d1, d2, d3, d4, d5] }
  | _ => none }
def RopThenWrongFalsely : Prop := ropThenRow.holds Tryd.pinned (OpenSpec.ofChange ropThenWrong)

/-- 'glazierlaw18.RopTwice': WHATEVER THE INPUT: true; the input reads as it did. -/
def ropTwiceSpec : ChangeSpec := { name := "ropTwice", fn := fun _ => fun
  | [d1, d2, d3] => { results := [.lit (.bool true)], args := [d1, d2, d3] }
  | _ => none }
def ropTwiceRow : OpenClaim := { program := "ytboepibmnfmgfaadoor", sum := "33225e62521935234b9e25768906a099abd69c6256bb2ad8effb1b269fa2fc3d", func := "glazier/glazierlaw18.RopTwice", spec := "ropTwice", unfollowed := true, recurses := true, named := ["glazier/rop.names"], apart := false, laid := [("glazier/rop.names", laid_glazier_rop_names)] }
def RopTwiceSaid : Prop := ropTwiceRow.holds Tryd.pinned (OpenSpec.ofChange ropTwiceSpec)

/-- ITS FALSE NEIGHBOUR: 'it returns false'. Refute it at one input. -/
def ropTwiceWrong : ChangeSpec := { name := "ropTwice", fn := fun _ => fun
  | [d1, d2, d3] => { results := [.lit (.bool false)], args := [d1, d2, d3] }
  | _ => none }
def RopTwiceWrongFalsely : Prop := ropTwiceRow.holds Tryd.pinned (OpenSpec.ofChange ropTwiceWrong)

/-- 'glazierlaw18.RopPlanes': WHATEVER THE INPUT: true; the input reads as it did. -/
def ropPlanesSpec : ChangeSpec := { name := "ropPlanes", fn := fun _ => fun
  | [d1, d2, d3, d4] => { results := [.lit (.bool true)], args := [d1, d2, d3, d4] }
  | _ => none }
def ropPlanesRow : OpenClaim := { program := "ytboepibmnfmgfaadoor", sum := "33225e62521935234b9e25768906a099abd69c6256bb2ad8effb1b269fa2fc3d", func := "glazier/glazierlaw18.RopPlanes", spec := "ropPlanes", unfollowed := true, recurses := true, named := ["glazier/rop.names"], apart := false, laid := [("glazier/rop.names", laid_glazier_rop_names)] }
def RopPlanesSaid : Prop := ropPlanesRow.holds Tryd.pinned (OpenSpec.ofChange ropPlanesSpec)

/-- ITS FALSE NEIGHBOUR: 'it returns false'. Refute it at one input. -/
def ropPlanesWrong : ChangeSpec := { name := "ropPlanes", fn := fun _ => fun
  | [d1, d2, d3, d4] => { results := [.lit (.bool false)], args := [d1, d2, d3, d4] }
  | _ => none }
def RopPlanesWrongFalsely : Prop := ropPlanesRow.holds Tryd.pinned (OpenSpec.ofChange ropPlanesWrong)

/-- 'glazierlaw18.RopTurns': WHATEVER THE INPUT: true; the input reads as it did. -/
def ropTurnsSpec : ChangeSpec := { name := "ropTurns", fn := fun _ => fun
  | [d1, d2, d3] => { results := [.lit (.bool true)], args := [d1, d2, d3] }
  | _ => none }
def ropTurnsRow : OpenClaim := { program := "ytboepibmnfmgfaadoor", sum := "33225e62521935234b9e25768906a099abd69c6256bb2ad8effb1b269fa2fc3d", func := "glazier/glazierlaw18.RopTurns", spec := "ropTurns", unfollowed := true, recurses := true, named := ["glazier/rop.names"], apart := false, laid := [("glazier/rop.names", laid_glazier_rop_names)] }
def RopTurnsSaid : Prop := ropTurnsRow.holds Tryd.pinned (OpenSpec.ofChange ropTurnsSpec)

/-- ITS FALSE NEIGHBOUR: 'it returns false'. Refute it at one input. -/
def ropTurnsWrong : ChangeSpec := { name := "ropTurns", fn := fun _ => fun
  | [d1, d2, d3] => { results := [.lit (.bool false)], args := [d1, d2, d3] }
  | _ => none }
def RopTurnsWrongFalsely : Prop := ropTurnsRow.holds Tryd.pinned (OpenSpec.ofChange ropTurnsWrong)

/-- 'glazierlaw18.RopGroups': WHATEVER THE INPUT: true; the input reads as it did. -/
def ropGroupsSpec : ChangeSpec := { name := "ropGroups", fn := fun _ => fun
  | [d1, d2, d3] => { results := [.lit (.bool true)], args := [d1, d2, d3] }
  | _ => none }
def ropGroupsRow : OpenClaim := { program := "ytboepibmnfmgfaadoor", sum := "33225e62521935234b9e25768906a099abd69c6256bb2ad8effb1b269fa2fc3d", func := "glazier/glazierlaw18.RopGroups", spec := "ropGroups", unfollowed := true, recurses := true, named := ["glazier/rop.names"], apart := false, laid := [("glazier/rop.names", laid_glazier_rop_names)] }
def RopGroupsSaid : Prop := ropGroupsRow.holds Tryd.pinned (OpenSpec.ofChange ropGroupsSpec)

/-- ITS FALSE NEIGHBOUR: 'it returns false'. Refute it at one input. -/
def ropGroupsWrong : ChangeSpec := { name := "ropGroups", fn := fun _ => fun
  | [d1, d2, d3] => { results := [.lit (.bool false)], args := [d1, d2, d3] }
  | _ => none }
def RopGroupsWrongFalsely : Prop := ropGroupsRow.holds Tryd.pinned (OpenSpec.ofChange ropGroupsWrong)

/-- 'glazierlaw18.RopMixes': WHATEVER THE INPUT: true; the input reads as it did. -/
def ropMixesSpec : ChangeSpec := { name := "ropMixes", fn := fun _ => fun
  | [d1, d2, d3, d4, d5, d6] => { results := [.lit (.bool true)], args := [d1, d2, d3, d4, d5, d6] }
  | _ => none }
def ropMixesRow : OpenClaim := { program := "ytboepibmnfmgfaadoor", sum := "33225e62521935234b9e25768906a099abd69c6256bb2ad8effb1b269fa2fc3d", func := "glazier/glazierlaw18.RopMixes", spec := "ropMixes", unfollowed := true, recurses := true, named := ["glazier/rop.names"], apart := false, laid := [("glazier/rop.names", laid_glazier_rop_names)] }
def RopMixesSaid : Prop := ropMixesRow.holds Tryd.pinned (OpenSpec.ofChange ropMixesSpec)

/-- ITS FALSE NEIGHBOUR: 'it returns false'. Refute it at one input. -/
def ropMixesWrong : ChangeSpec := { name := "ropMixes", fn := fun _ => fun
  | [d1, d2, d3, d4, d5, d6] => { results := [.lit (.bool false)], args := [d1, d2, d3, d4, d5, d6] }
  | _ => none }
def RopMixesWrongFalsely : Prop := ropMixesRow.holds Tryd.pinned (OpenSpec.ofChange ropMixesWrong)

/-- 'glazierlaw18.RopNames': WHATEVER THE INPUT: true; the input reads as it did. -/
def ropNamesSpec : ChangeSpec := { name := "ropNames", fn := fun _ => fun
  | [d1, d2] => { results := [.lit (.bool true)], args := [d1, d2] }
  | _ => none }
def ropNamesRow : OpenClaim := { program := "ytboepibmnfmgfaadoor", sum := "33225e62521935234b9e25768906a099abd69c6256bb2ad8effb1b269fa2fc3d", func := "glazier/glazierlaw18.RopNames", spec := "ropNames", unfollowed := true, recurses := true, named := ["glazier/rop.names"], apart := false, laid := [("glazier/rop.names", laid_glazier_rop_names)] }
def RopNamesSaid : Prop := ropNamesRow.holds Tryd.pinned (OpenSpec.ofChange ropNamesSpec)

/-- ITS FALSE NEIGHBOUR: 'it returns false'. Refute it at one input. -/
def ropNamesWrong : ChangeSpec := { name := "ropNames", fn := fun _ => fun
  | [d1, d2] => { results := [.lit (.bool false)], args := [d1, d2] }
  | _ => none }
def RopNamesWrongFalsely : Prop := ropNamesRow.holds Tryd.pinned (OpenSpec.ofChange ropNamesWrong)

/- THE SECOND FORM. 'bulk': how many values and letters a reading holds, each counted each time it is reached (what is shared counts as often as it is met; a slice's spare places count too). A statement '..UptoSaid' is the law's where the arguments, and the package variables that the reading takes, are together of bulk at most 1048576: NARROWER than '..Said'. Prove '..Said' where nothing that the law and all that it calls make is longer than what came in: it says more and counts as full. Else prove '..UptoSaid'. A law counts once. -/
mutual
def uptoBulk {H : Type} : DataW H → Nat
  | .lit (.string bytes) => bytes.length + 1
  | .lit _ => 1
  | .nil => 1
  | .ptr d => uptoBulk d + 1
  | .slice elems spare => uptoBulkAll elems + uptoBulkAll spare + 1
  | .agg parts => uptoBulkAll parts + 1
  | .iface _ d => uptoBulk d + 1
  | .map entries => uptoBulkEntries entries + 1
  | .held _ => 1
def uptoBulkAll {H : Type} : List (DataW H) → Nat
  | [] => 0
  | d :: r => uptoBulk d + uptoBulkAll r
def uptoBulkEntries {H : Type} : List (Lit × DataW H) → Nat
  | [] => 0
  | x :: r => uptoBulkEntry x + uptoBulkEntries r
def uptoBulkEntry {H : Type} : Lit × DataW H → Nat
  | (.string bytes, d) => bytes.length + uptoBulk d + 1
  | (_, d) => uptoBulk d + 1
 end
def uptoSmall : (H : Type) → List (DataW H) → Bool := fun _ ds => decide (uptoBulkAll ds ≤ 1048576)
def OpenSpec.upto (s : _root_.Go.ChangeSpec) : _root_.Go.OpenSpec := { _root_.Go.OpenSpec.ofChange s with cond := some uptoSmall }

/-- 'glazierlaw18.RopThen', WHERE WHAT IT READS IS OF BULK AT MOST 1048576: true; the input reads as it did. -/
def ropThenUptoRow : OpenClaim := { program := "ytboepibmnfmgfaadoor", sum := "33225e62521935234b9e25768906a099abd69c6256bb2ad8effb1b269fa2fc3d", func := "glazier/glazierlaw18.RopThen", spec := "ropThen", unfollowed := true, recurses := true, named := ["glazier/rop.names"], apart := false, laid := [("glazier/rop.names", laid_glazier_rop_names)], narrowed := true }
def RopThenUptoSaid : Prop := ropThenUptoRow.holds Tryd.pinned (OpenSpec.upto ropThenSpec)

/-- 'glazierlaw18.RopTwice', WHERE WHAT IT READS IS OF BULK AT MOST 1048576: true; the input reads as it did. -/
def ropTwiceUptoRow : OpenClaim := { program := "ytboepibmnfmgfaadoor", sum := "33225e62521935234b9e25768906a099abd69c6256bb2ad8effb1b269fa2fc3d", func := "glazier/glazierlaw18.RopTwice", spec := "ropTwice", unfollowed := true, recurses := true, named := ["glazier/rop.names"], apart := false, laid := [("glazier/rop.names", laid_glazier_rop_names)], narrowed := true }
def RopTwiceUptoSaid : Prop := ropTwiceUptoRow.holds Tryd.pinned (OpenSpec.upto ropTwiceSpec)

/-- 'glazierlaw18.RopPlanes', WHERE WHAT IT READS IS OF BULK AT MOST 1048576: true; the input reads as it did. -/
def ropPlanesUptoRow : OpenClaim := { program := "ytboepibmnfmgfaadoor", sum := "33225e62521935234b9e25768906a099abd69c6256bb2ad8effb1b269fa2fc3d", func := "glazier/glazierlaw18.RopPlanes", spec := "ropPlanes", unfollowed := true, recurses := true, named := ["glazier/rop.names"], apart := false, laid := [("glazier/rop.names", laid_glazier_rop_names)], narrowed := true }
def RopPlanesUptoSaid : Prop := ropPlanesUptoRow.holds Tryd.pinned (OpenSpec.upto ropPlanesSpec)

/-- 'glazierlaw18.RopTurns', WHERE WHAT IT READS IS OF BULK AT MOST 1048576: true; the input reads as it did. -/
def ropTurnsUptoRow : OpenClaim := { program := "ytboepibmnfmgfaadoor", sum := "33225e62521935234b9e25768906a099abd69c6256bb2ad8effb1b269fa2fc3d", func := "glazier/glazierlaw18.RopTurns", spec := "ropTurns", unfollowed := true, recurses := true, named := ["glazier/rop.names"], apart := false, laid := [("glazier/rop.names", laid_glazier_rop_names)], narrowed := true }
def RopTurnsUptoSaid : Prop := ropTurnsUptoRow.holds Tryd.pinned (OpenSpec.upto ropTurnsSpec)

/-- 'glazierlaw18.RopGroups', WHERE WHAT IT READS IS OF BULK AT MOST 1048576: true; the input reads as it did. -/
def ropGroupsUptoRow : OpenClaim := { program := "ytboepibmnfmgfaadoor", sum := "33225e62521935234b9e25768906a099abd69c6256bb2ad8effb1b269fa2fc3d", func := "glazier/glazierlaw18.RopGroups", spec := "ropGroups", unfollowed := true, recurses := true, named := ["glazier/rop.names"], apart := false, laid := [("glazier/rop.names", laid_glazier_rop_names)], narrowed := true }
def RopGroupsUptoSaid : Prop := ropGroupsUptoRow.holds Tryd.pinned (OpenSpec.upto ropGroupsSpec)

/-- 'glazierlaw18.RopMixes', WHERE WHAT IT READS IS OF BULK AT MOST 1048576: true; the input reads as it did. -/
def ropMixesUptoRow : OpenClaim := { program := "ytboepibmnfmgfaadoor", sum := "33225e62521935234b9e25768906a099abd69c6256bb2ad8effb1b269fa2fc3d", func := "glazier/glazierlaw18.RopMixes", spec := "ropMixes", unfollowed := true, recurses := true, named := ["glazier/rop.names"], apart := false, laid := [("glazier/rop.names", laid_glazier_rop_names)], narrowed := true }
def RopMixesUptoSaid : Prop := ropMixesUptoRow.holds Tryd.pinned (OpenSpec.upto ropMixesSpec)

/-- 'glazierlaw18.RopNames', WHERE WHAT IT READS IS OF BULK AT MOST 1048576: true; the input reads as it did. -/
def ropNamesUptoRow : OpenClaim := { program := "ytboepibmnfmgfaadoor", sum := "33225e62521935234b9e25768906a099abd69c6256bb2ad8effb1b269fa2fc3d", func := "glazier/glazierlaw18.RopNames", spec := "ropNames", unfollowed := true, recurses := true, named := ["glazier/rop.names"], apart := false, laid := [("glazier/rop.names", laid_glazier_rop_names)], narrowed := true }
def RopNamesUptoSaid : Prop := ropNamesUptoRow.holds Tryd.pinned (OpenSpec.upto ropNamesSpec)

end Rows
end Go.Proofs.YtboepibmnfmgfaaDoor
