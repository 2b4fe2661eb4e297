/-
  NARROWER THAN 'FOR EVERY INPUT', by the rows' own cells (each row's printed sentence says how): CellsParts: laid · CellsWrites: laid · CellsLines: laid · CellsSizes: laid · CellsNew: laid · CellsHolds: laid · CellsBack: laid.
  DERIVED. THE GIVEN ROWS OF THIS SEAT. 7 by the template 'for every input the law returns true; each argument reads behind the call as it read before'; 0 by the template 'total and deterministic' (their statements: YtiefpodmdpnppaaDoorTotals.lean).
  GIVEN WITH THE SEED: the statements are not yours to turn. If you find one false, say at which input.
  Laid BY PROGRAM, IN A SANDBOX (cutbox-rows.mjs): the forced cells as the released guide's own fill.sh prints them over the translation 6275ecd1dc1a6d07… (all of the seat's roots in one cut). By AI agents, Wed Nov 11 2026. No macro, syntax, notation, axiom, sorry.
-/
import Derived.Test.YtiefpodmdpnppaaDoorChecked
import GoSem.PinnedTables
import GoSem.Claim
import GoSem.ClaimJoined
import GoSem.ClaimMapViews
import Derived.JoinedTies
import Derived.KernelRfl
namespace Go.Proofs.YtiefpodmdpnppaaDoor
/- THE CELL 'sum', in the pinned program and in every row, IS THE sha256 OF THE DUMP (.gsa) THAT YtiefpodmdpnppaaDoorProg.lean LOADS. Nothing in Lean hashes anything: it is a label: what it is worth is what the hold of that sum in a sandbox is worth. -/
noncomputable def Tryd.pinned : Pinned := { name := "ytiefpodmdpnppaadoor", sum := "6275ecd1dc1a6d0757215c86f82f92dd2388912fcb1585c0448d81a6d56b9367", checked := Tryd.checked }
namespace Rows
def none {H : Type} : Left H := { results := [], args := [] }

/- WHAT THE LISTED PACKAGE-LEVEL VARIABLES READ AS WHEN THE CALL BEGINS. Each datum BY PROGRAM (the guide's laid-datum.mjs) off the statement by which the dump's own 'gosem.cut.vars' lays the variable. In a bare row this is a premise. The card (YtiefpodmdpnppaaDoorCards.lean) ties it to the program's text. -/
def laid_unicode_utf8_acceptRanges {H : Type} : DataW H := .agg [.agg [.lit (.int .u8 128), .lit (.int .u8 191)], .agg [.lit (.int .u8 160), .lit (.int .u8 191)], .agg [.lit (.int .u8 128), .lit (.int .u8 159)], .agg [.lit (.int .u8 144), .lit (.int .u8 191)], .agg [.lit (.int .u8 128), .lit (.int .u8 143)], .agg [.lit (.int .u8 0), .lit (.int .u8 0)], .agg [.lit (.int .u8 0), .lit (.int .u8 0)], .agg [.lit (.int .u8 0), .lit (.int .u8 0)], .agg [.lit (.int .u8 0), .lit (.int .u8 0)], .agg [.lit (.int .u8 0), .lit (.int .u8 0)], .agg [.lit (.int .u8 0), .lit (.int .u8 0)], .agg [.lit (.int .u8 0), .lit (.int .u8 0)], .agg [.lit (.int .u8 0), .lit (.int .u8 0)], .agg [.lit (.int .u8 0), .lit (.int .u8 0)], .agg [.lit (.int .u8 0), .lit (.int .u8 0)], .agg [.lit (.int .u8 0), .lit (.int .u8 0)]]
/-- One of Go's own tables, pinned by name: the form's constant. -/
def laid_unicode_utf8_first : DataW Unit := Go.Pinned.utf8First

/-- 'glazierlaw56.CellsParts': WHATEVER THE INPUT: true; the input reads as it did. -/
def cellsPartsSpec : ChangeSpec := { name := "cellsParts", fn := fun _ => fun
  | [d1, d2, d3] => { results := [.lit (.bool true)], args := [d1, d2, d3] }
  | _ => none }
def cellsPartsRow : OpenClaim := { program := "ytiefpodmdpnppaadoor", sum := "6275ecd1dc1a6d0757215c86f82f92dd2388912fcb1585c0448d81a6d56b9367", func := "glazier/glazierlaw56.CellsParts", spec := "cellsParts", inPlace := ["internal/bytealg.MakeNoZero", "internal/bytealg.IndexByteString", "internal/bytealg.IndexString", "internal/abi.NoEscape"], unfollowed := true, recurses := true, named := ["unicode/utf8.first", "unicode/utf8.acceptRanges", "internal/bytealg.MaxLen"], apart := false, laid := [("unicode/utf8.acceptRanges", laid_unicode_utf8_acceptRanges), ("unicode/utf8.first", laid_unicode_utf8_first)] }
def CellsPartsSaid : Prop := cellsPartsRow.holds Tryd.pinned (OpenSpec.ofChange cellsPartsSpec)

/-- ITS FALSE NEIGHBOUR: 'it returns false'. Refute it at one input. -/
def cellsPartsWrong : ChangeSpec := { name := "cellsParts", fn := fun _ => fun
  | [d1, d2, d3] => { results := [.lit (.bool false)], args := [d1, d2, d3] }
  | _ => none }
def CellsPartsWrongFalsely : Prop := cellsPartsRow.holds Tryd.pinned (OpenSpec.ofChange cellsPartsWrong)

/-- 'glazierlaw56.CellsWrites': WHATEVER THE INPUT: true; the input reads as it did. -/
def cellsWritesSpec : ChangeSpec := { name := "cellsWrites", fn := fun _ => fun
  | [d1, d2] => { results := [.lit (.bool true)], args := [d1, d2] }
  | _ => none }
def cellsWritesRow : OpenClaim := { program := "ytiefpodmdpnppaadoor", sum := "6275ecd1dc1a6d0757215c86f82f92dd2388912fcb1585c0448d81a6d56b9367", func := "glazier/glazierlaw56.CellsWrites", spec := "cellsWrites", inPlace := ["internal/bytealg.MakeNoZero", "internal/bytealg.IndexByteString", "internal/bytealg.IndexString", "internal/abi.NoEscape"], unfollowed := true, recurses := true, named := ["unicode/utf8.first", "unicode/utf8.acceptRanges", "internal/bytealg.MaxLen"], apart := false, laid := [("unicode/utf8.acceptRanges", laid_unicode_utf8_acceptRanges), ("unicode/utf8.first", laid_unicode_utf8_first)] }
def CellsWritesSaid : Prop := cellsWritesRow.holds Tryd.pinned (OpenSpec.ofChange cellsWritesSpec)

/-- ITS FALSE NEIGHBOUR: 'it returns false'. Refute it at one input. -/
def cellsWritesWrong : ChangeSpec := { name := "cellsWrites", fn := fun _ => fun
  | [d1, d2] => { results := [.lit (.bool false)], args := [d1, d2] }
  | _ => none }
def CellsWritesWrongFalsely : Prop := cellsWritesRow.holds Tryd.pinned (OpenSpec.ofChange cellsWritesWrong)

/-- 'glazierlaw56.CellsLines': WHATEVER THE INPUT: true; the input reads as it did. -/
def cellsLinesSpec : ChangeSpec := { name := "cellsLines", fn := fun _ => fun
  | [d1, d2] => { results := [.lit (.bool true)], args := [d1, d2] }
  | _ => none }
def cellsLinesRow : OpenClaim := { program := "ytiefpodmdpnppaadoor", sum := "6275ecd1dc1a6d0757215c86f82f92dd2388912fcb1585c0448d81a6d56b9367", func := "glazier/glazierlaw56.CellsLines", spec := "cellsLines", inPlace := ["internal/bytealg.MakeNoZero", "internal/bytealg.IndexByteString", "internal/bytealg.IndexString", "internal/abi.NoEscape"], unfollowed := true, recurses := true, named := ["unicode/utf8.first", "unicode/utf8.acceptRanges", "internal/bytealg.MaxLen"], apart := false, laid := [("unicode/utf8.acceptRanges", laid_unicode_utf8_acceptRanges), ("unicode/utf8.first", laid_unicode_utf8_first)] }
def CellsLinesSaid : Prop := cellsLinesRow.holds Tryd.pinned (OpenSpec.ofChange cellsLinesSpec)

/-- ITS FALSE NEIGHBOUR: 'it returns false'. Refute it at one input. -/
def cellsLinesWrong : ChangeSpec := { name := "cellsLines", fn := fun _ => fun
  | [d1, d2] => { results := [.lit (.bool false)], args := [d1, d2] }
  | _ => none }
def CellsLinesWrongFalsely : Prop := cellsLinesRow.holds Tryd.pinned (OpenSpec.ofChange cellsLinesWrong)

/-- 'glazierlaw56.CellsSizes': WHATEVER THE INPUT: true; the input reads as it did. -/
def cellsSizesSpec : ChangeSpec := { name := "cellsSizes", fn := fun _ => fun
  | [d1, d2, d3, d4, d5] => { results := [.lit (.bool true)], args := [d1, d2, d3, d4, d5] }
  | _ => none }
def cellsSizesRow : OpenClaim := { program := "ytiefpodmdpnppaadoor", sum := "6275ecd1dc1a6d0757215c86f82f92dd2388912fcb1585c0448d81a6d56b9367", func := "glazier/glazierlaw56.CellsSizes", spec := "cellsSizes", inPlace := ["internal/bytealg.MakeNoZero", "internal/bytealg.IndexByteString", "internal/bytealg.IndexString", "internal/abi.NoEscape"], unfollowed := true, recurses := true, named := ["unicode/utf8.first", "unicode/utf8.acceptRanges", "internal/bytealg.MaxLen"], apart := false, laid := [("unicode/utf8.acceptRanges", laid_unicode_utf8_acceptRanges), ("unicode/utf8.first", laid_unicode_utf8_first)] }
def CellsSizesSaid : Prop := cellsSizesRow.holds Tryd.pinned (OpenSpec.ofChange cellsSizesSpec)

/-- ITS FALSE NEIGHBOUR: 'it returns false'. Refute it at one input. -/
def cellsSizesWrong : ChangeSpec := { name := "cellsSizes", fn := fun _ => fun
  | [d1, d2, d3, d4, d5] => { results := [.lit (.bool false)], args := [d1, d2, d3, d4, d5] }
  | _ => none }
def CellsSizesWrongFalsely : Prop := cellsSizesRow.holds Tryd.pinned (OpenSpec.ofChange cellsSizesWrong)

/-- 'glazierlaw56.CellsNew': WHATEVER THE INPUT: true; the input reads as it did. -/
def cellsNewSpec : ChangeSpec := { name := "cellsNew", fn := fun _ => fun
  | [d1, d2, d3, d4] => { results := [.lit (.bool true)], args := [d1, d2, d3, d4] }
  | _ => none }
def cellsNewRow : OpenClaim := { program := "ytiefpodmdpnppaadoor", sum := "6275ecd1dc1a6d0757215c86f82f92dd2388912fcb1585c0448d81a6d56b9367", func := "glazier/glazierlaw56.CellsNew", spec := "cellsNew", inPlace := ["internal/bytealg.MakeNoZero", "internal/bytealg.IndexByteString", "internal/bytealg.IndexString", "internal/abi.NoEscape"], unfollowed := true, recurses := true, named := ["unicode/utf8.first", "unicode/utf8.acceptRanges", "internal/bytealg.MaxLen"], apart := false, laid := [("unicode/utf8.acceptRanges", laid_unicode_utf8_acceptRanges), ("unicode/utf8.first", laid_unicode_utf8_first)] }
def CellsNewSaid : Prop := cellsNewRow.holds Tryd.pinned (OpenSpec.ofChange cellsNewSpec)

/-- ITS FALSE NEIGHBOUR: 'it returns false'. Refute it at one input. -/
def cellsNewWrong : ChangeSpec := { name := "cellsNew", fn := fun _ => fun
  | [d1, d2, d3, d4] => { results := [.lit (.bool false)], args := [d1, d2, d3, d4] }
  | _ => none }
def CellsNewWrongFalsely : Prop := cellsNewRow.holds Tryd.pinned (OpenSpec.ofChange cellsNewWrong)

/-- 'glazierlaw56.CellsHolds': WHATEVER THE INPUT: true; the input reads as it did. -/
def cellsHoldsSpec : ChangeSpec := { name := "cellsHolds", fn := fun _ => fun
  | [d1, d2, d3, d4] => { results := [.lit (.bool true)], args := [d1, d2, d3, d4] }
  | _ => none }
def cellsHoldsRow : OpenClaim := { program := "ytiefpodmdpnppaadoor", sum := "6275ecd1dc1a6d0757215c86f82f92dd2388912fcb1585c0448d81a6d56b9367", func := "glazier/glazierlaw56.CellsHolds", spec := "cellsHolds", inPlace := ["internal/bytealg.MakeNoZero", "internal/bytealg.IndexByteString", "internal/bytealg.IndexString", "internal/abi.NoEscape"], unfollowed := true, recurses := true, named := ["unicode/utf8.first", "unicode/utf8.acceptRanges", "internal/bytealg.MaxLen"], apart := false, laid := [("unicode/utf8.acceptRanges", laid_unicode_utf8_acceptRanges), ("unicode/utf8.first", laid_unicode_utf8_first)] }
def CellsHoldsSaid : Prop := cellsHoldsRow.holds Tryd.pinned (OpenSpec.ofChange cellsHoldsSpec)

/-- ITS FALSE NEIGHBOUR: 'it returns false'. Refute it at one input. -/
def cellsHoldsWrong : ChangeSpec := { name := "cellsHolds", fn := fun _ => fun
  | [d1, d2, d3, d4] => { results := [.lit (.bool false)], args := [d1, d2, d3, d4] }
  | _ => none }
def CellsHoldsWrongFalsely : Prop := cellsHoldsRow.holds Tryd.pinned (OpenSpec.ofChange cellsHoldsWrong)

/-- 'glazierlaw56.CellsBack': WHATEVER THE INPUT: true; the input reads as it did. -/
def cellsBackSpec : ChangeSpec := { name := "cellsBack", fn := fun _ => fun
  | [d1, d2, d3] => { results := [.lit (.bool true)], args := [d1, d2, d3] }
  | _ => none }
def cellsBackRow : OpenClaim := { program := "ytiefpodmdpnppaadoor", sum := "6275ecd1dc1a6d0757215c86f82f92dd2388912fcb1585c0448d81a6d56b9367", func := "glazier/glazierlaw56.CellsBack", spec := "cellsBack", inPlace := ["internal/bytealg.MakeNoZero", "internal/bytealg.IndexByteString", "internal/bytealg.IndexString", "internal/abi.NoEscape"], unfollowed := true, recurses := true, named := ["unicode/utf8.first", "unicode/utf8.acceptRanges", "internal/bytealg.MaxLen"], apart := false, laid := [("unicode/utf8.acceptRanges", laid_unicode_utf8_acceptRanges), ("unicode/utf8.first", laid_unicode_utf8_first)] }
def CellsBackSaid : Prop := cellsBackRow.holds Tryd.pinned (OpenSpec.ofChange cellsBackSpec)

/-- ITS FALSE NEIGHBOUR: 'it returns false'. Refute it at one input. -/
def cellsBackWrong : ChangeSpec := { name := "cellsBack", fn := fun _ => fun
  | [d1, d2, d3] => { results := [.lit (.bool false)], args := [d1, d2, d3] }
  | _ => none }
def CellsBackWrongFalsely : Prop := cellsBackRow.holds Tryd.pinned (OpenSpec.ofChange cellsBackWrong)

/- THE SECOND FORM. 'bulk': how many values and letters a reading holds, each counted each time it is reached (what is shared counts as often as it is met; a slice's spare places count too). A statement '..UptoSaid' is the law's where the arguments, and the package variables that the reading takes, are together of bulk at most 1048576: NARROWER than '..Said'. Prove '..Said' where nothing that the law and all that it calls make is longer than what came in: it says more and counts as full. Else prove '..UptoSaid'. A law counts once. -/
mutual
def uptoBulk {H : Type} : DataW H → Nat
  | .lit (.string bytes) => bytes.length + 1
  | .lit _ => 1
  | .nil => 1
  | .ptr d => uptoBulk d + 1
  | .slice elems spare => uptoBulkAll elems + uptoBulkAll spare + 1
  | .agg parts => uptoBulkAll parts + 1
  | .iface _ d => uptoBulk d + 1
  | .map entries => uptoBulkEntries entries + 1
  | .held _ => 1
def uptoBulkAll {H : Type} : List (DataW H) → Nat
  | [] => 0
  | d :: r => uptoBulk d + uptoBulkAll r
def uptoBulkEntries {H : Type} : List (Lit × DataW H) → Nat
  | [] => 0
  | x :: r => uptoBulkEntry x + uptoBulkEntries r
def uptoBulkEntry {H : Type} : Lit × DataW H → Nat
  | (.string bytes, d) => bytes.length + uptoBulk d + 1
  | (_, d) => uptoBulk d + 1
 end
def uptoSmall : (H : Type) → List (DataW H) → Bool := fun _ ds => decide (uptoBulkAll ds ≤ 1048576)
def OpenSpec.upto (s : _root_.Go.ChangeSpec) : _root_.Go.OpenSpec := { _root_.Go.OpenSpec.ofChange s with cond := some uptoSmall }

/-- 'glazierlaw56.CellsParts', WHERE WHAT IT READS IS OF BULK AT MOST 1048576: true; the input reads as it did. -/
def cellsPartsUptoRow : OpenClaim := { program := "ytiefpodmdpnppaadoor", sum := "6275ecd1dc1a6d0757215c86f82f92dd2388912fcb1585c0448d81a6d56b9367", func := "glazier/glazierlaw56.CellsParts", spec := "cellsParts", inPlace := ["internal/bytealg.MakeNoZero", "internal/bytealg.IndexByteString", "internal/bytealg.IndexString", "internal/abi.NoEscape"], unfollowed := true, recurses := true, named := ["unicode/utf8.first", "unicode/utf8.acceptRanges", "internal/bytealg.MaxLen"], apart := false, laid := [("unicode/utf8.acceptRanges", laid_unicode_utf8_acceptRanges), ("unicode/utf8.first", laid_unicode_utf8_first)], narrowed := true }
def CellsPartsUptoSaid : Prop := cellsPartsUptoRow.holds Tryd.pinned (OpenSpec.upto cellsPartsSpec)

/-- 'glazierlaw56.CellsWrites', WHERE WHAT IT READS IS OF BULK AT MOST 1048576: true; the input reads as it did. -/
def cellsWritesUptoRow : OpenClaim := { program := "ytiefpodmdpnppaadoor", sum := "6275ecd1dc1a6d0757215c86f82f92dd2388912fcb1585c0448d81a6d56b9367", func := "glazier/glazierlaw56.CellsWrites", spec := "cellsWrites", inPlace := ["internal/bytealg.MakeNoZero", "internal/bytealg.IndexByteString", "internal/bytealg.IndexString", "internal/abi.NoEscape"], unfollowed := true, recurses := true, named := ["unicode/utf8.first", "unicode/utf8.acceptRanges", "internal/bytealg.MaxLen"], apart := false, laid := [("unicode/utf8.acceptRanges", laid_unicode_utf8_acceptRanges), ("unicode/utf8.first", laid_unicode_utf8_first)], narrowed := true }
def CellsWritesUptoSaid : Prop := cellsWritesUptoRow.holds Tryd.pinned (OpenSpec.upto cellsWritesSpec)

/-- 'glazierlaw56.CellsLines', WHERE WHAT IT READS IS OF BULK AT MOST 1048576: true; the input reads as it did. -/
def cellsLinesUptoRow : OpenClaim := { program := "ytiefpodmdpnppaadoor", sum := "6275ecd1dc1a6d0757215c86f82f92dd2388912fcb1585c0448d81a6d56b9367", func := "glazier/glazierlaw56.CellsLines", spec := "cellsLines", inPlace := ["internal/bytealg.MakeNoZero", "internal/bytealg.IndexByteString", "internal/bytealg.IndexString", "internal/abi.NoEscape"], unfollowed := true, recurses := true, named := ["unicode/utf8.first", "unicode/utf8.acceptRanges", "internal/bytealg.MaxLen"], apart := false, laid := [("unicode/utf8.acceptRanges", laid_unicode_utf8_acceptRanges), ("unicode/utf8.first", laid_unicode_utf8_first)], narrowed := true }
def CellsLinesUptoSaid : Prop := cellsLinesUptoRow.holds Tryd.pinned (OpenSpec.upto cellsLinesSpec)

/-- 'glazierlaw56.CellsSizes', WHERE WHAT IT READS IS OF BULK AT MOST 1048576: true; the input reads as it did. -/
def cellsSizesUptoRow : OpenClaim := { program := "ytiefpodmdpnppaadoor", sum := "6275ecd1dc1a6d0757215c86f82f92dd2388912fcb1585c0448d81a6d56b9367", func := "glazier/glazierlaw56.CellsSizes", spec := "cellsSizes", inPlace := ["internal/bytealg.MakeNoZero", "internal/bytealg.IndexByteString", "internal/bytealg.IndexString", "internal/abi.NoEscape"], unfollowed := true, recurses := true, named := ["unicode/utf8.first", "unicode/utf8.acceptRanges", "internal/bytealg.MaxLen"], apart := false, laid := [("unicode/utf8.acceptRanges", laid_unicode_utf8_acceptRanges), ("unicode/utf8.first", laid_unicode_utf8_first)], narrowed := true }
def CellsSizesUptoSaid : Prop := cellsSizesUptoRow.holds Tryd.pinned (OpenSpec.upto cellsSizesSpec)

/-- 'glazierlaw56.CellsNew', WHERE WHAT IT READS IS OF BULK AT MOST 1048576: true; the input reads as it did. -/
def cellsNewUptoRow : OpenClaim := { program := "ytiefpodmdpnppaadoor", sum := "6275ecd1dc1a6d0757215c86f82f92dd2388912fcb1585c0448d81a6d56b9367", func := "glazier/glazierlaw56.CellsNew", spec := "cellsNew", inPlace := ["internal/bytealg.MakeNoZero", "internal/bytealg.IndexByteString", "internal/bytealg.IndexString", "internal/abi.NoEscape"], unfollowed := true, recurses := true, named := ["unicode/utf8.first", "unicode/utf8.acceptRanges", "internal/bytealg.MaxLen"], apart := false, laid := [("unicode/utf8.acceptRanges", laid_unicode_utf8_acceptRanges), ("unicode/utf8.first", laid_unicode_utf8_first)], narrowed := true }
def CellsNewUptoSaid : Prop := cellsNewUptoRow.holds Tryd.pinned (OpenSpec.upto cellsNewSpec)

/-- 'glazierlaw56.CellsHolds', WHERE WHAT IT READS IS OF BULK AT MOST 1048576: true; the input reads as it did. -/
def cellsHoldsUptoRow : OpenClaim := { program := "ytiefpodmdpnppaadoor", sum := "6275ecd1dc1a6d0757215c86f82f92dd2388912fcb1585c0448d81a6d56b9367", func := "glazier/glazierlaw56.CellsHolds", spec := "cellsHolds", inPlace := ["internal/bytealg.MakeNoZero", "internal/bytealg.IndexByteString", "internal/bytealg.IndexString", "internal/abi.NoEscape"], unfollowed := true, recurses := true, named := ["unicode/utf8.first", "unicode/utf8.acceptRanges", "internal/bytealg.MaxLen"], apart := false, laid := [("unicode/utf8.acceptRanges", laid_unicode_utf8_acceptRanges), ("unicode/utf8.first", laid_unicode_utf8_first)], narrowed := true }
def CellsHoldsUptoSaid : Prop := cellsHoldsUptoRow.holds Tryd.pinned (OpenSpec.upto cellsHoldsSpec)

/-- 'glazierlaw56.CellsBack', WHERE WHAT IT READS IS OF BULK AT MOST 1048576: true; the input reads as it did. -/
def cellsBackUptoRow : OpenClaim := { program := "ytiefpodmdpnppaadoor", sum := "6275ecd1dc1a6d0757215c86f82f92dd2388912fcb1585c0448d81a6d56b9367", func := "glazier/glazierlaw56.CellsBack", spec := "cellsBack", inPlace := ["internal/bytealg.MakeNoZero", "internal/bytealg.IndexByteString", "internal/bytealg.IndexString", "internal/abi.NoEscape"], unfollowed := true, recurses := true, named := ["unicode/utf8.first", "unicode/utf8.acceptRanges", "internal/bytealg.MaxLen"], apart := false, laid := [("unicode/utf8.acceptRanges", laid_unicode_utf8_acceptRanges), ("unicode/utf8.first", laid_unicode_utf8_first)], narrowed := true }
def CellsBackUptoSaid : Prop := cellsBackUptoRow.holds Tryd.pinned (OpenSpec.upto cellsBackSpec)

end Rows
end Go.Proofs.YtiefpodmdpnppaaDoor
