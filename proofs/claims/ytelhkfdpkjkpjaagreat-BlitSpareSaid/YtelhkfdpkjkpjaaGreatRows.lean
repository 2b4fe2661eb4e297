/-
  No cell of these rows narrows 'for every input' (looked for: loops, veiled, ifaces, maps, wideKeys, modest, calm, conditions, laid).
  DERIVED. THE GIVEN ROWS OF THIS SEAT. 12 by the template 'for every input the law returns true; each argument reads behind the call as it read before'; 0 by the template 'total and deterministic' (their statements: YtelhkfdpkjkpjaaGreatTotals.lean).
  GIVEN WITH THE SEED: the statements are not yours to turn. If you find one false, say at which input.
  Laid BY PROGRAM, IN A SANDBOX (cutbox-rows.mjs): the forced cells as the released guide's own fill.sh prints them over the translation e5541d651375d16f… (all of the seat's roots in one cut). By AI agents, Wed Nov 11 2026. No macro, syntax, notation, axiom, sorry.
-/
import Derived.Test.YtelhkfdpkjkpjaaGreatChecked
import GoSem.Claim
import GoSem.ClaimJoined
import GoSem.ClaimMapViews
import Derived.JoinedTies
import Derived.KernelRfl
namespace Go.Proofs.YtelhkfdpkjkpjaaGreat
/- THE CELL 'sum', in the pinned program and in every row, IS THE sha256 OF THE DUMP (.gsa) THAT YtelhkfdpkjkpjaaGreatProg.lean LOADS. Nothing in Lean hashes anything: it is a label: what it is worth is what the hold of that sum in a sandbox is worth. -/
noncomputable def Tryz.pinned : Pinned := { name := "ytelhkfdpkjkpjaagreat", sum := "e5541d651375d16f74415fea9759696b8355e673c982a66fd1feb51aef39d017", checked := Tryz.checked }
namespace Rows
def none {H : Type} : Left H := { results := [], args := [] }

/-- 'glazierlaw23.PaintTiles': WHATEVER THE INPUT: true; the input reads as it did. -/
def paintTilesSpec : ChangeSpec := { name := "paintTiles", fn := fun _ => fun
  | [d1, d2, d3, d4, d5, d6] => { results := [.lit (.bool true)], args := [d1, d2, d3, d4, d5, d6] }
  | _ => none }
def paintTilesRow : OpenClaim := { program := "ytelhkfdpkjkpjaagreat", sum := "e5541d651375d16f74415fea9759696b8355e673c982a66fd1feb51aef39d017", func := "glazier/glazierlaw23.PaintTiles", spec := "paintTiles", unfollowed := true, recurses := true, apart := false }
def PaintTilesSaid : Prop := paintTilesRow.holds Tryz.pinned (OpenSpec.ofChange paintTilesSpec)

/-- ITS FALSE NEIGHBOUR: 'it returns false'. Refute it at one input. -/
def paintTilesWrong : ChangeSpec := { name := "paintTiles", fn := fun _ => fun
  | [d1, d2, d3, d4, d5, d6] => { results := [.lit (.bool false)], args := [d1, d2, d3, d4, d5, d6] }
  | _ => none }
def PaintTilesWrongFalsely : Prop := paintTilesRow.holds Tryz.pinned (OpenSpec.ofChange paintTilesWrong)

/-- 'glazierlaw23.PaintRegions': WHATEVER THE INPUT: true; the input reads as it did. -/
def paintRegionsSpec : ChangeSpec := { name := "paintRegions", fn := fun _ => fun
  | [d1, d2, d3, d4, d5, d6, d7] => { results := [.lit (.bool true)], args := [d1, d2, d3, d4, d5, d6, d7] }
  | _ => none }
def paintRegionsRow : OpenClaim := { program := "ytelhkfdpkjkpjaagreat", sum := "e5541d651375d16f74415fea9759696b8355e673c982a66fd1feb51aef39d017", func := "glazier/glazierlaw23.PaintRegions", spec := "paintRegions", unfollowed := true, recurses := true, apart := false }
def PaintRegionsSaid : Prop := paintRegionsRow.holds Tryz.pinned (OpenSpec.ofChange paintRegionsSpec)

/-- ITS FALSE NEIGHBOUR: 'it returns false'. Refute it at one input. -/
def paintRegionsWrong : ChangeSpec := { name := "paintRegions", fn := fun _ => fun
  | [d1, d2, d3, d4, d5, d6, d7] => { results := [.lit (.bool false)], args := [d1, d2, d3, d4, d5, d6, d7] }
  | _ => none }
def PaintRegionsWrongFalsely : Prop := paintRegionsRow.holds Tryz.pinned (OpenSpec.ofChange paintRegionsWrong)

/-- 'glazierlaw23.PaintTwice': WHATEVER THE INPUT: true; the input reads as it did. -/
def paintTwiceSpec : ChangeSpec := { name := "paintTwice", fn := fun _ => fun
  | [d1, d2, d3, d4, d5] => { results := [.lit (.bool true)], args := [d1, d2, d3, d4, d5] }
  | _ => none }
def paintTwiceRow : OpenClaim := { program := "ytelhkfdpkjkpjaagreat", sum := "e5541d651375d16f74415fea9759696b8355e673c982a66fd1feb51aef39d017", func := "glazier/glazierlaw23.PaintTwice", spec := "paintTwice", unfollowed := true, recurses := true, apart := false }
def PaintTwiceSaid : Prop := paintTwiceRow.holds Tryz.pinned (OpenSpec.ofChange paintTwiceSpec)

/-- ITS FALSE NEIGHBOUR: 'it returns false'. Refute it at one input. -/
def paintTwiceWrong : ChangeSpec := { name := "paintTwice", fn := fun _ => fun
  | [d1, d2, d3, d4, d5] => { results := [.lit (.bool false)], args := [d1, d2, d3, d4, d5] }
  | _ => none }
def PaintTwiceWrongFalsely : Prop := paintTwiceRow.holds Tryz.pinned (OpenSpec.ofChange paintTwiceWrong)

/-- 'glazierlaw23.PaintParts': WHATEVER THE INPUT: true; the input reads as it did. -/
def paintPartsSpec : ChangeSpec := { name := "paintParts", fn := fun _ => fun
  | [d1, d2, d3, d4, d5, d6, d7] => { results := [.lit (.bool true)], args := [d1, d2, d3, d4, d5, d6, d7] }
  | _ => none }
def paintPartsRow : OpenClaim := { program := "ytelhkfdpkjkpjaagreat", sum := "e5541d651375d16f74415fea9759696b8355e673c982a66fd1feb51aef39d017", func := "glazier/glazierlaw23.PaintParts", spec := "paintParts", unfollowed := true, recurses := true, apart := false }
def PaintPartsSaid : Prop := paintPartsRow.holds Tryz.pinned (OpenSpec.ofChange paintPartsSpec)

/-- ITS FALSE NEIGHBOUR: 'it returns false'. Refute it at one input. -/
def paintPartsWrong : ChangeSpec := { name := "paintParts", fn := fun _ => fun
  | [d1, d2, d3, d4, d5, d6, d7] => { results := [.lit (.bool false)], args := [d1, d2, d3, d4, d5, d6, d7] }
  | _ => none }
def PaintPartsWrongFalsely : Prop := paintPartsRow.holds Tryz.pinned (OpenSpec.ofChange paintPartsWrong)

/-- 'glazierlaw23.PaintLists': WHATEVER THE INPUT: true; the input reads as it did. -/
def paintListsSpec : ChangeSpec := { name := "paintLists", fn := fun _ => fun
  | [d1, d2, d3, d4, d5, d6, d7] => { results := [.lit (.bool true)], args := [d1, d2, d3, d4, d5, d6, d7] }
  | _ => none }
def paintListsRow : OpenClaim := { program := "ytelhkfdpkjkpjaagreat", sum := "e5541d651375d16f74415fea9759696b8355e673c982a66fd1feb51aef39d017", func := "glazier/glazierlaw23.PaintLists", spec := "paintLists", unfollowed := true, recurses := true, apart := false }
def PaintListsSaid : Prop := paintListsRow.holds Tryz.pinned (OpenSpec.ofChange paintListsSpec)

/-- ITS FALSE NEIGHBOUR: 'it returns false'. Refute it at one input. -/
def paintListsWrong : ChangeSpec := { name := "paintLists", fn := fun _ => fun
  | [d1, d2, d3, d4, d5, d6, d7] => { results := [.lit (.bool false)], args := [d1, d2, d3, d4, d5, d6, d7] }
  | _ => none }
def PaintListsWrongFalsely : Prop := paintListsRow.holds Tryz.pinned (OpenSpec.ofChange paintListsWrong)

/-- 'glazierlaw24.BlitAreas': WHATEVER THE INPUT: true; the input reads as it did. -/
def blitAreasSpec : ChangeSpec := { name := "blitAreas", fn := fun _ => fun
  | [d] => { results := [.lit (.bool true)], args := [d] }
  | _ => none }
def blitAreasRow : OpenClaim := { program := "ytelhkfdpkjkpjaagreat", sum := "e5541d651375d16f74415fea9759696b8355e673c982a66fd1feb51aef39d017", func := "glazier/glazierlaw24.BlitAreas", spec := "blitAreas", unfollowed := true, recurses := true, apart := false }
def BlitAreasSaid : Prop := blitAreasRow.holds Tryz.pinned (OpenSpec.ofChange blitAreasSpec)

/-- ITS FALSE NEIGHBOUR: 'it returns false'. Refute it at one input. -/
def blitAreasWrong : ChangeSpec := { name := "blitAreas", fn := fun _ => fun
  | [d] => { results := [.lit (.bool false)], args := [d] }
  | _ => none }
def BlitAreasWrongFalsely : Prop := blitAreasRow.holds Tryz.pinned (OpenSpec.ofChange blitAreasWrong)

/-- 'glazierlaw24.BlitWithin': WHATEVER THE INPUT: true; the input reads as it did. -/
def blitWithinSpec : ChangeSpec := { name := "blitWithin", fn := fun _ => fun
  | [d] => { results := [.lit (.bool true)], args := [d] }
  | _ => none }
def blitWithinRow : OpenClaim := { program := "ytelhkfdpkjkpjaagreat", sum := "e5541d651375d16f74415fea9759696b8355e673c982a66fd1feb51aef39d017", func := "glazier/glazierlaw24.BlitWithin", spec := "blitWithin", unfollowed := true, recurses := true, apart := false }
def BlitWithinSaid : Prop := blitWithinRow.holds Tryz.pinned (OpenSpec.ofChange blitWithinSpec)

/-- ITS FALSE NEIGHBOUR: 'it returns false'. Refute it at one input. -/
def blitWithinWrong : ChangeSpec := { name := "blitWithin", fn := fun _ => fun
  | [d] => { results := [.lit (.bool false)], args := [d] }
  | _ => none }
def BlitWithinWrongFalsely : Prop := blitWithinRow.holds Tryz.pinned (OpenSpec.ofChange blitWithinWrong)

/-- 'glazierlaw24.BlitScrolls': WHATEVER THE INPUT: true; the input reads as it did. -/
def blitScrollsSpec : ChangeSpec := { name := "blitScrolls", fn := fun _ => fun
  | [d1, d2, d3, d4, d5] => { results := [.lit (.bool true)], args := [d1, d2, d3, d4, d5] }
  | _ => none }
def blitScrollsRow : OpenClaim := { program := "ytelhkfdpkjkpjaagreat", sum := "e5541d651375d16f74415fea9759696b8355e673c982a66fd1feb51aef39d017", func := "glazier/glazierlaw24.BlitScrolls", spec := "blitScrolls", unfollowed := true, recurses := true, apart := false }
def BlitScrollsSaid : Prop := blitScrollsRow.holds Tryz.pinned (OpenSpec.ofChange blitScrollsSpec)

/-- ITS FALSE NEIGHBOUR: 'it returns false'. Refute it at one input. -/
def blitScrollsWrong : ChangeSpec := { name := "blitScrolls", fn := fun _ => fun
  | [d1, d2, d3, d4, d5] => { results := [.lit (.bool false)], args := [d1, d2, d3, d4, d5] }
  | _ => none }
def BlitScrollsWrongFalsely : Prop := blitScrollsRow.holds Tryz.pinned (OpenSpec.ofChange blitScrollsWrong)

/-- 'glazierlaw24.BlitMissing': WHATEVER THE INPUT: true; the input reads as it did. -/
def blitMissingSpec : ChangeSpec := { name := "blitMissing", fn := fun _ => fun
  | [d1, d2, d3, d4, d5] => { results := [.lit (.bool true)], args := [d1, d2, d3, d4, d5] }
  | _ => none }
def blitMissingRow : OpenClaim := { program := "ytelhkfdpkjkpjaagreat", sum := "e5541d651375d16f74415fea9759696b8355e673c982a66fd1feb51aef39d017", func := "glazier/glazierlaw24.BlitMissing", spec := "blitMissing", unfollowed := true, recurses := true, apart := false }
def BlitMissingSaid : Prop := blitMissingRow.holds Tryz.pinned (OpenSpec.ofChange blitMissingSpec)

/-- ITS FALSE NEIGHBOUR: 'it returns false'. Refute it at one input. -/
def blitMissingWrong : ChangeSpec := { name := "blitMissing", fn := fun _ => fun
  | [d1, d2, d3, d4, d5] => { results := [.lit (.bool false)], args := [d1, d2, d3, d4, d5] }
  | _ => none }
def BlitMissingWrongFalsely : Prop := blitMissingRow.holds Tryz.pinned (OpenSpec.ofChange blitMissingWrong)

/-- 'glazierlaw23.PaintClips': WHATEVER THE INPUT: true; the input reads as it did. -/
def paintClipsSpec : ChangeSpec := { name := "paintClips", fn := fun _ => fun
  | [d1, d2, d3, d4, d5, d6, d7] => { results := [.lit (.bool true)], args := [d1, d2, d3, d4, d5, d6, d7] }
  | _ => none }
def paintClipsRow : OpenClaim := { program := "ytelhkfdpkjkpjaagreat", sum := "e5541d651375d16f74415fea9759696b8355e673c982a66fd1feb51aef39d017", func := "glazier/glazierlaw23.PaintClips", spec := "paintClips", unfollowed := true, recurses := true, apart := false }
def PaintClipsSaid : Prop := paintClipsRow.holds Tryz.pinned (OpenSpec.ofChange paintClipsSpec)

/-- ITS FALSE NEIGHBOUR: 'it returns false'. Refute it at one input. -/
def paintClipsWrong : ChangeSpec := { name := "paintClips", fn := fun _ => fun
  | [d1, d2, d3, d4, d5, d6, d7] => { results := [.lit (.bool false)], args := [d1, d2, d3, d4, d5, d6, d7] }
  | _ => none }
def PaintClipsWrongFalsely : Prop := paintClipsRow.holds Tryz.pinned (OpenSpec.ofChange paintClipsWrong)

/-- 'glazierlaw24.BlitSpare': WHATEVER THE INPUT: true; the input reads as it did. -/
def blitSpareSpec : ChangeSpec := { name := "blitSpare", fn := fun _ => fun
  | [d] => { results := [.lit (.bool true)], args := [d] }
  | _ => none }
def blitSpareRow : OpenClaim := { program := "ytelhkfdpkjkpjaagreat", sum := "e5541d651375d16f74415fea9759696b8355e673c982a66fd1feb51aef39d017", func := "glazier/glazierlaw24.BlitSpare", spec := "blitSpare", unfollowed := true, recurses := true, apart := false }
def BlitSpareSaid : Prop := blitSpareRow.holds Tryz.pinned (OpenSpec.ofChange blitSpareSpec)

/-- ITS FALSE NEIGHBOUR: 'it returns false'. Refute it at one input. -/
def blitSpareWrong : ChangeSpec := { name := "blitSpare", fn := fun _ => fun
  | [d] => { results := [.lit (.bool false)], args := [d] }
  | _ => none }
def BlitSpareWrongFalsely : Prop := blitSpareRow.holds Tryz.pinned (OpenSpec.ofChange blitSpareWrong)

/-- 'glazierlaw24.BlitNothing': WHATEVER THE INPUT: true; the input reads as it did. -/
def blitNothingSpec : ChangeSpec := { name := "blitNothing", fn := fun _ => fun
  | [d1, d2] => { results := [.lit (.bool true)], args := [d1, d2] }
  | _ => none }
def blitNothingRow : OpenClaim := { program := "ytelhkfdpkjkpjaagreat", sum := "e5541d651375d16f74415fea9759696b8355e673c982a66fd1feb51aef39d017", func := "glazier/glazierlaw24.BlitNothing", spec := "blitNothing", unfollowed := true, recurses := true, apart := false }
def BlitNothingSaid : Prop := blitNothingRow.holds Tryz.pinned (OpenSpec.ofChange blitNothingSpec)

/-- ITS FALSE NEIGHBOUR: 'it returns false'. Refute it at one input. -/
def blitNothingWrong : ChangeSpec := { name := "blitNothing", fn := fun _ => fun
  | [d1, d2] => { results := [.lit (.bool false)], args := [d1, d2] }
  | _ => none }
def BlitNothingWrongFalsely : Prop := blitNothingRow.holds Tryz.pinned (OpenSpec.ofChange blitNothingWrong)

/- THE SECOND FORM. 'bulk': how many values and letters a reading holds, each counted each time it is reached (what is shared counts as often as it is met; a slice's spare places count too). A statement '..UptoSaid' is the law's where the arguments, and the package variables that the reading takes, are together of bulk at most 1048576: NARROWER than '..Said'. Prove '..Said' where nothing that the law and all that it calls make is longer than what came in: it says more and counts as full. Else prove '..UptoSaid'. A law counts once. -/
mutual
def uptoBulk {H : Type} : DataW H → Nat
  | .lit (.string bytes) => bytes.length + 1
  | .lit _ => 1
  | .nil => 1
  | .ptr d => uptoBulk d + 1
  | .slice elems spare => uptoBulkAll elems + uptoBulkAll spare + 1
  | .agg parts => uptoBulkAll parts + 1
  | .iface _ d => uptoBulk d + 1
  | .map entries => uptoBulkEntries entries + 1
  | .held _ => 1
def uptoBulkAll {H : Type} : List (DataW H) → Nat
  | [] => 0
  | d :: r => uptoBulk d + uptoBulkAll r
def uptoBulkEntries {H : Type} : List (Lit × DataW H) → Nat
  | [] => 0
  | x :: r => uptoBulkEntry x + uptoBulkEntries r
def uptoBulkEntry {H : Type} : Lit × DataW H → Nat
  | (.string bytes, d) => bytes.length + uptoBulk d + 1
  | (_, d) => uptoBulk d + 1
 end
def uptoSmall : (H : Type) → List (DataW H) → Bool := fun _ ds => decide (uptoBulkAll ds ≤ 1048576)
def OpenSpec.upto (s : _root_.Go.ChangeSpec) : _root_.Go.OpenSpec := { _root_.Go.OpenSpec.ofChange s with cond := some uptoSmall }

/-- 'glazierlaw23.PaintTiles', WHERE WHAT IT READS IS OF BULK AT MOST 1048576: true; the input reads as it did. -/
def paintTilesUptoRow : OpenClaim := { program := "ytelhkfdpkjkpjaagreat", sum := "e5541d651375d16f74415fea9759696b8355e673c982a66fd1feb51aef39d017", func := "glazier/glazierlaw23.PaintTiles", spec := "paintTiles", unfollowed := true, recurses := true, apart := false, narrowed := true }
def PaintTilesUptoSaid : Prop := paintTilesUptoRow.holds Tryz.pinned (OpenSpec.upto paintTilesSpec)

/-- 'glazierlaw23.PaintRegions', WHERE WHAT IT READS IS OF BULK AT MOST 1048576: true; the input reads as it did. -/
def paintRegionsUptoRow : OpenClaim := { program := "ytelhkfdpkjkpjaagreat", sum := "e5541d651375d16f74415fea9759696b8355e673c982a66fd1feb51aef39d017", func := "glazier/glazierlaw23.PaintRegions", spec := "paintRegions", unfollowed := true, recurses := true, apart := false, narrowed := true }
def PaintRegionsUptoSaid : Prop := paintRegionsUptoRow.holds Tryz.pinned (OpenSpec.upto paintRegionsSpec)

/-- 'glazierlaw23.PaintTwice', WHERE WHAT IT READS IS OF BULK AT MOST 1048576: true; the input reads as it did. -/
def paintTwiceUptoRow : OpenClaim := { program := "ytelhkfdpkjkpjaagreat", sum := "e5541d651375d16f74415fea9759696b8355e673c982a66fd1feb51aef39d017", func := "glazier/glazierlaw23.PaintTwice", spec := "paintTwice", unfollowed := true, recurses := true, apart := false, narrowed := true }
def PaintTwiceUptoSaid : Prop := paintTwiceUptoRow.holds Tryz.pinned (OpenSpec.upto paintTwiceSpec)

/-- 'glazierlaw23.PaintParts', WHERE WHAT IT READS IS OF BULK AT MOST 1048576: true; the input reads as it did. -/
def paintPartsUptoRow : OpenClaim := { program := "ytelhkfdpkjkpjaagreat", sum := "e5541d651375d16f74415fea9759696b8355e673c982a66fd1feb51aef39d017", func := "glazier/glazierlaw23.PaintParts", spec := "paintParts", unfollowed := true, recurses := true, apart := false, narrowed := true }
def PaintPartsUptoSaid : Prop := paintPartsUptoRow.holds Tryz.pinned (OpenSpec.upto paintPartsSpec)

/-- 'glazierlaw23.PaintLists', WHERE WHAT IT READS IS OF BULK AT MOST 1048576: true; the input reads as it did. -/
def paintListsUptoRow : OpenClaim := { program := "ytelhkfdpkjkpjaagreat", sum := "e5541d651375d16f74415fea9759696b8355e673c982a66fd1feb51aef39d017", func := "glazier/glazierlaw23.PaintLists", spec := "paintLists", unfollowed := true, recurses := true, apart := false, narrowed := true }
def PaintListsUptoSaid : Prop := paintListsUptoRow.holds Tryz.pinned (OpenSpec.upto paintListsSpec)

/-- 'glazierlaw24.BlitAreas', WHERE WHAT IT READS IS OF BULK AT MOST 1048576: true; the input reads as it did. -/
def blitAreasUptoRow : OpenClaim := { program := "ytelhkfdpkjkpjaagreat", sum := "e5541d651375d16f74415fea9759696b8355e673c982a66fd1feb51aef39d017", func := "glazier/glazierlaw24.BlitAreas", spec := "blitAreas", unfollowed := true, recurses := true, apart := false, narrowed := true }
def BlitAreasUptoSaid : Prop := blitAreasUptoRow.holds Tryz.pinned (OpenSpec.upto blitAreasSpec)

/-- 'glazierlaw24.BlitWithin', WHERE WHAT IT READS IS OF BULK AT MOST 1048576: true; the input reads as it did. -/
def blitWithinUptoRow : OpenClaim := { program := "ytelhkfdpkjkpjaagreat", sum := "e5541d651375d16f74415fea9759696b8355e673c982a66fd1feb51aef39d017", func := "glazier/glazierlaw24.BlitWithin", spec := "blitWithin", unfollowed := true, recurses := true, apart := false, narrowed := true }
def BlitWithinUptoSaid : Prop := blitWithinUptoRow.holds Tryz.pinned (OpenSpec.upto blitWithinSpec)

/-- 'glazierlaw24.BlitScrolls', WHERE WHAT IT READS IS OF BULK AT MOST 1048576: true; the input reads as it did. -/
def blitScrollsUptoRow : OpenClaim := { program := "ytelhkfdpkjkpjaagreat", sum := "e5541d651375d16f74415fea9759696b8355e673c982a66fd1feb51aef39d017", func := "glazier/glazierlaw24.BlitScrolls", spec := "blitScrolls", unfollowed := true, recurses := true, apart := false, narrowed := true }
def BlitScrollsUptoSaid : Prop := blitScrollsUptoRow.holds Tryz.pinned (OpenSpec.upto blitScrollsSpec)

/-- 'glazierlaw24.BlitMissing', WHERE WHAT IT READS IS OF BULK AT MOST 1048576: true; the input reads as it did. -/
def blitMissingUptoRow : OpenClaim := { program := "ytelhkfdpkjkpjaagreat", sum := "e5541d651375d16f74415fea9759696b8355e673c982a66fd1feb51aef39d017", func := "glazier/glazierlaw24.BlitMissing", spec := "blitMissing", unfollowed := true, recurses := true, apart := false, narrowed := true }
def BlitMissingUptoSaid : Prop := blitMissingUptoRow.holds Tryz.pinned (OpenSpec.upto blitMissingSpec)

/-- 'glazierlaw23.PaintClips', WHERE WHAT IT READS IS OF BULK AT MOST 1048576: true; the input reads as it did. -/
def paintClipsUptoRow : OpenClaim := { program := "ytelhkfdpkjkpjaagreat", sum := "e5541d651375d16f74415fea9759696b8355e673c982a66fd1feb51aef39d017", func := "glazier/glazierlaw23.PaintClips", spec := "paintClips", unfollowed := true, recurses := true, apart := false, narrowed := true }
def PaintClipsUptoSaid : Prop := paintClipsUptoRow.holds Tryz.pinned (OpenSpec.upto paintClipsSpec)

/-- 'glazierlaw24.BlitSpare', WHERE WHAT IT READS IS OF BULK AT MOST 1048576: true; the input reads as it did. -/
def blitSpareUptoRow : OpenClaim := { program := "ytelhkfdpkjkpjaagreat", sum := "e5541d651375d16f74415fea9759696b8355e673c982a66fd1feb51aef39d017", func := "glazier/glazierlaw24.BlitSpare", spec := "blitSpare", unfollowed := true, recurses := true, apart := false, narrowed := true }
def BlitSpareUptoSaid : Prop := blitSpareUptoRow.holds Tryz.pinned (OpenSpec.upto blitSpareSpec)

/-- 'glazierlaw24.BlitNothing', WHERE WHAT IT READS IS OF BULK AT MOST 1048576: true; the input reads as it did. -/
def blitNothingUptoRow : OpenClaim := { program := "ytelhkfdpkjkpjaagreat", sum := "e5541d651375d16f74415fea9759696b8355e673c982a66fd1feb51aef39d017", func := "glazier/glazierlaw24.BlitNothing", spec := "blitNothing", unfollowed := true, recurses := true, apart := false, narrowed := true }
def BlitNothingUptoSaid : Prop := blitNothingUptoRow.holds Tryz.pinned (OpenSpec.upto blitNothingSpec)

end Rows
end Go.Proofs.YtelhkfdpkjkpjaaGreat
