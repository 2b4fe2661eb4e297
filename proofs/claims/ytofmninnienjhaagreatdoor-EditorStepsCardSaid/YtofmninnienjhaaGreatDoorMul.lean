/-
  THE LIBRARY's math/bits.Mul at this translation: the shelf's contract, laid by its numbers.
-/
import Derived.Shelf.Bits.Mul64
import Derived.Test.YtofmninnienjhaaGreatDoorProg
namespace Go.Proofs
open Go.Shelf Go.RowKit
end Go.Proofs
