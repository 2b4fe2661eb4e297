/-
  THE LIBRARY's math/bits.Mul at this translation: the shelf's contract, laid by its numbers.
-/
import Derived.Shelf.Bits.Mul64
import Derived.Test.YtiefpodmdpnppaaDoorProg
namespace Go.Proofs
open Go.Shelf Go.RowKit
def Tryd.mulr : Go.Shelf.Ren := ⟨fun | 212 => 67 | 263 => 72 | 264 => 73 | n => n, fun | 3 => 3 | 4 => 4 | 46 => 101 | 109 => 102 | 51 => 105 | 146 => 106 | 53 => 108 | 148 => 109 | n => n, fun | n => n⟩
theorem Tryd.mul212 : Go.Proofs.Lays.n212 Tryd.prog Tryd.mulr := {
  mixed := by kernel_rfl
  f212 := Tryd.func67.trans (congrArg some (by kernel_rfl))
  f263 := Tryd.func72.trans (congrArg some (by kernel_rfl))
  f264 := Tryd.func73.trans (congrArg some (by kernel_rfl))
  t46 := Tryd.underlying101
  a46 := Tryd.isAgg101
  z46 := Tryd.sizeOf101
  v46 := Tryd.zeroValue101
  t51 := Tryd.underlying105
  a51 := Tryd.isAgg105
  z51 := Tryd.sizeOf105
  v51 := Tryd.zeroValue105
  t53 := Tryd.underlying108
  a53 := Tryd.isAgg108
  z53 := Tryd.sizeOf108
  v53 := Tryd.zeroValue108
  t146 := Tryd.underlying106
  a146 := Tryd.isAgg106
  z146 := Tryd.sizeOf106
  v146 := Tryd.zeroValue106
  t148 := Tryd.underlying109
  a148 := Tryd.isAgg109
  z148 := Tryd.sizeOf109
  v148 := Tryd.zeroValue109 }
theorem Tryd.bitsMul (x y : Nat) (hx : x < 18446744073709551616) (hy : y < 18446744073709551616) (w : World) :
    Calls Tryd.prog 67 #[.int .u64 x, .int .u64 y] w fun e w' => e = .returned (.tuple #[.int .u64 ((x * y / 18446744073709551616 : Nat) : Int), .int .u64 ((x * y % 18446744073709551616 : Nat) : Int)]) ∧ w = w' :=
  (Any.bits_Mul Tryd.mul212 x y hx hy w).mono fun _ _ h => ⟨h.1, h.2.symm⟩
theorem Tryd.bitsMul1 (n : Nat) (hn : n ≤ 140737488355328) (w : World) :
    Calls Tryd.prog 67 #[.int .u64 1, .int .u64 n] w fun e w' => e = .returned (.tuple #[.int .u64 0, .int .u64 n]) ∧ w = w' := by
  have h := Tryd.bitsMul 1 n (by decide) (by omega) w
  rw [Nat.one_mul, Nat.div_eq_of_lt (by omega), Nat.mod_eq_of_lt (by omega)] at h
  exact h
end Go.Proofs
