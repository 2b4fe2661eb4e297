/-
  THE LIBRARY's math/bits.Mul at this translation: the shelf's contract, laid by its numbers.
-/
import Derived.Shelf.Bits.Mul64
import Derived.Test.YtjnomaiejmgedaaDoorProg
namespace Go.Proofs
open Go.Shelf Go.RowKit
def Tryd.mulr : Go.Shelf.Ren := ⟨fun | 212 => 101 | 263 => 141 | 264 => 142 | n => n, fun | 3 => 3 | 4 => 4 | 46 => 40 | 109 => 177 | 51 => 38 | 146 => 216 | 53 => 215 | 148 => 218 | n => n, fun | n => n⟩
theorem Tryd.mul212 : Go.Proofs.Lays.n212 Tryd.prog Tryd.mulr := {
  mixed := by kernel_rfl
  f212 := Tryd.func101.trans (congrArg some (by kernel_rfl))
  f263 := Tryd.func141.trans (congrArg some (by kernel_rfl))
  f264 := Tryd.func142.trans (congrArg some (by kernel_rfl))
  t46 := Tryd.underlying40
  a46 := Tryd.isAgg40
  z46 := Tryd.sizeOf40
  v46 := Tryd.zeroValue40
  t51 := Tryd.underlying38
  a51 := Tryd.isAgg38
  z51 := Tryd.sizeOf38
  v51 := Tryd.zeroValue38
  t53 := Tryd.underlying215
  a53 := Tryd.isAgg215
  z53 := Tryd.sizeOf215
  v53 := Tryd.zeroValue215
  t146 := Tryd.underlying216
  a146 := Tryd.isAgg216
  z146 := Tryd.sizeOf216
  v146 := Tryd.zeroValue216
  t148 := Tryd.underlying218
  a148 := Tryd.isAgg218
  z148 := Tryd.sizeOf218
  v148 := Tryd.zeroValue218 }
theorem Tryd.bitsMul (x y : Nat) (hx : x < 18446744073709551616) (hy : y < 18446744073709551616) (w : World) :
    Calls Tryd.prog 101 #[.int .u64 x, .int .u64 y] w fun e w' => e = .returned (.tuple #[.int .u64 ((x * y / 18446744073709551616 : Nat) : Int), .int .u64 ((x * y % 18446744073709551616 : Nat) : Int)]) ∧ w = w' :=
  (Any.bits_Mul Tryd.mul212 x y hx hy w).mono fun _ _ h => ⟨h.1, h.2.symm⟩
theorem Tryd.bitsMul1 (n : Nat) (hn : n ≤ 140737488355328) (w : World) :
    Calls Tryd.prog 101 #[.int .u64 1, .int .u64 n] w fun e w' => e = .returned (.tuple #[.int .u64 0, .int .u64 n]) ∧ w = w' := by
  have h := Tryd.bitsMul 1 n (by decide) (by omega) w
  rw [Nat.one_mul, Nat.div_eq_of_lt (by omega), Nat.mod_eq_of_lt (by omega)] at h
  exact h
end Go.Proofs
