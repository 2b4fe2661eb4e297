/-
  THE LIBRARY's math/bits.Mul at this translation: the shelf's contract, laid by its numbers.
-/
import Derived.Shelf.Bits.Mul64
import Derived.Test.YtjnomaiejmgedaaProg
namespace Go.Proofs
open Go.Shelf Go.RowKit
def Try.mulr : Go.Shelf.Ren := ⟨fun | 212 => 35 | 263 => 40 | 264 => 41 | n => n, fun | 3 => 3 | 4 => 4 | 46 => 82 | 109 => 83 | 51 => 42 | 146 => 92 | 53 => 94 | 148 => 95 | n => n, fun | n => n⟩
theorem Try.mul212 : Go.Proofs.Lays.n212 Try.prog Try.mulr := {
  mixed := by kernel_rfl
  f212 := Try.func35.trans (congrArg some (by kernel_rfl))
  f263 := Try.func40.trans (congrArg some (by kernel_rfl))
  f264 := Try.func41.trans (congrArg some (by kernel_rfl))
  t46 := Try.underlying82
  a46 := Try.isAgg82
  z46 := Try.sizeOf82
  v46 := Try.zeroValue82
  t51 := Try.underlying42
  a51 := Try.isAgg42
  z51 := Try.sizeOf42
  v51 := Try.zeroValue42
  t53 := Try.underlying94
  a53 := Try.isAgg94
  z53 := Try.sizeOf94
  v53 := Try.zeroValue94
  t146 := Try.underlying92
  a146 := Try.isAgg92
  z146 := Try.sizeOf92
  v146 := Try.zeroValue92
  t148 := Try.underlying95
  a148 := Try.isAgg95
  z148 := Try.sizeOf95
  v148 := Try.zeroValue95 }
theorem Try.bitsMul (x y : Nat) (hx : x < 18446744073709551616) (hy : y < 18446744073709551616) (w : World) :
    Calls Try.prog 35 #[.int .u64 x, .int .u64 y] w fun e w' => e = .returned (.tuple #[.int .u64 ((x * y / 18446744073709551616 : Nat) : Int), .int .u64 ((x * y % 18446744073709551616 : Nat) : Int)]) ∧ w = w' :=
  (Any.bits_Mul Try.mul212 x y hx hy w).mono fun _ _ h => ⟨h.1, h.2.symm⟩
theorem Try.bitsMul1 (n : Nat) (hn : n ≤ 140737488355328) (w : World) :
    Calls Try.prog 35 #[.int .u64 1, .int .u64 n] w fun e w' => e = .returned (.tuple #[.int .u64 0, .int .u64 n]) ∧ w = w' := by
  have h := Try.bitsMul 1 n (by decide) (by omega) w
  rw [Nat.one_mul, Nat.div_eq_of_lt (by omega), Nat.mod_eq_of_lt (by omega)] at h
  exact h
end Go.Proofs
