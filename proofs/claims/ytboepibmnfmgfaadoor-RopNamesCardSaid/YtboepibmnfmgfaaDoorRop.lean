/-
  WALKS of package rop (layer 18): each function once.
-/
import Derived.Test.YtboepibmnfmgfaaDoorRows
import Derived.WalkKit
import Derived.WalkSpells
import Derived.WalkLawsBesides
import Derived.BigQuiet
import Derived.Deep.QuietTactic
import Derived.Lib.Hide
namespace Go.Proofs.YtboepibmnfmgfaaDoor
open Go.RowKit

theorem quiet_left {P : Program} {f : FuncId} {args : Array Value} {w : World} {n : Nat} {v : Value}
    (h : Calls P f args (w.drewN n) fun e w' => e = .returned v ∧ w.drewN n = w') : Calls P f args (w.drewN n) fun e w'' => e = .returned v ∧ ∃ m, w'' = w.drewN m :=
  h.mono fun _ _ ⟨he, hm⟩ => ⟨he, n, hm.symm⟩

/-- is a number a function? -/
def ropKnown (n : Int) : Bool := decide (0 ≤ n) && decide (n ≤ 15)

theorem known_any (n : Int) (w : World) :
    Calls Tryd.prog 22 #[.int .i64 n] w fun e w' => e = .returned (.bool (ropKnown n)) ∧ w = w' := by
  unfold ropKnown
  by_cases h0 : 0 ≤ n <;> by_cases h1 : n ≤ 15
  all_goals
    go_enter Tryd.func22, Tryd.ntmps22
    go_wp2
    go_ret
    exact ⟨by simp [h0, h1], rfl⟩

def ropWeight (s d : Bool) : Int := if s && d then 1 else if s then 2 else if d then 4 else 8

theorem weight_any (s d : Bool) (w : World) :
    Calls Tryd.prog 24 #[.bool s, .bool d] w fun e w' => e = .returned (.int .i64 (ropWeight s d)) ∧ w = w' := by
  cases s <;> cases d
  all_goals
    go_enter Tryd.func24, Tryd.ntmps24
    go_wp2
    go_ret
    exact ⟨rfl, rfl⟩

theorem function1_any (s d : Bool) (w : World) :
    Calls Tryd.prog 25 #[.bool s, .bool d] w fun e w' => e = .returned (.bool d) ∧ w = w' := by
  go_enter Tryd.func25, Tryd.ntmps25
  go_wp2
  go_ret
  exact ⟨rfl, rfl⟩

/-- what function n answers -/
def ropDoes (n : Int) (s d : Bool) : Bool := bits .and .i64 n (ropWeight s d) != 0

theorem function2_any (s d : Bool) (n : Int) (a : Addr) (w : World) (hc : w.cell? a = some (.int .i64 n)) :
    Calls Tryd.prog 26 #[.bool s, .bool d, .pointer (some a)] w fun e w' => e = .returned (.bool (ropDoes n s d)) ∧ ∃ k, w' = w.drewN k := by
  go_enter Tryd.func26, Tryd.ntmps26
  go_wp2
  go_quiet ((go_at_call 24; exact quiet_left (weight_any _ _ _)))
  go_wp2
  go_ret
  exact ⟨rfl, _, rfl⟩
end Go.Proofs.YtboepibmnfmgfaaDoor
