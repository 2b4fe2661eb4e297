/-
  WALKS of package rop: Name; the table of names; the chapter's examples.
-/
import Derived.Test.YtboepibmnfmgfaaDoorRopE
namespace Go.Proofs.YtboepibmnfmgfaaDoor
open Go.RowKit

theorem below_next {a w w' : World} (h : Below a.heap.size a w) (h2 : Below w.heap.size w w') : Below a.heap.size a w' := h.trans (h2.mono h.size)

def namesL : List ByteArray := [⟨#[99, 108, 101, 97, 114]⟩, ⟨#[97, 110, 100]⟩, ⟨#[97, 110, 100, 45, 114, 101, 118, 101, 114, 115, 101]⟩, ⟨#[99, 111, 112, 121]⟩, ⟨#[97, 110, 100, 45, 105, 110, 118, 101, 114, 116, 101, 100]⟩, ⟨#[110, 111, 45, 111, 112]⟩, ⟨#[120, 111, 114]⟩, ⟨#[111, 114]⟩, ⟨#[110, 111, 114]⟩, ⟨#[101, 113, 117, 105, 118]⟩, ⟨#[105, 110, 118, 101, 114, 116]⟩, ⟨#[111, 114, 45, 114, 101, 118, 101, 114, 115, 101]⟩, ⟨#[99, 111, 112, 121, 45, 105, 110, 118, 101, 114, 116, 101, 100]⟩, ⟨#[111, 114, 45, 105, 110, 118, 101, 114, 116, 101, 100]⟩, ⟨#[110, 97, 110, 100]⟩, ⟨#[115, 101, 116]⟩]
def nm (k : Nat) : ByteArray := namesL.getD k ⟨#[]⟩
def namesArr : Array Value := #[.string ⟨#[99, 108, 101, 97, 114]⟩, .string ⟨#[97, 110, 100]⟩, .string ⟨#[97, 110, 100, 45, 114, 101, 118, 101, 114, 115, 101]⟩, .string ⟨#[99, 111, 112, 121]⟩, .string ⟨#[97, 110, 100, 45, 105, 110, 118, 101, 114, 116, 101, 100]⟩, .string ⟨#[110, 111, 45, 111, 112]⟩, .string ⟨#[120, 111, 114]⟩, .string ⟨#[111, 114]⟩, .string ⟨#[110, 111, 114]⟩, .string ⟨#[101, 113, 117, 105, 118]⟩, .string ⟨#[105, 110, 118, 101, 114, 116]⟩, .string ⟨#[111, 114, 45, 114, 101, 118, 101, 114, 115, 101]⟩, .string ⟨#[99, 111, 112, 121, 45, 105, 110, 118, 101, 114, 116, 101, 100]⟩, .string ⟨#[111, 114, 45, 105, 110, 118, 101, 114, 116, 101, 100]⟩, .string ⟨#[110, 97, 110, 100]⟩, .string ⟨#[115, 101, 116]⟩]
/-- THE TABLE OF NAMES lies where the program's text lays it -/
def NamesIn (w : World) : Prop := w.var? Tryd.prog "glazier/rop.names" = some namesArr
theorem gNames : Tryd.prog.globalNamed "glazier/rop.names" = some 0 := by kernel_rfl
theorem namesIn_next {w w' : World} (h : NamesIn w) (hb : Below w.heap.size w w') : NamesIn w' := by
  unfold NamesIn at *
  have hs : 0 < w.heap.size := by
    unfold World.var? at h
    rw [gNames] at h
    simp only [Option.bind_some] at h
    cases hh : w.heap[0]? with
    | none => rw [hh] at h; cases h
    | some o => exact (Array.getElem?_eq_some_iff.1 hh).1
  unfold World.var? at *
  rw [gNames] at *
  simp only [Option.bind_some] at *
  rw [hb.block _ hs]
  exact h
theorem namesArr_at (k : Nat) (hk : k < 16) : namesArr[k]? = some (.string (nm k)) := by
  match k, hk with
  | 0, _ => rfl
  | 1, _ => rfl
  | 2, _ => rfl
  | 3, _ => rfl
  | 4, _ => rfl
  | 5, _ => rfl
  | 6, _ => rfl
  | 7, _ => rfl
  | 8, _ => rfl
  | 9, _ => rfl
  | 10, _ => rfl
  | 11, _ => rfl
  | 12, _ => rfl
  | 13, _ => rfl
  | 14, _ => rfl
  | 15, _ => rfl
  | n + 16, h => exact absurd h (by omega)
theorem namesIn_cell {w : World} (h : NamesIn w) (k : Nat) (hk : k < 16) : w.cell? ⟨0, k, none⟩ = some (.string (nm k)) := by
  have := World.var?_cell gNames h k
  rw [namesArr_at k hk] at this
  exact this
theorem namesIn_heap {w : World} (h : NamesIn w) : ∃ t fr, w.heap[0]? = some (.cells namesArr t fr) := by
  unfold NamesIn World.var? at h
  rw [gNames] at h
  simp only [Option.bind_some] at h
  split at h
  · rename_i cs t fr hh
    cases h
    exact ⟨t, fr, hh⟩
  · cases h

theorem name_yes (n : Nat) (w : World) (hn : n < 16) (hN : NamesIn w) :
    Calls Tryd.prog 18 #[.int .i64 n] w fun e w' => e = .returned (.string (nm n)) ∧ w = w' := by
  have hk : ropKnown n = true := known_of hn
  have hc := namesIn_cell hN n hn
  have HN := Lib.hid hN; clear hN
  go_enter Tryd.func18, Tryd.ntmps18
  go_wp2_with (go_at_call 22; refine (known_any _ _).mono ?_; rintro e w' ⟨rfl, rfl⟩)
  go_ret
  exact ⟨rfl, rfl⟩
theorem name_no (n : Int) (w : World) (hk : ropKnown n = false) :
    Calls Tryd.prog 18 #[.int .i64 n] w fun e w' => e = .returned (.string ⟨#[]⟩) ∧ w = w' := by
  go_enter Tryd.func18, Tryd.ntmps18
  go_wp2_with (go_at_call 22; refine (known_any _ _).mono ?_; rintro e w' ⟨rfl, rfl⟩)
  go_ret
  exact ⟨rfl, rfl⟩

/-- a mix whose outcome is known -/
theorem mix_at {n s d p : Int} (w : World) (r : Int) (h : mixI n s d p = r) (hs : 0 ≤ s ∧ s ≤ 255) (hd : 0 ≤ d ∧ d ≤ 255) (hp : 0 ≤ p ∧ p ≤ 255) :
    Calls Tryd.prog 13 #[.int .i64 n, .int .u8 s, .int .u8 d, .int .u8 p] w fun e w' =>
      e = .returned (.int .u8 r) ∧ Below w.heap.size w w' := by rw [← h]; exact mix_any n s d p w hs hd hp
theorem then_at {a b : Int} (w : World) (r : Int) (h : then2 a b = r) (ha : ropKnown a = true) (hb : ropKnown b = true) :
    Calls Tryd.prog 11 #[.int .i64 a, .int .i64 b] w fun e w' =>
      e = .returned (.tuple #[.int .i64 r, .bool true]) ∧ Below w.heap.size w w' := by rw [← h]; exact rop_then_yes a b w ha hb
theorem ex1 : mixI 6 5 3 255 = 6 := by decide +kernel
theorem ex2 : mixI 3 5 3 1 = 3 := by decide +kernel
theorem ex3 : mixI 8 5 3 15 = 8 := by decide +kernel
theorem ex4 : then2 6 6 = 5 := by decide +kernel
theorem ex6 : ((nm 14).toList == [110, 97, 110, 100]) = true := by decide +kernel
theorem ex5 : then2 3 10 = 12 := by decide +kernel

set_option maxRecDepth 100000 in
set_option maxHeartbeats 600000 in
theorem awake_any (w : World) (hN : NamesIn w) :
    Calls Tryd.prog 10 #[] w fun e w' => e = .returned (.bool true) ∧ Below w.heap.size w w' := by
  have HN := Lib.hid hN; clear hN
  go_enter Tryd.func10, Tryd.ntmps10
  go_wp2_with fail
  refine (then_at _ 5 ex4 rfl rfl).mono ?_
  rintro e w1 ⟨rfl, h1⟩
  go_wp2_with fail
  refine (then_at _ 12 ex5 rfl rfl).mono ?_
  rintro e w2 ⟨rfl, h2⟩
  go_wp2_with fail
  refine (mix_at _ 6 ex1 (by omega) (by omega) (by omega)).mono ?_
  rintro e w3 ⟨rfl, h3⟩
  go_wp2_with fail
  refine (mix_at _ 3 ex2 (by omega) (by omega) (by omega)).mono ?_
  rintro e w4 ⟨rfl, h4⟩
  go_wp2_with fail
  refine (mix_at _ 8 ex3 (by omega) (by omega) (by omega)).mono ?_
  rintro e w5 ⟨rfl, h5⟩
  have hall : Below w.heap.size w w5 := below_next (below_next (below_next (below_next h1 h2) h3) h4) h5
  have hn := namesIn_next HN.out hall
  clear h1 h2 h3 h4 h5
  go_wp2_with fail
  refine (name_yes 14 _ (by omega) hn).mono ?_
  rintro e w6 ⟨rfl, rfl⟩
  clear hn
  go_wp2_with fail
  go_ret
  exact ⟨by show Ending.returned (.bool ((nm 14).toList == [110, 97, 110, 100])) = _; rw [ex6], hall⟩
end Go.Proofs.YtboepibmnfmgfaaDoor
