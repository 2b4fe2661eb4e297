/-
  WALKS of layer 56: New, Row, Back, Kept, Cursor, Size.
-/
import Derived.Test.YtiefpodmdpnppaaDoorCelL
namespace Go.Proofs.YtiefpodmdpnppaaDoor
open Go.RowKit

def newScr (c r k : Nat) : Scr := ⟨c, r, k, 0, 0, List.replicate (c * r) 32, [], 0, 0, 0, 0⟩
theorem newScr_ok (c r k : Nat) (h1 : 1 ≤ c) (h2 : c ≤ 128) (h3 : 1 ≤ r) (h4 : r ≤ 64) (h5 : k ≤ 1000) : (newScr c r k).Ok :=
  ⟨h1, h2, h3, h4, h5, Nat.zero_le _, h3, List.length_replicate, Nat.zero_le _, Nat.zero_le _, Nat.zero_le _, Nat.zero_le _, Nat.zero_le _⟩
def NewPost (w : World) (S : Scr) (n : Int) (e : Ending) (w' : World) : Prop := ∃ v, e = .returned (.tuple #[v, .int .i64 n]) ∧ CK w' v S ∧ Below w.heap.size w w'
theorem cv_zero (w : World) : CK w (.agg (zeroScr.vals nilS nilS)) zeroScr := ⟨nilS, nilS, rfl, RdT.nil _ _, RdT.nil _ _, fun c h => by injection h with _ _ h; exact h.symm, fun c h => by injection h with _ _ h; exact h.symm⟩
def newB (c r k : Int) : Bool := fitsB c r && decide (0 ≤ k) && decide (k ≤ 1000)

set_option maxRecDepth 100000 in
set_option maxHeartbeats 800000 in
theorem new_yes (c r k : Nat) (w : World) (h1 : 1 ≤ c) (h2 : c ≤ 128) (h3 : 1 ≤ r) (h4 : r ≤ 64) (h5 : k ≤ 1000) :
    Calls Tryd.prog 22 #[.int .i64 c, .int .i64 r, .int .i64 k] w (NewPost w (newScr c r k) 0) := by
  have hfit : fitsB (c : Int) (r : Int) = true := by unfold fitsB; simp; omega
  have hcr1 : 1 ≤ c * r := Nat.mul_le_mul h1 h3
  have hcr2 : c * r ≤ 8192 := Nat.mul_le_mul h2 h4
  obtain ⟨p, hp⟩ : ∃ p : Nat, p = c * r := ⟨_, rfl⟩
  have hw : IntKind.i64.wrap ((c : Int) * (r : Int)) = (p : Int) := by rw [← Int.natCast_mul, IntWalk.i64_in _ (by omega), hp]
  rw [← hp] at hcr1 hcr2
  have HP := Lib.hid hp
  clear hp
  go_enter Tryd.func22, Tryd.ntmps22
  go_wp2_with fail
  refine (fits_any _ _ _).mono ?_
  rintro e w' ⟨rfl, rfl⟩
  rw [hfit]
  clear hfit
  go_wp2_with fail
  refine (blanks_any p _ hcr1 hcr2).mono ?_
  rintro e w1 ⟨v1, rfl, hown1, hb1⟩
  have hy : w1.heap[w.heap.size]? = some (.cells (zeroScr.vals nilS nilS) 29 (0, 0)) := (hb1.block w.heap.size (by simp)).trans (heap_alloc_new w _)
  have hbw1 : Below w.heap.size w w1 := below_next ((Below.refl _ _).alloc (Nat.le_refl _) _) hb1
  obtain ⟨_, A1, c1, rfl, _, _, _, _⟩ := hown1.rd
  have hlt : w.heap.size < w1.heap.size := by
    rcases Nat.lt_or_ge w.heap.size w1.heap.size with hlt | hge
    · exact hlt
    · rw [Array.getElem?_eq_none hge] at hy; cases hy
  have d0 : w1.cell? ⟨w.heap.size, 0, none⟩ = some (.int .i64 0) := cell_of_row _ _ _ _ _ _ hy
  have z0 : w1.frozen? ⟨w.heap.size, 0, none⟩ = false := frozen_of_row _ _ _ _ _ hy
  have d1 : w1.cell? ⟨w.heap.size, 1, none⟩ = some (.int .i64 0) := cell_of_row _ _ _ _ _ _ hy
  have z1 : w1.frozen? ⟨w.heap.size, 1, none⟩ = false := frozen_of_row _ _ _ _ _ hy
  have d2 : w1.cell? ⟨w.heap.size, 2, none⟩ = some (.int .i64 0) := cell_of_row _ _ _ _ _ _ hy
  have z2 : w1.frozen? ⟨w.heap.size, 2, none⟩ = false := frozen_of_row _ _ _ _ _ hy
  have d3 : w1.cell? ⟨w.heap.size, 3, none⟩ = some (.int .i64 0) := cell_of_row _ _ _ _ _ _ hy
  have z3 : w1.frozen? ⟨w.heap.size, 3, none⟩ = false := frozen_of_row _ _ _ _ _ hy
  have d4 : w1.cell? ⟨w.heap.size, 4, none⟩ = some (.int .i64 0) := cell_of_row _ _ _ _ _ _ hy
  have z4 : w1.frozen? ⟨w.heap.size, 4, none⟩ = false := frozen_of_row _ _ _ _ _ hy
  have d5 : w1.cell? ⟨w.heap.size, 5, none⟩ = some (.slice none 0 0) := cell_of_row _ _ _ _ _ _ hy
  have z5 : w1.frozen? ⟨w.heap.size, 5, none⟩ = false := frozen_of_row _ _ _ _ _ hy
  have d6 : w1.cell? ⟨w.heap.size, 6, none⟩ = some (.slice none 0 0) := cell_of_row _ _ _ _ _ _ hy
  have z6 : w1.frozen? ⟨w.heap.size, 6, none⟩ = false := frozen_of_row _ _ _ _ _ hy
  have d7 : w1.cell? ⟨w.heap.size, 7, none⟩ = some (.int .i64 0) := cell_of_row _ _ _ _ _ _ hy
  have z7 : w1.frozen? ⟨w.heap.size, 7, none⟩ = false := frozen_of_row _ _ _ _ _ hy
  have d8 : w1.cell? ⟨w.heap.size, 8, none⟩ = some (.int .i64 0) := cell_of_row _ _ _ _ _ _ hy
  have z8 : w1.frozen? ⟨w.heap.size, 8, none⟩ = false := frozen_of_row _ _ _ _ _ hy
  have d9 : w1.cell? ⟨w.heap.size, 9, none⟩ = some (.int .i64 0) := cell_of_row _ _ _ _ _ _ hy
  have z9 : w1.frozen? ⟨w.heap.size, 9, none⟩ = false := frozen_of_row _ _ _ _ _ hy
  have d10 : w1.cell? ⟨w.heap.size, 10, none⟩ = some (.int .i64 0) := cell_of_row _ _ _ _ _ _ hy
  have z10 : w1.frozen? ⟨w.heap.size, 10, none⟩ = false := frozen_of_row _ _ _ _ _ hy
  have HY := Lib.hid hy; have HB1 := Lib.hid hbw1; have HW1 := Lib.hid hown1
  clear hy hbw1 hown1 hb1
  go_wp2_with fail
  refine bodyPost_ret (v := .tuple #[.agg ((newScr c r k).vals (.slice A1 p c1) nilS), .int .i64 0]) (by simp [results, Tryd.results22, go_sem, Scr.vals, newScr, nilS, d0, d1, d2, d3, d4, d5, d6, d7, d8, d9, d10]) rfl ⟨_, rfl, ?_, ?_⟩
  · have ho := (own_ne HW1.out HY.out (by decide) (grown_setCells w1 w.heap.size 0 ((newScr c r k).vals (.slice A1 p c1) nilS).toList))
    refine ⟨.slice A1 p c1, nilS, rfl, ?_, RdT.nil _ _, ?_, fun c h => by injection h with _ _ h; exact h.symm⟩
    · have e1 : (newScr c r k).grid.length = p := by rw [HP.out]; exact List.length_replicate
      have e2 : Lib.byteCells (newScr c r k).grid = List.replicate p blankV := by rw [HP.out]; unfold newScr Lib.byteCells; rw [List.map_replicate]; rfl
      rw [e1, e2]
      exact ho.rdt
    · have e1 : (newScr c r k).grid.length = p := by rw [HP.out]; exact List.length_replicate
      rw [e1]
      exact HW1.out.none
  · exact HB1.out.trans ((Below.refl _ _).grown (grown_setCells w1 w.heap.size 0 ((newScr c r k).vals (.slice A1 p c1) nilS).toList) (Nat.le_of_lt hlt) (fun q hq => by injection hq with hq; omega))

set_option maxRecDepth 100000 in
set_option maxHeartbeats 800000 in
theorem new_no (c r k : Int) (w : World) (h : newB c r k = false) :
    Calls Tryd.prog 22 #[.int .i64 c, .int .i64 r, .int .i64 k] w (NewPost w zeroScr 17) := by
  have HH := Lib.hid h
  clear h
  go_enter Tryd.func22, Tryd.ntmps22
  go_wp2_with fail
  refine (fits_any _ _ _).mono ?_
  rintro e w' ⟨rfl, rfl⟩
  have hcase : fitsB c r = false ∨ (fitsB c r = true ∧ k < 0) ∨ (fitsB c r = true ∧ 0 ≤ k ∧ 1000 < k) := by
    have := HH.out
    unfold newB at this
    cases hf : fitsB c r
    · exact Or.inl rfl
    · rw [hf] at this
      simp at this
      by_cases h0 : k < 0
      · exact Or.inr (Or.inl ⟨rfl, h0⟩)
      · exact Or.inr (Or.inr ⟨rfl, by omega, this (by omega)⟩)
  rcases hcase with hf | ⟨hf, hk⟩ | ⟨hf, hk0, hk⟩
  all_goals
    rw [hf]
    clear hf
    go_wp2_with fail
    refine bodyPost_ret (v := .tuple #[.agg (zeroScr.vals nilS nilS), .int .i64 17]) (by simp [results, Tryd.results22, go_sem, Scr.vals, zeroScr, nilS]) rfl ⟨_, rfl, cv_zero _, ?_⟩
    exact (Below.refl _ _).alloc (Nat.le_refl _) _
end Go.Proofs.YtiefpodmdpnppaaDoor
