/-
  WALKS of layer 56's laws: awake.
-/
import Derived.Test.YtiefpodmdpnppaaDoorDocE
namespace Go.Proofs.YtiefpodmdpnppaaDoor
open Go.RowKit

theorem Scr.vals_eq (S : Scr) (vc vk : Value) : S.vals vc vk = #[.int .i64 S.cols, .int .i64 S.rows, .int .i64 S.most, .int .i64 S.x, .int .i64 S.y, vc, vk, .int .i64 S.st, .int .i64 S.n0, .int .i64 S.n1, .int .i64 S.num] := rfl
def exD : Scr := (newScr 4 2 9).bytes [97, 98, 99, 100, 101, 10, 102]
def exF : Scr := exD.bytes [27, 91, 72, 27, 91, 50, 74]
theorem ex_ok : exD.Ok := (newScr_ok 4 2 9 (by decide) (by decide) (by decide) (by decide) (by decide)).bytes _
theorem exF_ok : exF.Ok := ex_ok.bytes _
theorem ex_text : exD.text = [101, 10, 102, 10] := by decide +kernel
theorem ex_kept : exD.kept = [[97, 98, 99, 100]] := by decide +kernel
theorem ex_x : exD.x = 1 := by decide +kernel
theorem ex_y : exD.y = 1 := by decide +kernel
theorem exF_text : exF.text = [10, 10] := by decide +kernel
theorem ex_back : exD.back 1 = [97, 98, 99, 100] := by unfold Scr.back; rw [ex_kept]; decide

set_option maxRecDepth 100000 in
set_option maxHeartbeats 1600000 in
theorem awake_walk (w : World) :
    Calls Tryd.prog 10 #[] w (ValPost w (.bool true)) := by
  go_enter Tryd.func10, Tryd.ntmps10
  go_wp2_with fail
  refine (new_yes 4 2 9 _ (by decide) (by decide) (by decide) (by decide) (by decide)).mono ?_
  rintro e w1 ⟨v1, rfl, hck1, hb1⟩
  have HV1 := Lib.hid hck1
  obtain ⟨vc1, vk1, rfl, h11, h12, h13, h14⟩ := hck1
  have h15 := h11.1; have h16 := h12.1
  obtain ⟨-, A1, c1, rfl, -, -, -, -⟩ := h15
  obtain ⟨-, A2, c2, rfl, -, -, -, -⟩ := h16
  have HB1 := Lib.hid hb1
  clear h11 h12 h13 h14 hb1
  obtain ⟨S1, hS1⟩ : ∃ S : Scr, S = newScr 4 2 9 := ⟨_, rfl⟩
  rw [← hS1] at HV1 ⊢
  have HS1 := Lib.hid hS1
  clear hS1
  rw [Scr.vals_eq S1]
  go_wp2_with fail
  refine (write_walk (.agg (S1.vals (.slice A1 S1.grid.length c1) (.slice A2 S1.kept.length c2))) S1 ⟨#[97, 98, 99, 100, 101, 10, 102]⟩ _ (by exact (HV1.out.next ((Below.refl _ _).alloc (Nat.le_refl _) _)).cv) (by rw [HS1.out]; exact newScr_ok 4 2 9 (by decide) (by decide) (by decide) (by decide) (by decide)) (by decide)).mono ?_
  rintro e w2 ⟨v2, rfl, hck2, hb2⟩
  rw [show S1.bytes (ByteArray.mk #[97, 98, 99, 100, 101, 10, 102]).data.toList = exD from by rw [HS1.out]; rfl] at hck2
  have HV2 := Lib.hid hck2
  obtain ⟨vc2, vk2, rfl, h11, h12, h13, h14⟩ := hck2
  have h15 := h11.1; have h16 := h12.1
  obtain ⟨-, A3, c3, rfl, -, -, -, -⟩ := h15
  obtain ⟨-, A4, c4, rfl, -, -, -, -⟩ := h16
  have HB2 : Hid (Below w.heap.size w w2) := below_next (below_next HB1.out ((Below.refl _ _).alloc (Nat.le_refl _) _)) hb2
  clear h11 h12 h13 h14 hb2
  rw [Scr.vals_eq exD]
  go_wp2_with fail
  have HX3a : Hid ((w2.alloc (.cells (exD.vals (.slice A3 exD.grid.length c3) (.slice A4 exD.kept.length c4)) 29)).heap[w2.heap.size]? = some (.cells (exD.vals (.slice A3 exD.grid.length c3) (.slice A4 exD.kept.length c4)) 29 (0, 0))) := heap_alloc_new _ _
  have HV2a := Lib.hid (HV2.out.next ((Below.refl _ _).alloc (Nat.le_refl _) (.cells (exD.vals (.slice A3 exD.grid.length c3) (.slice A4 exD.kept.length c4)) 29)))
  have HB2a : Hid (Below w.heap.size w (w2.alloc (.cells (exD.vals (.slice A3 exD.grid.length c3) (.slice A4 exD.kept.length c4)) 29))) := below_next HB2.out ((Below.refl _ _).alloc (Nat.le_refl _) _)
  refine (cursor_any (.agg (exD.vals (.slice A3 exD.grid.length c3) (.slice A4 exD.kept.length c4))) exD _ HV2a.out.cv).mono ?_
  rintro e w3 ⟨rfl, hb3⟩
  have hx3 := (hb3.block _ (block_lt HX3a.out)).trans HX3a.out
  have HX3 := Lib.hid hx3
  have HV3 := Lib.hid (HV2a.out.next hb3)
  have HB3 : Hid (Below w.heap.size w w3) := below_next HB2a.out hb3
  have g0 : w3.cell? ⟨w2.heap.size, 0, none⟩ = some (.int .i64 exD.cols) := cell_of_row _ _ _ _ _ _ hx3
  have g1 : w3.cell? ⟨w2.heap.size, 1, none⟩ = some (.int .i64 exD.rows) := cell_of_row _ _ _ _ _ _ hx3
  have g2 : w3.cell? ⟨w2.heap.size, 2, none⟩ = some (.int .i64 exD.most) := cell_of_row _ _ _ _ _ _ hx3
  have g3 : w3.cell? ⟨w2.heap.size, 3, none⟩ = some (.int .i64 exD.x) := cell_of_row _ _ _ _ _ _ hx3
  have g4 : w3.cell? ⟨w2.heap.size, 4, none⟩ = some (.int .i64 exD.y) := cell_of_row _ _ _ _ _ _ hx3
  have g5 : w3.cell? ⟨w2.heap.size, 5, none⟩ = some (.slice A3 exD.grid.length c3) := cell_of_row _ _ _ _ _ _ hx3
  have g6 : w3.cell? ⟨w2.heap.size, 6, none⟩ = some (.slice A4 exD.kept.length c4) := cell_of_row _ _ _ _ _ _ hx3
  have g7 : w3.cell? ⟨w2.heap.size, 7, none⟩ = some (.int .i64 exD.st) := cell_of_row _ _ _ _ _ _ hx3
  have g8 : w3.cell? ⟨w2.heap.size, 8, none⟩ = some (.int .i64 exD.n0) := cell_of_row _ _ _ _ _ _ hx3
  have g9 : w3.cell? ⟨w2.heap.size, 9, none⟩ = some (.int .i64 exD.n1) := cell_of_row _ _ _ _ _ _ hx3
  have g10 : w3.cell? ⟨w2.heap.size, 10, none⟩ = some (.int .i64 exD.num) := cell_of_row _ _ _ _ _ _ hx3
  clear hx3 hb3 HX3a HV2a HB2a HV2
  rw [ex_x, ex_y, show ((1 : Nat) : Int) = 1 from rfl]
  go_wp2_with fail
  refine (write_walk (.agg (exD.vals (.slice A3 exD.grid.length c3) (.slice A4 exD.kept.length c4))) exD ⟨#[27, 91, 72, 27, 91, 50, 74]⟩ _ HV3.out.cv ex_ok (by decide)).mono ?_
  rintro e w4 ⟨v4, rfl, hck4, hb4⟩
  rw [show exD.bytes (ByteArray.mk #[27, 91, 72, 27, 91, 50, 74]).data.toList = exF from rfl] at hck4
  have HV4 := Lib.hid hck4
  obtain ⟨vc4, vk4, rfl, h11, h12, h13, h14⟩ := hck4
  have h15 := h11.1; have h16 := h12.1
  obtain ⟨-, A5, c5, rfl, -, -, -, -⟩ := h15
  obtain ⟨-, A6, c6, rfl, -, -, -, -⟩ := h16
  have hx34 := (hb4.block _ (block_lt HX3.out)).trans HX3.out
  have HX34 := Lib.hid hx34
  have HV34 := Lib.hid (HV3.out.next hb4)
  have HB4 : Hid (Below w.heap.size w w4) := below_next HB3.out hb4
  have lt34 : w2.heap.size < w4.heap.size := block_lt hx34
  clear h11 h12 h13 h14 g0 g1 g2 g3 g4 g5 g6 g7 g8 g9 g10
  have g0 : w4.cell? ⟨w2.heap.size, 0, none⟩ = some (.int .i64 exD.cols) := cell_of_row _ _ _ _ _ _ hx34
  have g1 : w4.cell? ⟨w2.heap.size, 1, none⟩ = some (.int .i64 exD.rows) := cell_of_row _ _ _ _ _ _ hx34
  have g2 : w4.cell? ⟨w2.heap.size, 2, none⟩ = some (.int .i64 exD.most) := cell_of_row _ _ _ _ _ _ hx34
  have g3 : w4.cell? ⟨w2.heap.size, 3, none⟩ = some (.int .i64 exD.x) := cell_of_row _ _ _ _ _ _ hx34
  have g4 : w4.cell? ⟨w2.heap.size, 4, none⟩ = some (.int .i64 exD.y) := cell_of_row _ _ _ _ _ _ hx34
  have g5 : w4.cell? ⟨w2.heap.size, 5, none⟩ = some (.slice A3 exD.grid.length c3) := cell_of_row _ _ _ _ _ _ hx34
  have g6 : w4.cell? ⟨w2.heap.size, 6, none⟩ = some (.slice A4 exD.kept.length c4) := cell_of_row _ _ _ _ _ _ hx34
  have g7 : w4.cell? ⟨w2.heap.size, 7, none⟩ = some (.int .i64 exD.st) := cell_of_row _ _ _ _ _ _ hx34
  have g8 : w4.cell? ⟨w2.heap.size, 8, none⟩ = some (.int .i64 exD.n0) := cell_of_row _ _ _ _ _ _ hx34
  have g9 : w4.cell? ⟨w2.heap.size, 9, none⟩ = some (.int .i64 exD.n1) := cell_of_row _ _ _ _ _ _ hx34
  have g10 : w4.cell? ⟨w2.heap.size, 10, none⟩ = some (.int .i64 exD.num) := cell_of_row _ _ _ _ _ _ hx34
  clear hx34 hb4 HX3 HV3 HB3
  rw [Scr.vals_eq exF]
  go_wp2_with fail
  obtain ⟨w5, hw5⟩ : ∃ w5, w5 = w4.alloc (.cells (exF.vals (.slice A5 exF.grid.length c5) (.slice A6 exF.kept.length c6)) 29) := ⟨_, rfl⟩
  have hb5 : Below w4.heap.size w4 w5 := by rw [hw5]; exact (Below.refl _ _).alloc (Nat.le_refl _) _
  have hx6 : w5.heap[w4.heap.size]? = some (.cells (exF.vals (.slice A5 exF.grid.length c5) (.slice A6 exF.kept.length c6)) 29 (0, 0)) := by rw [hw5]; exact heap_alloc_new _ _
  have hx3 := (hb5.block _ (block_lt HX34.out)).trans HX34.out
  have HX6 := Lib.hid hx6; have HX3 := Lib.hid hx3
  have HV6 := Lib.hid (HV4.out.next hb5)
  have HV3 := Lib.hid (HV34.out.next hb5)
  have HB5 : Hid (Below w.heap.size w w5) := below_next HB4.out hb5
  rw [Scr.vals_eq exF] at hw5
  rw [← hw5]
  clear g0 g1 g2 g3 g4 g5 g6 g7 g8 g9 g10 hw5 hb5 hx6 hx3 HX34 HV34 HV4 HB4 lt34
  refine (text_walk (.agg (exD.vals (.slice A3 exD.grid.length c3) (.slice A4 exD.kept.length c4))) exD _ HV3.out.cv ex_ok).mono ?_
  rintro e w6 ⟨rfl, hbn⟩
  have hx3 := (hbn.block _ (block_lt HX3.out)).trans HX3.out
  have hx6 := (hbn.block _ (block_lt HX6.out)).trans HX6.out
  have HV3' := Lib.hid (HV3.out.next hbn); have HV6' := Lib.hid (HV6.out.next hbn)
  have HB6 : Hid (Below w.heap.size w w6) := below_next HB5.out hbn
  clear HV3 HV6 HX3 HX6
  have HV3 := HV3'; have HV6 := HV6'; have HX3 := Lib.hid hx3; have HX6 := Lib.hid hx6
  clear HV3' HV6'
  have g0 : w6.cell? ⟨w2.heap.size, 0, none⟩ = some (.int .i64 exD.cols) := cell_of_row _ _ _ _ _ _ hx3
  have g1 : w6.cell? ⟨w2.heap.size, 1, none⟩ = some (.int .i64 exD.rows) := cell_of_row _ _ _ _ _ _ hx3
  have g2 : w6.cell? ⟨w2.heap.size, 2, none⟩ = some (.int .i64 exD.most) := cell_of_row _ _ _ _ _ _ hx3
  have g3 : w6.cell? ⟨w2.heap.size, 3, none⟩ = some (.int .i64 exD.x) := cell_of_row _ _ _ _ _ _ hx3
  have g4 : w6.cell? ⟨w2.heap.size, 4, none⟩ = some (.int .i64 exD.y) := cell_of_row _ _ _ _ _ _ hx3
  have g5 : w6.cell? ⟨w2.heap.size, 5, none⟩ = some (.slice A3 exD.grid.length c3) := cell_of_row _ _ _ _ _ _ hx3
  have g6 : w6.cell? ⟨w2.heap.size, 6, none⟩ = some (.slice A4 exD.kept.length c4) := cell_of_row _ _ _ _ _ _ hx3
  have g7 : w6.cell? ⟨w2.heap.size, 7, none⟩ = some (.int .i64 exD.st) := cell_of_row _ _ _ _ _ _ hx3
  have g8 : w6.cell? ⟨w2.heap.size, 8, none⟩ = some (.int .i64 exD.n0) := cell_of_row _ _ _ _ _ _ hx3
  have g9 : w6.cell? ⟨w2.heap.size, 9, none⟩ = some (.int .i64 exD.n1) := cell_of_row _ _ _ _ _ _ hx3
  have g10 : w6.cell? ⟨w2.heap.size, 10, none⟩ = some (.int .i64 exD.num) := cell_of_row _ _ _ _ _ _ hx3
  have q0 : w6.cell? ⟨w4.heap.size, 0, none⟩ = some (.int .i64 exF.cols) := cell_of_row _ _ _ _ _ _ hx6
  have q1 : w6.cell? ⟨w4.heap.size, 1, none⟩ = some (.int .i64 exF.rows) := cell_of_row _ _ _ _ _ _ hx6
  have q2 : w6.cell? ⟨w4.heap.size, 2, none⟩ = some (.int .i64 exF.most) := cell_of_row _ _ _ _ _ _ hx6
  have q3 : w6.cell? ⟨w4.heap.size, 3, none⟩ = some (.int .i64 exF.x) := cell_of_row _ _ _ _ _ _ hx6
  have q4 : w6.cell? ⟨w4.heap.size, 4, none⟩ = some (.int .i64 exF.y) := cell_of_row _ _ _ _ _ _ hx6
  have q5 : w6.cell? ⟨w4.heap.size, 5, none⟩ = some (.slice A5 exF.grid.length c5) := cell_of_row _ _ _ _ _ _ hx6
  have q6 : w6.cell? ⟨w4.heap.size, 6, none⟩ = some (.slice A6 exF.kept.length c6) := cell_of_row _ _ _ _ _ _ hx6
  have q7 : w6.cell? ⟨w4.heap.size, 7, none⟩ = some (.int .i64 exF.st) := cell_of_row _ _ _ _ _ _ hx6
  have q8 : w6.cell? ⟨w4.heap.size, 8, none⟩ = some (.int .i64 exF.n0) := cell_of_row _ _ _ _ _ _ hx6
  have q9 : w6.cell? ⟨w4.heap.size, 9, none⟩ = some (.int .i64 exF.n1) := cell_of_row _ _ _ _ _ _ hx6
  have q10 : w6.cell? ⟨w4.heap.size, 10, none⟩ = some (.int .i64 exF.num) := cell_of_row _ _ _ _ _ _ hx6
  clear hx3 hx6 hbn HB5
  rw [show strV exD.text = .string ⟨#[101, 10, 102, 10]⟩ from by rw [ex_text]; rfl]
  go_wp2_with fail
  clear g0 g1 g2 g3 g4 g5 g6 g7 g8 g9 g10 q0 q1 q2 q3 q4 q5 q6 q7 q8 q9 q10
  refine (kept_any (.agg (exD.vals (.slice A3 exD.grid.length c3) (.slice A4 exD.kept.length c4))) exD _ HV3.out.cv).mono ?_
  rintro e w7 ⟨rfl, hbn⟩
  have hx3 := (hbn.block _ (block_lt HX3.out)).trans HX3.out
  have hx6 := (hbn.block _ (block_lt HX6.out)).trans HX6.out
  have HV3' := Lib.hid (HV3.out.next hbn); have HV6' := Lib.hid (HV6.out.next hbn)
  have HB7 : Hid (Below w.heap.size w w7) := below_next HB6.out hbn
  clear HV3 HV6 HX3 HX6
  have HV3 := HV3'; have HV6 := HV6'; have HX3 := Lib.hid hx3; have HX6 := Lib.hid hx6
  clear HV3' HV6'
  have g0 : w7.cell? ⟨w2.heap.size, 0, none⟩ = some (.int .i64 exD.cols) := cell_of_row _ _ _ _ _ _ hx3
  have g1 : w7.cell? ⟨w2.heap.size, 1, none⟩ = some (.int .i64 exD.rows) := cell_of_row _ _ _ _ _ _ hx3
  have g2 : w7.cell? ⟨w2.heap.size, 2, none⟩ = some (.int .i64 exD.most) := cell_of_row _ _ _ _ _ _ hx3
  have g3 : w7.cell? ⟨w2.heap.size, 3, none⟩ = some (.int .i64 exD.x) := cell_of_row _ _ _ _ _ _ hx3
  have g4 : w7.cell? ⟨w2.heap.size, 4, none⟩ = some (.int .i64 exD.y) := cell_of_row _ _ _ _ _ _ hx3
  have g5 : w7.cell? ⟨w2.heap.size, 5, none⟩ = some (.slice A3 exD.grid.length c3) := cell_of_row _ _ _ _ _ _ hx3
  have g6 : w7.cell? ⟨w2.heap.size, 6, none⟩ = some (.slice A4 exD.kept.length c4) := cell_of_row _ _ _ _ _ _ hx3
  have g7 : w7.cell? ⟨w2.heap.size, 7, none⟩ = some (.int .i64 exD.st) := cell_of_row _ _ _ _ _ _ hx3
  have g8 : w7.cell? ⟨w2.heap.size, 8, none⟩ = some (.int .i64 exD.n0) := cell_of_row _ _ _ _ _ _ hx3
  have g9 : w7.cell? ⟨w2.heap.size, 9, none⟩ = some (.int .i64 exD.n1) := cell_of_row _ _ _ _ _ _ hx3
  have g10 : w7.cell? ⟨w2.heap.size, 10, none⟩ = some (.int .i64 exD.num) := cell_of_row _ _ _ _ _ _ hx3
  have q0 : w7.cell? ⟨w4.heap.size, 0, none⟩ = some (.int .i64 exF.cols) := cell_of_row _ _ _ _ _ _ hx6
  have q1 : w7.cell? ⟨w4.heap.size, 1, none⟩ = some (.int .i64 exF.rows) := cell_of_row _ _ _ _ _ _ hx6
  have q2 : w7.cell? ⟨w4.heap.size, 2, none⟩ = some (.int .i64 exF.most) := cell_of_row _ _ _ _ _ _ hx6
  have q3 : w7.cell? ⟨w4.heap.size, 3, none⟩ = some (.int .i64 exF.x) := cell_of_row _ _ _ _ _ _ hx6
  have q4 : w7.cell? ⟨w4.heap.size, 4, none⟩ = some (.int .i64 exF.y) := cell_of_row _ _ _ _ _ _ hx6
  have q5 : w7.cell? ⟨w4.heap.size, 5, none⟩ = some (.slice A5 exF.grid.length c5) := cell_of_row _ _ _ _ _ _ hx6
  have q6 : w7.cell? ⟨w4.heap.size, 6, none⟩ = some (.slice A6 exF.kept.length c6) := cell_of_row _ _ _ _ _ _ hx6
  have q7 : w7.cell? ⟨w4.heap.size, 7, none⟩ = some (.int .i64 exF.st) := cell_of_row _ _ _ _ _ _ hx6
  have q8 : w7.cell? ⟨w4.heap.size, 8, none⟩ = some (.int .i64 exF.n0) := cell_of_row _ _ _ _ _ _ hx6
  have q9 : w7.cell? ⟨w4.heap.size, 9, none⟩ = some (.int .i64 exF.n1) := cell_of_row _ _ _ _ _ _ hx6
  have q10 : w7.cell? ⟨w4.heap.size, 10, none⟩ = some (.int .i64 exF.num) := cell_of_row _ _ _ _ _ _ hx6
  clear hx3 hx6 hbn HB6
  rw [show ((exD.kept.length : Nat) : Int) = 1 from by rw [ex_kept]; rfl]
  go_wp2_with fail
  clear g0 g1 g2 g3 g4 g5 g6 g7 g8 g9 g10 q0 q1 q2 q3 q4 q5 q6 q7 q8 q9 q10
  refine (back_any (.agg (exD.vals (.slice A3 exD.grid.length c3) (.slice A4 exD.kept.length c4))) exD 1 _ HV3.out.cv (by rw [ex_kept]; decide)).mono ?_
  rintro e w8 ⟨rfl, hbn⟩
  have hx3 := (hbn.block _ (block_lt HX3.out)).trans HX3.out
  have hx6 := (hbn.block _ (block_lt HX6.out)).trans HX6.out
  have HV3' := Lib.hid (HV3.out.next hbn); have HV6' := Lib.hid (HV6.out.next hbn)
  have HB8 : Hid (Below w.heap.size w w8) := below_next HB7.out hbn
  clear HV3 HV6 HX3 HX6
  have HV3 := HV3'; have HV6 := HV6'; have HX3 := Lib.hid hx3; have HX6 := Lib.hid hx6
  clear HV3' HV6'
  have g0 : w8.cell? ⟨w2.heap.size, 0, none⟩ = some (.int .i64 exD.cols) := cell_of_row _ _ _ _ _ _ hx3
  have g1 : w8.cell? ⟨w2.heap.size, 1, none⟩ = some (.int .i64 exD.rows) := cell_of_row _ _ _ _ _ _ hx3
  have g2 : w8.cell? ⟨w2.heap.size, 2, none⟩ = some (.int .i64 exD.most) := cell_of_row _ _ _ _ _ _ hx3
  have g3 : w8.cell? ⟨w2.heap.size, 3, none⟩ = some (.int .i64 exD.x) := cell_of_row _ _ _ _ _ _ hx3
  have g4 : w8.cell? ⟨w2.heap.size, 4, none⟩ = some (.int .i64 exD.y) := cell_of_row _ _ _ _ _ _ hx3
  have g5 : w8.cell? ⟨w2.heap.size, 5, none⟩ = some (.slice A3 exD.grid.length c3) := cell_of_row _ _ _ _ _ _ hx3
  have g6 : w8.cell? ⟨w2.heap.size, 6, none⟩ = some (.slice A4 exD.kept.length c4) := cell_of_row _ _ _ _ _ _ hx3
  have g7 : w8.cell? ⟨w2.heap.size, 7, none⟩ = some (.int .i64 exD.st) := cell_of_row _ _ _ _ _ _ hx3
  have g8 : w8.cell? ⟨w2.heap.size, 8, none⟩ = some (.int .i64 exD.n0) := cell_of_row _ _ _ _ _ _ hx3
  have g9 : w8.cell? ⟨w2.heap.size, 9, none⟩ = some (.int .i64 exD.n1) := cell_of_row _ _ _ _ _ _ hx3
  have g10 : w8.cell? ⟨w2.heap.size, 10, none⟩ = some (.int .i64 exD.num) := cell_of_row _ _ _ _ _ _ hx3
  have q0 : w8.cell? ⟨w4.heap.size, 0, none⟩ = some (.int .i64 exF.cols) := cell_of_row _ _ _ _ _ _ hx6
  have q1 : w8.cell? ⟨w4.heap.size, 1, none⟩ = some (.int .i64 exF.rows) := cell_of_row _ _ _ _ _ _ hx6
  have q2 : w8.cell? ⟨w4.heap.size, 2, none⟩ = some (.int .i64 exF.most) := cell_of_row _ _ _ _ _ _ hx6
  have q3 : w8.cell? ⟨w4.heap.size, 3, none⟩ = some (.int .i64 exF.x) := cell_of_row _ _ _ _ _ _ hx6
  have q4 : w8.cell? ⟨w4.heap.size, 4, none⟩ = some (.int .i64 exF.y) := cell_of_row _ _ _ _ _ _ hx6
  have q5 : w8.cell? ⟨w4.heap.size, 5, none⟩ = some (.slice A5 exF.grid.length c5) := cell_of_row _ _ _ _ _ _ hx6
  have q6 : w8.cell? ⟨w4.heap.size, 6, none⟩ = some (.slice A6 exF.kept.length c6) := cell_of_row _ _ _ _ _ _ hx6
  have q7 : w8.cell? ⟨w4.heap.size, 7, none⟩ = some (.int .i64 exF.st) := cell_of_row _ _ _ _ _ _ hx6
  have q8 : w8.cell? ⟨w4.heap.size, 8, none⟩ = some (.int .i64 exF.n0) := cell_of_row _ _ _ _ _ _ hx6
  have q9 : w8.cell? ⟨w4.heap.size, 9, none⟩ = some (.int .i64 exF.n1) := cell_of_row _ _ _ _ _ _ hx6
  have q10 : w8.cell? ⟨w4.heap.size, 10, none⟩ = some (.int .i64 exF.num) := cell_of_row _ _ _ _ _ _ hx6
  clear hx3 hx6 hbn HB7
  rw [show strV (exD.back 1) = .string ⟨#[97, 98, 99, 100]⟩ from by rw [ex_back]; rfl]
  go_wp2_with fail
  clear g0 g1 g2 g3 g4 g5 g6 g7 g8 g9 g10 q0 q1 q2 q3 q4 q5 q6 q7 q8 q9 q10
  refine (text_walk (.agg (exF.vals (.slice A5 exF.grid.length c5) (.slice A6 exF.kept.length c6))) exF _ HV6.out.cv exF_ok).mono ?_
  rintro e w9 ⟨rfl, hbn⟩
  have HB9 : Hid (Below w.heap.size w w9) := below_next HB8.out hbn
  rw [show strV exF.text = .string ⟨#[10, 10]⟩ from by rw [exF_text]; rfl]
  clear hbn
  go_wp2_with fail
  go_ret
  exact ⟨rfl, HB9.out⟩
end Go.Proofs.YtiefpodmdpnppaaDoor
