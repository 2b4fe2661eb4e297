/-
  WALK of the law CellsBack.
-/
import Derived.Test.YtiefpodmdpnppaaDoorLwC
import Derived.Test.YtiefpodmdpnppaaDoorPlA
namespace Go.Proofs.YtiefpodmdpnppaaDoor
open Go.RowKit
attribute [local go_sem ↓] Go.wp_at_zero Go.wp_at_succ

/-- an open screen value -/
theorem CK.form {w : World} {v : Value} {S : Scr} (h : CK w v S) : ∃ A1 k1 A2 k2, v = .agg (S.vals (.slice A1 S.grid.length k1) (.slice A2 S.kept.length k2)) := by
  obtain ⟨vc, vk, rfl, h1, h2, -, -⟩ := h
  obtain ⟨-, A1, k1, rfl, -⟩ := h1.1
  obtain ⟨-, A2, k2, rfl, -⟩ := h2.1
  exact ⟨A1, k1, A2, k2, rfl⟩

theorem keep_size (S : Scr) (l : List UInt8) : (S.keep l).cols = S.cols ∧ (S.keep l).rows = S.rows := by unfold Scr.keep; split; exact ⟨rfl, rfl⟩; split <;> exact ⟨rfl, rfl⟩
theorem scroll_size (S : Scr) : S.scroll.cols = S.cols ∧ S.scroll.rows = S.rows := ⟨Scr.scroll_cols S, Scr.scroll_rows S⟩
theorem lineEnd_size (S : Scr) : S.lineEnd.cols = S.cols ∧ S.lineEnd.rows = S.rows := by unfold Scr.lineEnd; split; exact ⟨rfl, rfl⟩; exact scroll_size _
theorem blank_size (S : Scr) (n f t : Nat) : (S.blank n f t).cols = S.cols ∧ (S.blank n f t).rows = S.rows := by unfold Scr.blank Scr.clear; repeat (first | exact ⟨rfl, rfl⟩ | split)
theorem letter_size (S : Scr) (v : UInt8) : (S.letter v).cols = S.cols ∧ (S.letter v).rows = S.rows := by unfold Scr.letter Scr.put; split; exact lineEnd_size S; exact ⟨rfl, rfl⟩
theorem plain_size (S : Scr) (v : UInt8) : (S.plain v).cols = S.cols ∧ (S.plain v).rows = S.rows := by
  unfold Scr.plain Scr.clear
  repeat (first | exact ⟨rfl, rfl⟩ | exact letter_size S v | exact lineEnd_size S | split)
theorem cmd_size (S : Scr) (k n m : Nat) : (S.cmd k n m).cols = S.cols ∧ (S.cmd k n m).rows = S.rows := by
  unfold Scr.cmd
  repeat (first | exact ⟨rfl, rfl⟩ | exact blank_size _ _ _ _ | split)
theorem told_size (S : Scr) (v : Nat) : (S.told v).cols = S.cols ∧ (S.told v).rows = S.rows := by
  unfold Scr.told
  repeat (first | exact ⟨rfl, rfl⟩ | exact cmd_size _ _ _ _ | split)
theorem byte_size (S : Scr) (v : UInt8) : (S.byte v).cols = S.cols ∧ (S.byte v).rows = S.rows := by
  unfold Scr.byte
  repeat (first | exact ⟨rfl, rfl⟩ | exact told_size _ _ | exact plain_size _ _ | split)
theorem bytes_size (S : Scr) (l : List UInt8) : (S.bytes l).cols = S.cols ∧ (S.bytes l).rows = S.rows := by
  induction l generalizing S with
  | nil => exact ⟨rfl, rfl⟩
  | cons c l ih => exact ⟨(ih (S.byte c)).1.trans (byte_size S c).1, (ih (S.byte c)).2.trans (byte_size S c).2⟩

set_option maxRecDepth 100000 in
set_option maxHeartbeats 1600000 in
theorem back_big (a b k p q : Nat) (s : ByteArray) (w : World) (hs : 500 < s.size) (hs2 : s.size ≤ 9223372036854775807) :
    Calls Tryd.prog 9 #[.agg #[.int .u8 a, .int .u8 b, .int .u8 k], .string s, .agg #[.int .u8 p, .int .u8 q]] w (ValPost w (.bool true)) := by
  have hd : decide ((s.size : Int) > 500) = true := by simp; omega
  go_enter Tryd.func9, Tryd.ntmps9
  go_wp2_with fail
  refine (awake_walk _).mono ?_
  rintro e w1 ⟨rfl, hb1⟩
  have HB1 : Hid (Below w.heap.size w w1) := below_next (below_alloc2 _ _ _) hb1
  clear hb1
  go_wp2_with fail
  go_ret
  exact ⟨rfl, HB1.out⟩

set_option maxRecDepth 100000 in
set_option maxHeartbeats 1600000 in
theorem back_walk (a b k p q : Nat) (s : ByteArray) (w : World) (ha : a < 256) (hb : b < 256) (hk : k < 256) (hp : p < 256) (hq : q < 256) (hs : s.size ≤ 500) :
    Calls Tryd.prog 9 #[.agg #[.int .u8 a, .int .u8 b, .int .u8 k], .string s, .agg #[.int .u8 p, .int .u8 q]] w (ValPost w (.bool true)) := by
  have hd : decide ((s.size : Int) > 500) = false := by simp; omega
  go_enter Tryd.func9, Tryd.ntmps9
  go_wp2_with fail
  refine (made_walk a b k _ ha hb hk).mono ?_
  rintro e w1 ⟨v1, u1, rfl, hck, hrv, hb1⟩
  have hok := newScr_ok (1 + a % 20) (1 + b % 8) (k % 12) (by omega) (by omega) (by omega) (by omega) (by omega)
  obtain ⟨S, hS⟩ : ∃ S : Scr, S = newScr (1 + a % 20) (1 + b % 8) (k % 12) := ⟨_, rfl⟩
  have hSc : S.cols ≤ 20 := by rw [hS]; show 1 + a % 20 ≤ 20; omega
  have hSr : S.rows ≤ 8 := by rw [hS]; show 1 + b % 8 ≤ 8; omega
  obtain ⟨M, hM⟩ : ∃ M : Ref, M = newRef (1 + a % 20) (1 + b % 8) (k % 12) := ⟨_, rfl⟩
  rw [← hS] at hck hok
  rw [← hM] at hrv
  have HM : Hid (w1.heap[w.heap.size + 1]? = some (.cells #[.int .u8 p, .int .u8 q] 55 (0, 0))) := (hb1.block _ (by simp)).trans (alloc2_snd _ _ _)
  have HV1 := Lib.hid hck; have HO := Lib.hid hok
  have HB1 : Hid (Below w.heap.size w w1) := below_next (below_alloc2 _ _ _) hb1
  obtain ⟨A1, k1, A2, k2, rfl⟩ := hck.form
  obtain ⟨vr, vk', rfl, h21, h22⟩ := hrv
  have h25 := h21.1; have h26 := h22.1
  obtain ⟨-, A3, k3, rfl, -, -, -, -⟩ := h25
  obtain ⟨-, A4, k4, rfl, -, -, -, -⟩ := h26
  clear hck h21 h22 hok hb1 hS hM
  rw [Scr.vals_eq S, Ref.vals_eq M]
  go_upto_region 6 with fail
  obtain ⟨w2, hw2⟩ : ∃ w2, w2 = (w1.alloc (.cells (S.vals (.slice A1 S.grid.length k1) (.slice A2 S.kept.length k2)) 29)).alloc (.cells (M.vals (.slice A3 M.rows.length k3) (.slice A4 M.kept.length k4)) 31) := ⟨_, rfl⟩
  have hb12 : Below w1.heap.size w1 w2 := by rw [hw2]; exact below_alloc2 _ _ _
  have hx2 : w2.heap[w1.heap.size]? = some (.cells (S.vals (.slice A1 S.grid.length k1) (.slice A2 S.kept.length k2)) 29 (0, 0)) := by rw [hw2]; exact alloc2_fst _ _ _
  have HX2 := Lib.hid hx2
  have HV2 := Lib.hid (HV1.out.next hb12)
  have HM2 := Lib.hid ((hb12.block _ (block_lt HM.out)).trans HM.out)
  have HB2 : Hid (Below w.heap.size w w2) := below_next HB1.out hb12
  rw [Scr.vals_eq S, Ref.vals_eq M] at hw2
  rw [← hw2]
  obtain ⟨b7, hb7⟩ : ∃ b7, b7 = w1.heap.size := ⟨_, rfl⟩
  have hcap : w.heap.size + 1 < b7 := by rw [hb7]; have := block_lt HM.out; omega
  rw [← hb7] at HX2 hx2 ⊢
  have g0 : w2.cell? ⟨b7, 0, none⟩ = some (.int .i64 S.cols) := cell_of_row _ _ _ _ _ _ hx2
  have g1 : w2.cell? ⟨b7, 1, none⟩ = some (.int .i64 S.rows) := cell_of_row _ _ _ _ _ _ hx2
  have g2 : w2.cell? ⟨b7, 2, none⟩ = some (.int .i64 S.most) := cell_of_row _ _ _ _ _ _ hx2
  have g3 : w2.cell? ⟨b7, 3, none⟩ = some (.int .i64 S.x) := cell_of_row _ _ _ _ _ _ hx2
  have g4 : w2.cell? ⟨b7, 4, none⟩ = some (.int .i64 S.y) := cell_of_row _ _ _ _ _ _ hx2
  have g5 : w2.cell? ⟨b7, 5, none⟩ = some (.slice A1 S.grid.length k1) := cell_of_row _ _ _ _ _ _ hx2
  have g6 : w2.cell? ⟨b7, 6, none⟩ = some (.slice A2 S.kept.length k2) := cell_of_row _ _ _ _ _ _ hx2
  have g7 : w2.cell? ⟨b7, 7, none⟩ = some (.int .i64 S.st) := cell_of_row _ _ _ _ _ _ hx2
  have g8 : w2.cell? ⟨b7, 8, none⟩ = some (.int .i64 S.n0) := cell_of_row _ _ _ _ _ _ hx2
  have g9 : w2.cell? ⟨b7, 9, none⟩ = some (.int .i64 S.n1) := cell_of_row _ _ _ _ _ _ hx2
  have g10 : w2.cell? ⟨b7, 10, none⟩ = some (.int .i64 S.num) := cell_of_row _ _ _ _ _ _ hx2
  clear hw2 hb12 HV1 HM HB1 hb7 hx2
  generalize Value.agg #[.int .i64 M.w, .int .i64 M.h, .int .i64 M.most, .slice A3 M.rows.length k3, .slice A4 M.kept.length k4, .int .i64 M.x, .int .i64 M.y, .int .i64 M.begun, .string (bs M.args)] = z2
  go_wp2_with fail
  refine (write_walk (.agg (S.vals (.slice A1 S.grid.length k1) (.slice A2 S.kept.length k2))) S s _ (by exact HV2.out.cv) HO.out (by omega)).mono ?_
  rintro e w3 ⟨v3, rfl, hck3, hb3⟩
  obtain ⟨T, hT⟩ : ∃ T : Scr, T = S.bytes s.data.toList := ⟨_, rfl⟩
  rw [← hT] at hck3
  have hokT : T.Ok := by rw [hT]; exact HO.out.bytes _
  have hTc : T.cols ≤ 20 := by rw [hT, (bytes_size S _).1]; exact hSc
  have hTr : T.rows ≤ 8 := by rw [hT, (bytes_size S _).2]; exact hSr
  have HOT := Lib.hid hokT
  have HV3 := Lib.hid hck3
  obtain ⟨A5, k5, A6, k6, rfl⟩ := hck3.form
  have hx3 := (hb3.block _ (block_lt HX2.out)).trans HX2.out
  have HX3 := Lib.hid hx3
  have HM3 := Lib.hid ((hb3.block _ (block_lt HM2.out)).trans HM2.out)
  have HB3 : Hid (Below w.heap.size w w3) := below_next HB2.out hb3
  clear g0 g1 g2 g3 g4 g5 g6 g7 g8 g9 g10
  have g0 : w3.cell? ⟨b7, 0, none⟩ = some (.int .i64 S.cols) := cell_of_row _ _ _ _ _ _ hx3
  have g1 : w3.cell? ⟨b7, 1, none⟩ = some (.int .i64 S.rows) := cell_of_row _ _ _ _ _ _ hx3
  have g2 : w3.cell? ⟨b7, 2, none⟩ = some (.int .i64 S.most) := cell_of_row _ _ _ _ _ _ hx3
  have g3 : w3.cell? ⟨b7, 3, none⟩ = some (.int .i64 S.x) := cell_of_row _ _ _ _ _ _ hx3
  have g4 : w3.cell? ⟨b7, 4, none⟩ = some (.int .i64 S.y) := cell_of_row _ _ _ _ _ _ hx3
  have g5 : w3.cell? ⟨b7, 5, none⟩ = some (.slice A1 S.grid.length k1) := cell_of_row _ _ _ _ _ _ hx3
  have g6 : w3.cell? ⟨b7, 6, none⟩ = some (.slice A2 S.kept.length k2) := cell_of_row _ _ _ _ _ _ hx3
  have g7 : w3.cell? ⟨b7, 7, none⟩ = some (.int .i64 S.st) := cell_of_row _ _ _ _ _ _ hx3
  have g8 : w3.cell? ⟨b7, 8, none⟩ = some (.int .i64 S.n0) := cell_of_row _ _ _ _ _ _ hx3
  have g9 : w3.cell? ⟨b7, 9, none⟩ = some (.int .i64 S.n1) := cell_of_row _ _ _ _ _ _ hx3
  have g10 : w3.cell? ⟨b7, 10, none⟩ = some (.int .i64 S.num) := cell_of_row _ _ _ _ _ _ hx3
  have fu0 : w3.frozen? ⟨b7, 0, none⟩ = false := frozen_of_row _ _ _ _ _ hx3
  have fu1 : w3.frozen? ⟨b7, 1, none⟩ = false := frozen_of_row _ _ _ _ _ hx3
  have fu2 : w3.frozen? ⟨b7, 2, none⟩ = false := frozen_of_row _ _ _ _ _ hx3
  have fu3 : w3.frozen? ⟨b7, 3, none⟩ = false := frozen_of_row _ _ _ _ _ hx3
  have fu4 : w3.frozen? ⟨b7, 4, none⟩ = false := frozen_of_row _ _ _ _ _ hx3
  have fu5 : w3.frozen? ⟨b7, 5, none⟩ = false := frozen_of_row _ _ _ _ _ hx3
  have fu6 : w3.frozen? ⟨b7, 6, none⟩ = false := frozen_of_row _ _ _ _ _ hx3
  have fu7 : w3.frozen? ⟨b7, 7, none⟩ = false := frozen_of_row _ _ _ _ _ hx3
  have fu8 : w3.frozen? ⟨b7, 8, none⟩ = false := frozen_of_row _ _ _ _ _ hx3
  have fu9 : w3.frozen? ⟨b7, 9, none⟩ = false := frozen_of_row _ _ _ _ _ hx3
  have fu10 : w3.frozen? ⟨b7, 10, none⟩ = false := frozen_of_row _ _ _ _ _ hx3
  have hs3 : b7 < w3.heap.size := block_lt hx3
  have hTc1 := hokT.c1; have hTr1 := hokT.r1
  clear hck3 hb3 HX2 HV2 HM2 HB2 hx3 hT hokT
  rw [Scr.vals_eq T]
  go_upto_region 7 with fail
  change Code.wp _ _ _ _ (w3.setCells b7 0 (T.vals (.slice A5 T.grid.length k5) (.slice A6 T.kept.length k6)).toList)
  obtain ⟨w4, hw4⟩ : ∃ w4, w4 = w3.setCells b7 0 (T.vals (.slice A5 T.grid.length k5) (.slice A6 T.kept.length k6)).toList := ⟨_, rfl⟩
  have hx4 : w4.heap[b7]? = some (.cells (T.vals (.slice A5 T.grid.length k5) (.slice A6 T.kept.length k6)) 29 (0, 0)) := by rw [hw4]; exact scr_over HX3.out _ _ _
  have HX4 := Lib.hid hx4
  have HV4 : Hid (CK w4 (.agg (T.vals (.slice A5 T.grid.length k5) (.slice A6 T.kept.length k6))) T) := by rw [hw4]; exact HV3.out.ne HX3.out (by decide) (by decide) (grown_setCells w3 b7 0 _)
  have hm4 : w4.heap[w.heap.size + 1]? = some (.cells #[.int .u8 p, .int .u8 q] 55 (0, 0)) := by rw [hw4]; exact ((grown_setCells w3 b7 0 _).block _ (block_lt HM3.out) (fun he => by injection he with he; omega)).trans HM3.out
  have HM4 := Lib.hid hm4
  have HB4 : Hid (Below w.heap.size w w4) := by rw [hw4]; exact below_cells HB3.out _ _ _ (by omega) (by have := HB3.out.size; omega)
  rw [← hw4]
  clear g0 g1 g2 g3 g4 g5 g6 g7 g8 g9 g10
  clear hw4 HX3 HV3 HM3 HB3 fu0 fu1 fu2 fu3 fu4 fu5 fu6 fu7 fu8 fu9 fu10 hs3
  have g0 : w4.cell? ⟨b7, 0, none⟩ = some (.int .i64 T.cols) := cell_of_row _ _ _ _ _ _ hx4
  have g1 : w4.cell? ⟨b7, 1, none⟩ = some (.int .i64 T.rows) := cell_of_row _ _ _ _ _ _ hx4
  have g2 : w4.cell? ⟨b7, 2, none⟩ = some (.int .i64 T.most) := cell_of_row _ _ _ _ _ _ hx4
  have g3 : w4.cell? ⟨b7, 3, none⟩ = some (.int .i64 T.x) := cell_of_row _ _ _ _ _ _ hx4
  have g4 : w4.cell? ⟨b7, 4, none⟩ = some (.int .i64 T.y) := cell_of_row _ _ _ _ _ _ hx4
  have g5 : w4.cell? ⟨b7, 5, none⟩ = some (.slice A5 T.grid.length k5) := cell_of_row _ _ _ _ _ _ hx4
  have g6 : w4.cell? ⟨b7, 6, none⟩ = some (.slice A6 T.kept.length k6) := cell_of_row _ _ _ _ _ _ hx4
  have g7 : w4.cell? ⟨b7, 7, none⟩ = some (.int .i64 T.st) := cell_of_row _ _ _ _ _ _ hx4
  have g8 : w4.cell? ⟨b7, 8, none⟩ = some (.int .i64 T.n0) := cell_of_row _ _ _ _ _ _ hx4
  have g9 : w4.cell? ⟨b7, 9, none⟩ = some (.int .i64 T.n1) := cell_of_row _ _ _ _ _ _ hx4
  have g10 : w4.cell? ⟨b7, 10, none⟩ = some (.int .i64 T.num) := cell_of_row _ _ _ _ _ _ hx4
  clear hx4 hm4
  go_wp2_with fail
  refine (size_any (.agg (T.vals (.slice A5 T.grid.length k5) (.slice A6 T.kept.length k6))) T _ (by exact HV4.out.cv)).mono ?_
  rintro e w5 ⟨rfl, hb5⟩
  have hx5 := (hb5.block _ (block_lt HX4.out)).trans HX4.out
  have HX5 := Lib.hid hx5
  have HV5 := Lib.hid (HV4.out.next hb5)
  have hm5 := (hb5.block _ (block_lt HM4.out)).trans HM4.out
  have HB5 : Hid (Below w.heap.size w w5) := below_next HB4.out hb5
  clear g0 g1 g2 g3 g4 g5 g6 g7 g8 g9 g10
  have g0 : w5.cell? ⟨b7, 0, none⟩ = some (.int .i64 T.cols) := cell_of_row _ _ _ _ _ _ hx5
  have g1 : w5.cell? ⟨b7, 1, none⟩ = some (.int .i64 T.rows) := cell_of_row _ _ _ _ _ _ hx5
  have g2 : w5.cell? ⟨b7, 2, none⟩ = some (.int .i64 T.most) := cell_of_row _ _ _ _ _ _ hx5
  have g3 : w5.cell? ⟨b7, 3, none⟩ = some (.int .i64 T.x) := cell_of_row _ _ _ _ _ _ hx5
  have g4 : w5.cell? ⟨b7, 4, none⟩ = some (.int .i64 T.y) := cell_of_row _ _ _ _ _ _ hx5
  have g5 : w5.cell? ⟨b7, 5, none⟩ = some (.slice A5 T.grid.length k5) := cell_of_row _ _ _ _ _ _ hx5
  have g6 : w5.cell? ⟨b7, 6, none⟩ = some (.slice A6 T.kept.length k6) := cell_of_row _ _ _ _ _ _ hx5
  have g7 : w5.cell? ⟨b7, 7, none⟩ = some (.int .i64 T.st) := cell_of_row _ _ _ _ _ _ hx5
  have g8 : w5.cell? ⟨b7, 8, none⟩ = some (.int .i64 T.n0) := cell_of_row _ _ _ _ _ _ hx5
  have g9 : w5.cell? ⟨b7, 9, none⟩ = some (.int .i64 T.n1) := cell_of_row _ _ _ _ _ _ hx5
  have g10 : w5.cell? ⟨b7, 10, none⟩ = some (.int .i64 T.num) := cell_of_row _ _ _ _ _ _ hx5
  have m0 : w5.cell? ⟨w.heap.size + 1, 0, none⟩ = some (.int .u8 p) := cell_of_row _ _ _ _ _ _ hm5
  have m1 : w5.cell? ⟨w.heap.size + 1, 1, none⟩ = some (.int .u8 q) := cell_of_row _ _ _ _ _ _ hm5
  obtain ⟨c', hc'⟩ : ∃ c' : Nat, c' = T.cols + p % 30 := ⟨_, rfl⟩
  obtain ⟨r', hr'⟩ : ∃ r' : Nat, r' = T.rows + q % 30 := ⟨_, rfl⟩
  have hcc : (T.cols : Int) + (p : Int) % 30 = (c' : Int) := by omega
  have hrr : (T.rows : Int) + (q : Int) % 30 = (r' : Int) := by omega
  have hc1 : T.cols ≤ c' := by omega
  have hc2 : c' ≤ 128 := by omega
  have hr1 : T.rows ≤ r' := by omega
  have hr2 : r' ≤ 64 := by omega
  clear hx5 hm5 hb5 HX4 HV4 HM4 HB4 hc' hr'
  go_wp2_with fail
  refine (resize_yes (.agg (T.vals (.slice A5 T.grid.length k5) (.slice A6 T.kept.length k6))) T c' r' _ (by exact HV5.out.cv) HOT.out (by omega) hc2 (by omega) hr2).mono ?_
  rintro e w6 ⟨v6, rfl, hck6, hb6⟩
  have hokD := HOT.out.resize c' r' (by omega) hc2 (by omega) hr2
  have hback := resize_back T HOT.out c' r' hc1 hr1
  obtain ⟨D, hD⟩ : ∃ D : Scr, D = T.resize c' r' := ⟨_, rfl⟩
  rw [← hD] at hck6 hokD hback
  have HOD := Lib.hid hokD; have HBK := Lib.hid hback
  have HVd := Lib.hid hck6
  obtain ⟨A7, k7, A8, k8, rfl⟩ := hck6.form
  have HX6 := Lib.hid ((hb6.block _ (block_lt HX5.out)).trans HX5.out)
  have HV6 := Lib.hid (HV5.out.next hb6)
  have HB6 : Hid (Below w.heap.size w w6) := below_next HB5.out hb6
  clear g0 g1 g2 g3 g4 g5 g6 g7 g8 g9 g10
  clear m0 m1 hcc hrr hck6 hokD hback hD hb6 HX5 HV5 HB5
  rw [Scr.vals_eq D]
  go_upto_region 9 with fail
  obtain ⟨w7, hw7⟩ : ∃ w7, w7 = w6.alloc (.cells (D.vals (.slice A7 D.grid.length k7) (.slice A8 D.kept.length k8)) 29) := ⟨_, rfl⟩
  have hb67 : Below w6.heap.size w6 w7 := by rw [hw7]; exact (Below.refl _ _).alloc (Nat.le_refl _) _
  have hy7 : w7.heap[w6.heap.size]? = some (.cells (D.vals (.slice A7 D.grid.length k7) (.slice A8 D.kept.length k8)) 29 (0, 0)) := by rw [hw7]; exact heap_alloc_new _ _
  have HVd7 := Lib.hid (HVd.out.next hb67)
  have HX7 := Lib.hid ((hb67.block _ (block_lt HX6.out)).trans HX6.out)
  have HV7 := Lib.hid (HV6.out.next hb67)
  have HB7 : Hid (Below w.heap.size w w7) := below_next HB6.out hb67
  rw [Scr.vals_eq D] at hw7
  rw [← hw7]
  obtain ⟨bd, hbd⟩ : ∃ bd, bd = w6.heap.size := ⟨_, rfl⟩
  rw [← hbd] at hy7 ⊢
  have g0 : w7.cell? ⟨bd, 0, none⟩ = some (.int .i64 D.cols) := cell_of_row _ _ _ _ _ _ hy7
  have g1 : w7.cell? ⟨bd, 1, none⟩ = some (.int .i64 D.rows) := cell_of_row _ _ _ _ _ _ hy7
  have g2 : w7.cell? ⟨bd, 2, none⟩ = some (.int .i64 D.most) := cell_of_row _ _ _ _ _ _ hy7
  have g3 : w7.cell? ⟨bd, 3, none⟩ = some (.int .i64 D.x) := cell_of_row _ _ _ _ _ _ hy7
  have g4 : w7.cell? ⟨bd, 4, none⟩ = some (.int .i64 D.y) := cell_of_row _ _ _ _ _ _ hy7
  have g5 : w7.cell? ⟨bd, 5, none⟩ = some (.slice A7 D.grid.length k7) := cell_of_row _ _ _ _ _ _ hy7
  have g6 : w7.cell? ⟨bd, 6, none⟩ = some (.slice A8 D.kept.length k8) := cell_of_row _ _ _ _ _ _ hy7
  have g7 : w7.cell? ⟨bd, 7, none⟩ = some (.int .i64 D.st) := cell_of_row _ _ _ _ _ _ hy7
  have g8 : w7.cell? ⟨bd, 8, none⟩ = some (.int .i64 D.n0) := cell_of_row _ _ _ _ _ _ hy7
  have g9 : w7.cell? ⟨bd, 9, none⟩ = some (.int .i64 D.n1) := cell_of_row _ _ _ _ _ _ hy7
  have g10 : w7.cell? ⟨bd, 10, none⟩ = some (.int .i64 D.num) := cell_of_row _ _ _ _ _ _ hy7
  clear hw7 hbd hb67 hy7 HVd HX6 HV6 HB6
  go_wp2_with fail
  refine (resize_yes (.agg (D.vals (.slice A7 D.grid.length k7) (.slice A8 D.kept.length k8))) D T.cols T.rows _ (by exact HVd7.out.cv) HOD.out (by omega) (by omega) (by omega) (by omega)).mono ?_
  rintro e w8 ⟨v8, rfl, hck8, hb8⟩
  rw [HBK.out] at hck8
  have HVf0 := Lib.hid hck8
  obtain ⟨A9, k9, A10, k10, rfl⟩ := hck8.form
  have HX8 := Lib.hid ((hb8.block _ (block_lt HX7.out)).trans HX7.out)
  have HV8 := Lib.hid (HV7.out.next hb8)
  have HB8 : Hid (Below w.heap.size w w8) := below_next HB7.out hb8
  clear g0 g1 g2 g3 g4 g5 g6 g7 g8 g9 g10
  clear hck8 hb8 HX7 HV7 HB7 HVd7 HOD HBK
  rw [Scr.vals_eq T]
  go_upto_region 10 with fail
  obtain ⟨w9, hw9⟩ : ∃ w9, w9 = w8.alloc (.cells (T.vals (.slice A9 T.grid.length k9) (.slice A10 T.kept.length k10)) 29) := ⟨_, rfl⟩
  have hb89 : Below w8.heap.size w8 w9 := by rw [hw9]; exact (Below.refl _ _).alloc (Nat.le_refl _) _
  have hy9 : w9.heap[w8.heap.size]? = some (.cells (T.vals (.slice A9 T.grid.length k9) (.slice A10 T.kept.length k10)) 29 (0, 0)) := by rw [hw9]; exact heap_alloc_new _ _
  have HY9 := Lib.hid hy9
  have HVf9 := Lib.hid (HVf0.out.next hb89)
  have hx9 := (hb89.block _ (block_lt HX8.out)).trans HX8.out
  have HX9 := Lib.hid hx9
  have HV9 := Lib.hid (HV8.out.next hb89)
  have HB9 : Hid (Below w.heap.size w w9) := below_next HB8.out hb89
  rw [Scr.vals_eq T] at hw9
  rw [← hw9]
  obtain ⟨bf, hbf⟩ : ∃ bf, bf = w8.heap.size := ⟨_, rfl⟩
  rw [← hbf] at HY9 ⊢
  have g0 : w9.cell? ⟨b7, 0, none⟩ = some (.int .i64 T.cols) := cell_of_row _ _ _ _ _ _ hx9
  have g1 : w9.cell? ⟨b7, 1, none⟩ = some (.int .i64 T.rows) := cell_of_row _ _ _ _ _ _ hx9
  have g2 : w9.cell? ⟨b7, 2, none⟩ = some (.int .i64 T.most) := cell_of_row _ _ _ _ _ _ hx9
  have g3 : w9.cell? ⟨b7, 3, none⟩ = some (.int .i64 T.x) := cell_of_row _ _ _ _ _ _ hx9
  have g4 : w9.cell? ⟨b7, 4, none⟩ = some (.int .i64 T.y) := cell_of_row _ _ _ _ _ _ hx9
  have g5 : w9.cell? ⟨b7, 5, none⟩ = some (.slice A5 T.grid.length k5) := cell_of_row _ _ _ _ _ _ hx9
  have g6 : w9.cell? ⟨b7, 6, none⟩ = some (.slice A6 T.kept.length k6) := cell_of_row _ _ _ _ _ _ hx9
  have g7 : w9.cell? ⟨b7, 7, none⟩ = some (.int .i64 T.st) := cell_of_row _ _ _ _ _ _ hx9
  have g8 : w9.cell? ⟨b7, 8, none⟩ = some (.int .i64 T.n0) := cell_of_row _ _ _ _ _ _ hx9
  have g9 : w9.cell? ⟨b7, 9, none⟩ = some (.int .i64 T.n1) := cell_of_row _ _ _ _ _ _ hx9
  have g10 : w9.cell? ⟨b7, 10, none⟩ = some (.int .i64 T.num) := cell_of_row _ _ _ _ _ _ hx9
  clear hw9 hbf hb89 hx9 hy9 HX8 HV8 HB8 HVf0
  go_wp2_with fail
  refine (cursor_any (.agg (T.vals (.slice A5 T.grid.length k5) (.slice A6 T.kept.length k6))) T _ (by exact HV9.out.cv)).mono ?_
  rintro e w10 ⟨rfl, hb10⟩
  have hy10 := (hb10.block _ (block_lt HY9.out)).trans HY9.out
  have HY10 := Lib.hid hy10
  have HX10 := Lib.hid ((hb10.block _ (block_lt HX9.out)).trans HX9.out)
  have HVf10 := Lib.hid (HVf9.out.next hb10)
  have HV10 := Lib.hid (HV9.out.next hb10)
  have HB10 : Hid (Below w.heap.size w w10) := below_next HB9.out hb10
  clear g0 g1 g2 g3 g4 g5 g6 g7 g8 g9 g10
  have g0 : w10.cell? ⟨bf, 0, none⟩ = some (.int .i64 T.cols) := cell_of_row _ _ _ _ _ _ hy10
  have g1 : w10.cell? ⟨bf, 1, none⟩ = some (.int .i64 T.rows) := cell_of_row _ _ _ _ _ _ hy10
  have g2 : w10.cell? ⟨bf, 2, none⟩ = some (.int .i64 T.most) := cell_of_row _ _ _ _ _ _ hy10
  have g3 : w10.cell? ⟨bf, 3, none⟩ = some (.int .i64 T.x) := cell_of_row _ _ _ _ _ _ hy10
  have g4 : w10.cell? ⟨bf, 4, none⟩ = some (.int .i64 T.y) := cell_of_row _ _ _ _ _ _ hy10
  have g5 : w10.cell? ⟨bf, 5, none⟩ = some (.slice A9 T.grid.length k9) := cell_of_row _ _ _ _ _ _ hy10
  have g6 : w10.cell? ⟨bf, 6, none⟩ = some (.slice A10 T.kept.length k10) := cell_of_row _ _ _ _ _ _ hy10
  have g7 : w10.cell? ⟨bf, 7, none⟩ = some (.int .i64 T.st) := cell_of_row _ _ _ _ _ _ hy10
  have g8 : w10.cell? ⟨bf, 8, none⟩ = some (.int .i64 T.n0) := cell_of_row _ _ _ _ _ _ hy10
  have g9 : w10.cell? ⟨bf, 9, none⟩ = some (.int .i64 T.n1) := cell_of_row _ _ _ _ _ _ hy10
  have g10 : w10.cell? ⟨bf, 10, none⟩ = some (.int .i64 T.num) := cell_of_row _ _ _ _ _ _ hy10
  clear hy10 hb10 HY9 HX9 HVf9 HV9 HB9
  go_wp2_with fail
  refine (cursor_any (.agg (T.vals (.slice A9 T.grid.length k9) (.slice A10 T.kept.length k10))) T _ (by exact HVf10.out.cv)).mono ?_
  rintro e w11 ⟨rfl, hb11⟩
  have HVf := Lib.hid (HVf10.out.next hb11)
  have HVt := Lib.hid (HV10.out.next hb11)
  have HB11 : Hid (Below w.heap.size w w11) := below_next HB10.out hb11
  have hLf : ∀ w', Later w11 w' → w'.heap[bf]? = some (.cells (T.vals (.slice A9 T.grid.length k9) (.slice A10 T.kept.length k10)) 29 (0, 0)) := fun w' h => ((below_next hb11 h).block _ (block_lt HY10.out)).trans HY10.out
  have hLt : ∀ w', Later w11 w' → w'.heap[b7]? = some (.cells (T.vals (.slice A5 T.grid.length k5) (.slice A6 T.kept.length k6)) 29 (0, 0)) := fun w' h => ((below_next hb11 h).block _ (block_lt HX10.out)).trans HX10.out
  have HLf := Lib.hid hLf; have HLt := Lib.hid hLt
  clear g0 g1 g2 g3 g4 g5 g6 g7 g8 g9 g10
  clear hLf hLt hb11 HY10 HX10 HVf10 HV10 HB10
  go_upto_region 12 with fail
  have hLf := HLf.out; have hLt := HLt.out
  obtain ⟨R, hR⟩ : ∃ R : ByteArray, strV T.text = .string R := ⟨_, rfl⟩
  have HR := Lib.hid hR
  clear hR
  refine wp_region_meek [Stay.val (.int .i64 0), Stay.val (.bool true), Stay.val (.bool true), Stay.val (.int .i64 0), Stay.val (.bool true), Stay.val (.bool true), Stay.val (.bool true), Stay.val (.agg (T.vals (.slice A9 T.grid.length k9) (.slice A10 T.kept.length k10))), Stay.val (.string R), Stay.val (.agg (T.vals (.slice A5 T.grid.length k5) (.slice A6 T.kept.length k6))), Stay.val (.string R), Stay.val (.bool true), Stay.val (.bool true), Stay.val (.bool true), Stay.val (.int .i64 T.x), Stay.val (.int .i64 T.x), Stay.val (.bool true), Stay.val (.bool true), Stay.val (.bool true), Stay.val (.int .i64 T.y), Stay.val (.int .i64 T.y), Stay.val (.bool true), Stay.val (.bool true), Stay.val (.bool true), Stay.val (.agg (T.vals (.slice A9 T.grid.length k9) (.slice A10 T.kept.length k10))), Stay.val (.int .i64 T.kept.length), Stay.val (.agg (T.vals (.slice A5 T.grid.length k5) (.slice A6 T.kept.length k6))), Stay.val (.int .i64 T.kept.length), Stay.val (.bool true), Stay.val (.bool true), Stay.val (.bool true), Stay.val (.bool true), Stay.val (.bool true), Stay.val (.bool true)] 107 rfl (by kernel_rfl) (by kernel_rfl) ?_ ?_
  · refine ⟨meek_plain rfl (body_move _ rfl (opd_out 13 (by kernel_rfl) _ rfl)), ?_⟩
    refine ⟨meek_plain rfl (body_two _ _ _ _ (.bool true) (opd_in 0 74 (by kernel_rfl)) (opd_const (.int .i64 0)) (fun _ => rfl) fun ρ w h1 h2 => (by simp [execOp, h1, h2, go_sem])), ?_⟩
    refine ⟨meek_plain rfl (body_move _ rfl (opd_in 1 75 (by kernel_rfl))), ?_⟩
    refine ⟨meek_on 2 true 107 rfl (by kernel_rfl) (fun _ _ h => h) (body_move _ rfl (opd_out 15 (by kernel_rfl) _ rfl)), ?_⟩
    refine ⟨meek_on 2 true 107 rfl (by kernel_rfl) (fun _ _ h => h) (body_two _ _ _ _ (.bool true) (opd_in 3 77 (by kernel_rfl)) (opd_const (.int .i64 0)) (fun _ => rfl) fun ρ w h1 h2 => (by simp [execOp, h1, h2, go_sem])), ?_⟩
    refine ⟨meek_plain rfl (body_pick _ _ _ true rfl (opd_in 2 76 (by kernel_rfl)) (opd_in 4 78 (by kernel_rfl))), ?_⟩
    refine ⟨meek_plain rfl (body_move _ rfl (opd_in 5 79 (by kernel_rfl))), ?_⟩
    refine ⟨meek_on 6 true 107 rfl (by kernel_rfl) (fun _ _ h => h) (body_load _ _ _ _ rfl (opd_out 14 (by kernel_rfl) _ rfl) fun w' h => ⟨load_scr (hLf w' h), rfl⟩), ?_⟩
    refine ⟨meek_on 6 true 107 rfl (by kernel_rfl) (fun _ _ h => h) (body_call1 _ _ _ _ rfl (by kernel_rfl) (opd_in 7 81 (by kernel_rfl)) fun v w' h hv => ?_), ?_⟩
    · obtain rfl := hv
      refine (text_walk _ T _ (HVf.out.next h).cv HOT.out).mono ?_
      rintro e w9 ⟨rfl, hb9⟩
      exact ⟨_, rfl, hb9, HR.out⟩
    refine ⟨meek_on 6 true 107 rfl (by kernel_rfl) (fun _ _ h => h) (body_load _ _ _ _ rfl (opd_out 7 (by kernel_rfl) _ rfl) fun w' h => ⟨load_scr (hLt w' h), rfl⟩), ?_⟩
    refine ⟨meek_on 6 true 107 rfl (by kernel_rfl) (fun _ _ h => h) (body_call1 _ _ _ _ rfl (by kernel_rfl) (opd_in 9 83 (by kernel_rfl)) fun v w' h hv => ?_), ?_⟩
    · obtain rfl := hv
      refine (text_walk _ T _ (HVt.out.next h).cv HOT.out).mono ?_
      rintro e w9 ⟨rfl, hb9⟩
      exact ⟨_, rfl, hb9, HR.out⟩
    refine ⟨meek_on 6 true 107 rfl (by kernel_rfl) (fun _ _ h => h) (body_two _ _ _ _ (.bool true) (opd_in 8 82 (by kernel_rfl)) (opd_in 10 84 (by kernel_rfl)) (fun _ => rfl) fun ρ w h1 h2 => (by simp [execOp, h1, h2, go_sem])), ?_⟩
    refine ⟨meek_plain rfl (body_pick _ _ _ true rfl (opd_in 6 80 (by kernel_rfl)) (opd_in 11 85 (by kernel_rfl))), ?_⟩
    refine ⟨meek_plain rfl (body_move _ rfl (opd_in 12 86 (by kernel_rfl))), ?_⟩
    refine ⟨meek_on 13 true 107 rfl (by kernel_rfl) (fun _ _ h => h) (body_move _ rfl (opd_out 16 (by kernel_rfl) _ rfl)), ?_⟩
    refine ⟨meek_on 13 true 107 rfl (by kernel_rfl) (fun _ _ h => h) (body_move _ rfl (opd_out 18 (by kernel_rfl) _ rfl)), ?_⟩
    refine ⟨meek_on 13 true 107 rfl (by kernel_rfl) (fun _ _ h => h) (body_two _ _ _ _ (.bool true) (opd_in 14 88 (by kernel_rfl)) (opd_in 15 89 (by kernel_rfl)) (fun _ => rfl) fun ρ w h1 h2 => (by simp [execOp, h1, h2, go_sem])), ?_⟩
    refine ⟨meek_plain rfl (body_pick _ _ _ true rfl (opd_in 13 87 (by kernel_rfl)) (opd_in 16 90 (by kernel_rfl))), ?_⟩
    refine ⟨meek_plain rfl (body_move _ rfl (opd_in 17 91 (by kernel_rfl))), ?_⟩
    refine ⟨meek_on 18 true 107 rfl (by kernel_rfl) (fun _ _ h => h) (body_move _ rfl (opd_out 17 (by kernel_rfl) _ rfl)), ?_⟩
    refine ⟨meek_on 18 true 107 rfl (by kernel_rfl) (fun _ _ h => h) (body_move _ rfl (opd_out 19 (by kernel_rfl) _ rfl)), ?_⟩
    refine ⟨meek_on 18 true 107 rfl (by kernel_rfl) (fun _ _ h => h) (body_two _ _ _ _ (.bool true) (opd_in 19 93 (by kernel_rfl)) (opd_in 20 94 (by kernel_rfl)) (fun _ => rfl) fun ρ w h1 h2 => (by simp [execOp, h1, h2, go_sem])), ?_⟩
    refine ⟨meek_plain rfl (body_pick _ _ _ true rfl (opd_in 18 92 (by kernel_rfl)) (opd_in 21 95 (by kernel_rfl))), ?_⟩
    refine ⟨meek_plain rfl (body_move _ rfl (opd_in 22 96 (by kernel_rfl))), ?_⟩
    refine ⟨meek_on 23 true 107 rfl (by kernel_rfl) (fun _ _ h => h) (body_load _ _ _ _ rfl (opd_out 14 (by kernel_rfl) _ rfl) fun w' h => ⟨load_scr (hLf w' h), rfl⟩), ?_⟩
    refine ⟨meek_on 23 true 107 rfl (by kernel_rfl) (fun _ _ h => h) (body_call1 _ _ _ _ rfl (by kernel_rfl) (opd_in 24 98 (by kernel_rfl)) fun v w' h hv => ?_), ?_⟩
    · obtain rfl := hv
      refine (kept_any _ T _ (HVf.out.next h).cv).mono ?_
      rintro e w9 ⟨rfl, hb9⟩
      exact ⟨_, rfl, hb9, rfl⟩
    refine ⟨meek_on 23 true 107 rfl (by kernel_rfl) (fun _ _ h => h) (body_load _ _ _ _ rfl (opd_out 7 (by kernel_rfl) _ rfl) fun w' h => ⟨load_scr (hLt w' h), rfl⟩), ?_⟩
    refine ⟨meek_on 23 true 107 rfl (by kernel_rfl) (fun _ _ h => h) (body_call1 _ _ _ _ rfl (by kernel_rfl) (opd_in 26 100 (by kernel_rfl)) fun v w' h hv => ?_), ?_⟩
    · obtain rfl := hv
      refine (kept_any _ T _ (HVt.out.next h).cv).mono ?_
      rintro e w9 ⟨rfl, hb9⟩
      exact ⟨_, rfl, hb9, rfl⟩
    refine ⟨meek_on 23 true 107 rfl (by kernel_rfl) (fun _ _ h => h) (body_two _ _ _ _ (.bool true) (opd_in 25 99 (by kernel_rfl)) (opd_in 27 101 (by kernel_rfl)) (fun _ => rfl) fun ρ w h1 h2 => (by simp [execOp, h1, h2, go_sem])), ?_⟩
    refine ⟨meek_plain rfl (body_pick _ _ _ true rfl (opd_in 23 97 (by kernel_rfl)) (opd_in 28 102 (by kernel_rfl))), ?_⟩
    refine ⟨meek_plain rfl (body_move _ rfl (opd_in 29 103 (by kernel_rfl))), ?_⟩
    refine ⟨meek_on 30 true 107 rfl (by kernel_rfl) (fun _ _ h => h) (body_call0 _ _ rfl (by kernel_rfl)  fun  w' h  => ?_), ?_⟩
    · refine (awake_walk w').mono ?_
      rintro e w9 ⟨rfl, hb9⟩
      exact ⟨_, rfl, hb9, rfl⟩
    refine ⟨meek_plain rfl (body_pick _ _ _ true rfl (opd_in 30 104 (by kernel_rfl)) (opd_in 31 105 (by kernel_rfl))), ?_⟩
    refine ⟨meek_plain rfl (body_assign _ rfl (opd_in 32 106 (by kernel_rfl))), ?_⟩
    exact trivial
  · intro g w12 h12 hend
    have e6 : g 6 = .bool true := meek_val hend 33 6 (by kernel_rfl) _ rfl
    clear hend
    simp only [putAll, Act.put, List.setIfInBounds_toArray, List.set_cons_succ, List.set_cons_zero, e6]
    clear e6
    go_wp2_with fail
    go_ret
    exact ⟨rfl, below_next HB11.out h12⟩
theorem back_all (a b k p q : Nat) (s : ByteArray) (w : World) (ha : a < 256) (hb : b < 256) (hk : k < 256) (hp : p < 256) (hq : q < 256) (hs : s.size ≤ maxLen) :
    Calls Tryd.prog 9 #[.agg #[.int .u8 a, .int .u8 b, .int .u8 k], .string s, .agg #[.int .u8 p, .int .u8 q]] w (ValPost w (.bool true)) := by
  by_cases h : s.size ≤ 500
  · exact back_walk a b k p q s w ha hb hk hp hq h
  · exact back_big a b k p q s w (by omega) (by unfold maxLen at hs; omega)
end Go.Proofs.YtiefpodmdpnppaaDoor
