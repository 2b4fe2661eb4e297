/-
  WALK of the law CellsHolds.
-/
import Derived.Test.YtiefpodmdpnppaaDoorLwD
import Derived.Test.YtiefpodmdpnppaaDoorPlB
namespace Go.Proofs.YtiefpodmdpnppaaDoor
open Go.RowKit
attribute [local go_sem ↓] Go.wp_at_zero Go.wp_at_succ

theorem load_u8 {w : World} {b o : Nat} {k : Int} (h : w.cell? ⟨b, o, none⟩ = some (.int .u8 k)) : (Instr.loadAt 5 (.pointer (some ⟨b, o, none⟩))).run Tryd.prog w = .ok (.int .u8 k) w := by
  go_simp

set_option maxRecDepth 100000 in
set_option maxHeartbeats 1600000 in
theorem holds_big (a b k p q : Nat) (s : ByteArray) (w : World) (hs : 500 < s.size) (hs2 : s.size ≤ 9223372036854775807) :
    Calls Tryd.prog 8 #[.agg #[.int .u8 a, .int .u8 b, .int .u8 k], .string s, .int .u8 p, .int .u8 q] w (ValPost w (.bool true)) := by
  have hd : decide ((s.size : Int) > 500) = true := by simp; omega
  go_enter Tryd.func8, Tryd.ntmps8
  go_wp2_with fail
  refine (awake_walk _).mono ?_
  rintro e w1 ⟨rfl, hb1⟩
  have HB1 : Hid (Below w.heap.size w w1) := below_next ((Below.refl _ _).alloc (Nat.le_refl _) _) hb1
  clear hb1
  go_wp2_with fail
  go_ret
  exact ⟨rfl, HB1.out⟩

set_option maxRecDepth 100000 in
set_option maxHeartbeats 1600000 in
theorem holds_walk (a b k p q : Nat) (s : ByteArray) (w : World) (ha : a < 256) (hb : b < 256) (hk : k < 256) (hp : p < 256) (hq : q < 256) (hs : s.size ≤ 500) :
    Calls Tryd.prog 8 #[.agg #[.int .u8 a, .int .u8 b, .int .u8 k], .string s, .int .u8 p, .int .u8 q] w (ValPost w (.bool true)) := by
  have hd : decide ((s.size : Int) > 500) = false := by simp; omega
  go_enter Tryd.func8, Tryd.ntmps8
  go_wp2_with fail
  refine (made_walk a b k _ ha hb hk).mono ?_
  rintro e w1 ⟨v1, u1, rfl, hck, hrv, hb1⟩
  have hok := newScr_ok (1 + a % 20) (1 + b % 8) (k % 12) (by omega) (by omega) (by omega) (by omega) (by omega)
  have hcl := newScr_clean (1 + a % 20) (1 + b % 8) (k % 12)
  obtain ⟨S, hS⟩ : ∃ S : Scr, S = newScr (1 + a % 20) (1 + b % 8) (k % 12) := ⟨_, rfl⟩
  have hSm : S.most = k % 12 := by rw [hS]; rfl
  obtain ⟨M, hM⟩ : ∃ M : Ref, M = newRef (1 + a % 20) (1 + b % 8) (k % 12) := ⟨_, rfl⟩
  rw [← hS] at hck hok hcl
  rw [← hM] at hrv
  have HM : Hid (w1.cell? ⟨w.heap.size, 2, none⟩ = some (.int .u8 k)) := by
    refine (hb1.cell (p := ⟨w.heap.size, 2, none⟩) (by simp)).trans ?_
    simp
  have HV1 := Lib.hid hck; have HO := Lib.hid hok; have HC := Lib.hid hcl; have HSM := Lib.hid hSm
  have HB1 : Hid (Below w.heap.size w w1) := below_next ((Below.refl _ _).alloc (Nat.le_refl _) _) hb1
  have hlt1 : w.heap.size < w1.heap.size := by have := hb1.size; simp at this; omega
  obtain ⟨A1, k1, A2, k2, rfl⟩ := hck.form
  obtain ⟨vr, vk', rfl, h21, h22⟩ := hrv
  have h25 := h21.1; have h26 := h22.1
  obtain ⟨-, A3, k3, rfl, -, -, -, -⟩ := h25
  obtain ⟨-, A4, k4, rfl, -, -, -, -⟩ := h26
  clear hck h21 h22 hok hb1 hS hM hcl hSm
  rw [Scr.vals_eq S, Ref.vals_eq M]
  go_upto_region 6 with fail
  obtain ⟨w2, hw2⟩ : ∃ w2, w2 = (w1.alloc (.cells (S.vals (.slice A1 S.grid.length k1) (.slice A2 S.kept.length k2)) 29)).alloc (.cells (M.vals (.slice A3 M.rows.length k3) (.slice A4 M.kept.length k4)) 31) := ⟨_, rfl⟩
  have hb12 : Below w1.heap.size w1 w2 := by rw [hw2]; exact below_alloc2 _ _ _
  have hx2 : w2.heap[w1.heap.size]? = some (.cells (S.vals (.slice A1 S.grid.length k1) (.slice A2 S.kept.length k2)) 29 (0, 0)) := by rw [hw2]; exact alloc2_fst _ _ _
  have HV2 := Lib.hid (HV1.out.next hb12)
  have HM2 := Lib.hid ((hb12.cell (p := ⟨w.heap.size, 2, none⟩) hlt1).trans HM.out)
  have HB2 : Hid (Below w.heap.size w w2) := below_next HB1.out hb12
  have hlt2 : w.heap.size < w2.heap.size := by have := hb12.size; omega
  rw [Scr.vals_eq S, Ref.vals_eq M] at hw2
  rw [← hw2]
  obtain ⟨b7, hb7⟩ : ∃ b7, b7 = w1.heap.size := ⟨_, rfl⟩
  rw [← hb7] at hx2 ⊢
  have g0 : w2.cell? ⟨b7, 0, none⟩ = some (.int .i64 S.cols) := cell_of_row _ _ _ _ _ _ hx2
  have g1 : w2.cell? ⟨b7, 1, none⟩ = some (.int .i64 S.rows) := cell_of_row _ _ _ _ _ _ hx2
  have g2 : w2.cell? ⟨b7, 2, none⟩ = some (.int .i64 S.most) := cell_of_row _ _ _ _ _ _ hx2
  have g3 : w2.cell? ⟨b7, 3, none⟩ = some (.int .i64 S.x) := cell_of_row _ _ _ _ _ _ hx2
  have g4 : w2.cell? ⟨b7, 4, none⟩ = some (.int .i64 S.y) := cell_of_row _ _ _ _ _ _ hx2
  have g5 : w2.cell? ⟨b7, 5, none⟩ = some (.slice A1 S.grid.length k1) := cell_of_row _ _ _ _ _ _ hx2
  have g6 : w2.cell? ⟨b7, 6, none⟩ = some (.slice A2 S.kept.length k2) := cell_of_row _ _ _ _ _ _ hx2
  have g7 : w2.cell? ⟨b7, 7, none⟩ = some (.int .i64 S.st) := cell_of_row _ _ _ _ _ _ hx2
  have g8 : w2.cell? ⟨b7, 8, none⟩ = some (.int .i64 S.n0) := cell_of_row _ _ _ _ _ _ hx2
  have g9 : w2.cell? ⟨b7, 9, none⟩ = some (.int .i64 S.n1) := cell_of_row _ _ _ _ _ _ hx2
  have g10 : w2.cell? ⟨b7, 10, none⟩ = some (.int .i64 S.num) := cell_of_row _ _ _ _ _ _ hx2
  clear hw2 hb12 HV1 HM HB1 hb7 hx2 hlt1
  generalize Value.agg #[.int .i64 M.w, .int .i64 M.h, .int .i64 M.most, .slice A3 M.rows.length k3, .slice A4 M.kept.length k4, .int .i64 M.x, .int .i64 M.y, .int .i64 M.begun, .string (bs M.args)] = z2
  go_wp2_with fail
  refine (write_walk (.agg (S.vals (.slice A1 S.grid.length k1) (.slice A2 S.kept.length k2))) S s _ (by exact HV2.out.cv) HO.out (by omega)).mono ?_
  rintro e w3 ⟨v3, rfl, hck3, hb3⟩
  obtain ⟨T, hT⟩ : ∃ T : Scr, T = S.bytes s.data.toList := ⟨_, rfl⟩
  rw [← hT] at hck3
  have HOT : Hid T.Ok := by rw [hT]; exact HO.out.bytes _
  have HCT : Hid T.Clean := by rw [hT]; exact HC.out.bytes _
  have HTM : Hid (T.most = k % 12) := by rw [hT, bytes_most]; exact HSM.out
  have HV3 := Lib.hid hck3
  obtain ⟨A5, k5, A6, k6, rfl⟩ := hck3.form
  have HM3 := Lib.hid ((hb3.cell (p := ⟨w.heap.size, 2, none⟩) hlt2).trans HM2.out)
  have HB3 : Hid (Below w.heap.size w w3) := below_next HB2.out hb3
  have hlt3 : w.heap.size < w3.heap.size := by have := hb3.size; omega
  obtain ⟨c', hc'⟩ : ∃ c' : Nat, c' = 1 + p % 128 := ⟨_, rfl⟩
  obtain ⟨r', hr'⟩ : ∃ r' : Nat, r' = 1 + q % 64 := ⟨_, rfl⟩
  have hcc : 1 + (p : Int) % 128 = (c' : Int) := by omega
  have hrr : 1 + (q : Int) % 64 = (r' : Int) := by omega
  have hc1 : 1 ≤ c' := by omega
  have hc2 : c' ≤ 128 := by omega
  have hr1 : 1 ≤ r' := by omega
  have hr2 : r' ≤ 64 := by omega
  clear g0 g1 g2 g3 g4 g5 g6 g7 g8 g9 g10
  clear hck3 hb3 HV2 HM2 HB2 hT hlt2 hc' hr' HO HC HSM
  rw [Scr.vals_eq T]
  go_wp2_with fail
  refine (resize_yes (.agg (T.vals (.slice A5 T.grid.length k5) (.slice A6 T.kept.length k6))) T c' r' _ (by exact HV3.out.cv) HOT.out hc1 hc2 hr1 hr2).mono ?_
  rintro e w6 ⟨v6, rfl, hck6, hb6⟩
  have hokD := HOT.out.resize c' r' hc1 hc2 hr1 hr2
  have hclD := HCT.out.resize c' r'
  have hmD := (resize_most T c' r').trans HTM.out
  obtain ⟨D, hD⟩ : ∃ D : Scr, D = T.resize c' r' := ⟨_, rfl⟩
  rw [← hD] at hck6 hokD hclD hmD
  have HOD := Lib.hid hokD; have HCD := Lib.hid hclD
  have hDx : D.x ≤ D.cols := hokD.x
  have hDy : D.y < D.rows := hokD.y
  have hDk : (D.kept.length : Int) ≤ (k : Int) % 12 := by have := hokD.k; omega
  have hDr : D.rows ≤ 64 := hokD.r2
  have hDc : D.cols ≤ 128 := hokD.c2
  have HDx := Lib.hid hDx; have HDy := Lib.hid hDy; have HDk := Lib.hid hDk
  have HV6 := Lib.hid hck6
  obtain ⟨A7, k7, A8, k8, rfl⟩ := hck6.form
  have HM6 := Lib.hid ((hb6.cell (p := ⟨w.heap.size, 2, none⟩) hlt3).trans HM3.out)
  have HB6 : Hid (Below w.heap.size w w6) := below_next HB3.out hb6
  have hlt6 : w.heap.size < w6.heap.size := by have := hb6.size; omega
  clear hcc hrr hck6 hokD hclD hmD hD hb6 HV3 HM3 HB3 hlt3 HOT HCT HTM hDx hDy hDk
  rw [Scr.vals_eq D]
  go_upto_region 9 with fail
  obtain ⟨w7, hw7⟩ : ∃ w7, w7 = w6.alloc (.cells (D.vals (.slice A7 D.grid.length k7) (.slice A8 D.kept.length k8)) 29) := ⟨_, rfl⟩
  have hb67 : Below w6.heap.size w6 w7 := by rw [hw7]; exact (Below.refl _ _).alloc (Nat.le_refl _) _
  have hy7 : w7.heap[w6.heap.size]? = some (.cells (D.vals (.slice A7 D.grid.length k7) (.slice A8 D.kept.length k8)) 29 (0, 0)) := by rw [hw7]; exact heap_alloc_new _ _
  have HV7 := Lib.hid (HV6.out.next hb67)
  have HM7 := Lib.hid ((hb67.cell (p := ⟨w.heap.size, 2, none⟩) hlt6).trans HM6.out)
  have HB7 : Hid (Below w.heap.size w w7) := below_next HB6.out hb67
  have hlt7 : w.heap.size < w7.heap.size := by have := hb67.size; omega
  rw [Scr.vals_eq D] at hw7
  rw [← hw7]
  obtain ⟨bd, hbd⟩ : ∃ bd, bd = w6.heap.size := ⟨_, rfl⟩
  rw [← hbd] at hy7 ⊢
  have HY7 := Lib.hid hy7
  have g0 : w7.cell? ⟨bd, 0, none⟩ = some (.int .i64 D.cols) := cell_of_row _ _ _ _ _ _ hy7
  have g1 : w7.cell? ⟨bd, 1, none⟩ = some (.int .i64 D.rows) := cell_of_row _ _ _ _ _ _ hy7
  have g2 : w7.cell? ⟨bd, 2, none⟩ = some (.int .i64 D.most) := cell_of_row _ _ _ _ _ _ hy7
  have g3 : w7.cell? ⟨bd, 3, none⟩ = some (.int .i64 D.x) := cell_of_row _ _ _ _ _ _ hy7
  have g4 : w7.cell? ⟨bd, 4, none⟩ = some (.int .i64 D.y) := cell_of_row _ _ _ _ _ _ hy7
  have g5 : w7.cell? ⟨bd, 5, none⟩ = some (.slice A7 D.grid.length k7) := cell_of_row _ _ _ _ _ _ hy7
  have g6 : w7.cell? ⟨bd, 6, none⟩ = some (.slice A8 D.kept.length k8) := cell_of_row _ _ _ _ _ _ hy7
  have g7 : w7.cell? ⟨bd, 7, none⟩ = some (.int .i64 D.st) := cell_of_row _ _ _ _ _ _ hy7
  have g8 : w7.cell? ⟨bd, 8, none⟩ = some (.int .i64 D.n0) := cell_of_row _ _ _ _ _ _ hy7
  have g9 : w7.cell? ⟨bd, 9, none⟩ = some (.int .i64 D.n1) := cell_of_row _ _ _ _ _ _ hy7
  have g10 : w7.cell? ⟨bd, 10, none⟩ = some (.int .i64 D.num) := cell_of_row _ _ _ _ _ _ hy7
  clear hw7 hbd hb67 hy7 HV6 HM6 HB6 hlt6
  go_wp2_with fail
  refine (size_any (.agg (D.vals (.slice A7 D.grid.length k7) (.slice A8 D.kept.length k8))) D _ (by exact HV7.out.cv)).mono ?_
  rintro e w8 ⟨rfl, hb8⟩
  have hy8 := (hb8.block _ (block_lt HY7.out)).trans HY7.out
  have HY8 := Lib.hid hy8
  have HV8 := Lib.hid (HV7.out.next hb8)
  have HM8 := Lib.hid ((hb8.cell (p := ⟨w.heap.size, 2, none⟩) hlt7).trans HM7.out)
  have HB8 : Hid (Below w.heap.size w w8) := below_next HB7.out hb8
  have hlt8 : w.heap.size < w8.heap.size := by have := hb8.size; omega
  clear g0 g1 g2 g3 g4 g5 g6 g7 g8 g9 g10
  have g0 : w8.cell? ⟨bd, 0, none⟩ = some (.int .i64 D.cols) := cell_of_row _ _ _ _ _ _ hy8
  have g1 : w8.cell? ⟨bd, 1, none⟩ = some (.int .i64 D.rows) := cell_of_row _ _ _ _ _ _ hy8
  have g2 : w8.cell? ⟨bd, 2, none⟩ = some (.int .i64 D.most) := cell_of_row _ _ _ _ _ _ hy8
  have g3 : w8.cell? ⟨bd, 3, none⟩ = some (.int .i64 D.x) := cell_of_row _ _ _ _ _ _ hy8
  have g4 : w8.cell? ⟨bd, 4, none⟩ = some (.int .i64 D.y) := cell_of_row _ _ _ _ _ _ hy8
  have g5 : w8.cell? ⟨bd, 5, none⟩ = some (.slice A7 D.grid.length k7) := cell_of_row _ _ _ _ _ _ hy8
  have g6 : w8.cell? ⟨bd, 6, none⟩ = some (.slice A8 D.kept.length k8) := cell_of_row _ _ _ _ _ _ hy8
  have g7 : w8.cell? ⟨bd, 7, none⟩ = some (.int .i64 D.st) := cell_of_row _ _ _ _ _ _ hy8
  have g8 : w8.cell? ⟨bd, 8, none⟩ = some (.int .i64 D.n0) := cell_of_row _ _ _ _ _ _ hy8
  have g9 : w8.cell? ⟨bd, 9, none⟩ = some (.int .i64 D.n1) := cell_of_row _ _ _ _ _ _ hy8
  have g10 : w8.cell? ⟨bd, 10, none⟩ = some (.int .i64 D.num) := cell_of_row _ _ _ _ _ _ hy8
  clear hy8 hb8 HY7 HV7 HM7 HB7 hlt7
  go_wp2_with fail
  refine (cursor_any (.agg (D.vals (.slice A7 D.grid.length k7) (.slice A8 D.kept.length k8))) D _ (by exact HV8.out.cv)).mono ?_
  rintro e w10 ⟨rfl, hb10⟩
  have HVd := Lib.hid (HV8.out.next hb10)
  have HB10 : Hid (Below w.heap.size w w10) := below_next HB8.out hb10
  have HLd : Hid (∀ w', Later w10 w' → w'.heap[bd]? = some (.cells (D.vals (.slice A7 D.grid.length k7) (.slice A8 D.kept.length k8)) 29 (0, 0))) := fun w' h => ((below_next hb10 h).block _ (block_lt HY8.out)).trans HY8.out
  have HLk : Hid (∀ w', Later w10 w' → w'.cell? ⟨w.heap.size, 2, none⟩ = some (.int .u8 k)) := fun w' h => ((below_next hb10 h).cell (p := ⟨w.heap.size, 2, none⟩) hlt8).trans HM8.out
  clear g0 g1 g2 g3 g4 g5 g6 g7 g8 g9 g10
  clear hb10 HY8 HV8 HM8 HB8 hlt8
  go_upto_region 11 with fail
  have hLd := HLd.out; have hLk := HLk.out; have hDx := HDx.out; have hDy := HDy.out; have hDk := HDk.out
  refine wp_region_meek [Stay.val (.int .i64 D.x), Stay.val (.bool false), Stay.val (.bool false), Stay.val (.int .i64 D.x), Stay.val (.int .i64 D.cols), Stay.val (.bool false), Stay.val (.bool false), Stay.val (.bool false), Stay.val (.int .i64 D.y), Stay.val (.bool false), Stay.val (.bool false), Stay.val (.bool false), Stay.val (.int .i64 D.y), Stay.val (.int .i64 D.rows), Stay.val (.bool false), Stay.val (.bool false), Stay.val (.bool false), Stay.val (.agg (D.vals (.slice A7 D.grid.length k7) (.slice A8 D.kept.length k8))), Stay.val (.int .i64 D.kept.length), Stay.val (.pointer (some ⟨w.heap.size, 2, none⟩)), Stay.val (.int .u8 k), Stay.val (.int .u8 (k % 12 : Nat)), Stay.val (.int .i64 (k % 12 : Nat)), Stay.val (.bool false), Stay.val (.bool false)] 114 rfl (by kernel_rfl) (by kernel_rfl) ?_ ?_
  · refine ⟨meek_plain rfl (body_move _ rfl (opd_out 16 (by kernel_rfl) _ rfl)), ?_⟩
    refine ⟨meek_plain rfl (body_two _ _ _ _ (.bool false) (opd_in 0 60 (by kernel_rfl)) (opd_const (.int .i64 0)) (fun _ => rfl) fun ρ w h1 h2 => (by simp [execOp, h1, h2, go_sem])), ?_⟩
    refine ⟨meek_plain rfl (body_move _ rfl (opd_in 1 61 (by kernel_rfl))), ?_⟩
    refine ⟨meek_on 2 false 114 rfl (by kernel_rfl) (fun _ _ h => h) (body_move _ rfl (opd_out 16 (by kernel_rfl) _ rfl)), ?_⟩
    refine ⟨meek_on 2 false 114 rfl (by kernel_rfl) (fun _ _ h => h) (body_move _ rfl (opd_out 14 (by kernel_rfl) _ rfl)), ?_⟩
    refine ⟨meek_on 2 false 114 rfl (by kernel_rfl) (fun _ _ h => h) (body_two _ _ _ _ (.bool false) (opd_in 3 63 (by kernel_rfl)) (opd_in 4 64 (by kernel_rfl)) (fun _ => rfl) fun ρ w h1 h2 => (by simp [execOp, h1, h2, go_sem]; exact hDx)), ?_⟩
    refine ⟨meek_plain rfl (body_pick _ _ _ false rfl (opd_in 2 62 (by kernel_rfl)) (opd_in 5 65 (by kernel_rfl))), ?_⟩
    refine ⟨meek_plain rfl (body_move _ rfl (opd_in 6 66 (by kernel_rfl))), ?_⟩
    refine ⟨meek_on 7 false 114 rfl (by kernel_rfl) (fun _ _ h => h) (body_move _ rfl (opd_out 17 (by kernel_rfl) _ rfl)), ?_⟩
    refine ⟨meek_on 7 false 114 rfl (by kernel_rfl) (fun _ _ h => h) (body_two _ _ _ _ (.bool false) (opd_in 8 68 (by kernel_rfl)) (opd_const (.int .i64 0)) (fun _ => rfl) fun ρ w h1 h2 => (by simp [execOp, h1, h2, go_sem])), ?_⟩
    refine ⟨meek_plain rfl (body_pick _ _ _ false rfl (opd_in 7 67 (by kernel_rfl)) (opd_in 9 69 (by kernel_rfl))), ?_⟩
    refine ⟨meek_plain rfl (body_move _ rfl (opd_in 10 70 (by kernel_rfl))), ?_⟩
    refine ⟨meek_on 11 false 114 rfl (by kernel_rfl) (fun _ _ h => h) (body_move _ rfl (opd_out 17 (by kernel_rfl) _ rfl)), ?_⟩
    refine ⟨meek_on 11 false 114 rfl (by kernel_rfl) (fun _ _ h => h) (body_move _ rfl (opd_out 15 (by kernel_rfl) _ rfl)), ?_⟩
    refine ⟨meek_on 11 false 114 rfl (by kernel_rfl) (fun _ _ h => h) (body_two _ _ _ _ (.bool false) (opd_in 12 72 (by kernel_rfl)) (opd_in 13 73 (by kernel_rfl)) (fun _ => rfl) fun ρ w h1 h2 => (by simp [execOp, h1, h2, go_sem]; exact hDy)), ?_⟩
    refine ⟨meek_plain rfl (body_pick _ _ _ false rfl (opd_in 11 71 (by kernel_rfl)) (opd_in 14 74 (by kernel_rfl))), ?_⟩
    refine ⟨meek_plain rfl (body_move _ rfl (opd_in 15 75 (by kernel_rfl))), ?_⟩
    refine ⟨meek_on 16 false 114 rfl (by kernel_rfl) (fun _ _ h => h) (body_load _ _ _ _ rfl (opd_out 12 (by kernel_rfl) _ rfl) fun w' h => ⟨load_scr (hLd w' h), rfl⟩), ?_⟩
    refine ⟨meek_on 16 false 114 rfl (by kernel_rfl) (fun _ _ h => h) (body_call1 _ _ _ _ rfl (by kernel_rfl) (opd_in 17 77 (by kernel_rfl)) fun v w' h hv => ?_), ?_⟩
    · obtain rfl := hv
      refine (kept_any _ D _ (HVd.out.next h).cv).mono ?_
      rintro e w9 ⟨rfl, hb9⟩
      exact ⟨_, rfl, hb9, rfl⟩
    refine ⟨meek_on 16 false 114 rfl (by kernel_rfl) (fun _ _ h => h) (body_one _ _ (.pointer (some ⟨w.heap.size, 2, none⟩)) (opd_out 4 (by kernel_rfl) _ rfl) (fun _ => rfl) fun ρ w h1 => (by simp [execOp, h1, go_sem])), ?_⟩
    refine ⟨meek_on 16 false 114 rfl (by kernel_rfl) (fun _ _ h => h) (body_load _ _ _ _ rfl (opd_in 19 79 (by kernel_rfl)) fun w' h => ⟨load_u8 (hLk w' h), rfl⟩), ?_⟩
    refine ⟨meek_on 16 false 114 rfl (by kernel_rfl) (fun _ _ h => h) (body_two _ _ _ _ (.int .u8 (k % 12 : Nat)) (opd_in 20 80 (by kernel_rfl)) (opd_const (.int .u8 12)) (fun _ => rfl) fun ρ w h1 h2 => (by simp [execOp, h1, h2, go_sem]; exact Int.tmod_eq_emod_of_nonneg (by omega))), ?_⟩
    refine ⟨meek_on 16 false 114 rfl (by kernel_rfl) (fun _ _ h => h) (body_one _ _ (.int .i64 (k % 12 : Nat)) (opd_in 21 81 (by kernel_rfl)) (fun _ => rfl) fun ρ w h1 => (by simp [execOp, h1, go_sem]; exact IntWalk.i64_in _ (by omega))), ?_⟩
    refine ⟨meek_on 16 false 114 rfl (by kernel_rfl) (fun _ _ h => h) (body_two _ _ _ _ (.bool false) (opd_in 18 78 (by kernel_rfl)) (opd_in 22 82 (by kernel_rfl)) (fun _ => rfl) fun ρ w h1 h2 => (by simp [execOp, h1, h2, go_sem]; exact hDk)), ?_⟩
    refine ⟨meek_plain rfl (body_pick _ _ _ false rfl (opd_in 16 76 (by kernel_rfl)) (opd_in 23 83 (by kernel_rfl))), ?_⟩
    exact trivial
  · intro g w11 h11 hend
    have e84 : g 84 = .bool false := meek_val hend 24 84 (by kernel_rfl) _ rfl
    clear hend
    simp only [putAll, Act.put, List.setIfInBounds_toArray, List.set_cons_succ, List.set_cons_zero, e84]
    clear e84 hLd hLk hDx hDy hDk
    go_wp2_with fail
    have HL := Lib.hid h11
    clear h11
    go_loopw [18] (fun iv wr => ∃ i : Nat, i ≤ D.rows ∧ iv = .int .i64 i ∧ Hid (Later w10 wr)) (fun iv _ => D.rows - (intOf iv).toNat)
    case atStart => exact ⟨0, Nat.zero_le _, rfl, HL.out⟩
    case round =>
      clear HL
      obtain ⟨i, hi, rfl, hlr⟩ := hrel
      by_cases hlt : i < D.rows
      · have hd1 : decide ((i : Int) < (D.rows : Int)) = true := by simp; omega
        have hyr := HLd.out wr hlr.out
        have g0 : wr.cell? ⟨bd, 0, none⟩ = some (.int .i64 D.cols) := cell_of_row _ _ _ _ _ _ hyr
        have g1 : wr.cell? ⟨bd, 1, none⟩ = some (.int .i64 D.rows) := cell_of_row _ _ _ _ _ _ hyr
        have g2 : wr.cell? ⟨bd, 2, none⟩ = some (.int .i64 D.most) := cell_of_row _ _ _ _ _ _ hyr
        have g3 : wr.cell? ⟨bd, 3, none⟩ = some (.int .i64 D.x) := cell_of_row _ _ _ _ _ _ hyr
        have g4 : wr.cell? ⟨bd, 4, none⟩ = some (.int .i64 D.y) := cell_of_row _ _ _ _ _ _ hyr
        have g5 : wr.cell? ⟨bd, 5, none⟩ = some (.slice A7 D.grid.length k7) := cell_of_row _ _ _ _ _ _ hyr
        have g6 : wr.cell? ⟨bd, 6, none⟩ = some (.slice A8 D.kept.length k8) := cell_of_row _ _ _ _ _ _ hyr
        have g7 : wr.cell? ⟨bd, 7, none⟩ = some (.int .i64 D.st) := cell_of_row _ _ _ _ _ _ hyr
        have g8 : wr.cell? ⟨bd, 8, none⟩ = some (.int .i64 D.n0) := cell_of_row _ _ _ _ _ _ hyr
        have g9 : wr.cell? ⟨bd, 9, none⟩ = some (.int .i64 D.n1) := cell_of_row _ _ _ _ _ _ hyr
        have g10 : wr.cell? ⟨bd, 10, none⟩ = some (.int .i64 D.num) := cell_of_row _ _ _ _ _ _ hyr
        have hrl := row_full D HOD.out i hlt
        have hrc := row_clean D HCD.out i
        obtain ⟨r, hr⟩ : ∃ r : List UInt8, r = D.row i := ⟨_, rfl⟩
        rw [← hr] at hrl hrc
        have HR := Lib.hid hr; have HRC := Lib.hid hrc; have HRL := Lib.hid hrl
        clear hyr hr hrc hrl
        go_wp2_with fail
        refine (row_any (.agg (D.vals (.slice A7 D.grid.length k7) (.slice A8 D.kept.length k8))) D (i : Int) _ (by exact (HVd.out.next hlr.out).cv) HOD.out).mono ?_
        rintro e w12 ⟨rfl, hb12⟩
        rw [← HR.out, strV_bs]
        have HL12 : Hid (Later w10 w12) := hlr.out.trans hb12
        have hsz : (bs r).size = D.cols := by rw [bs_size]; exact HRL.out
        have HSZ := Lib.hid hsz
        have hne : (((bs r).size : Int) != (D.cols : Int)) = false := by rw [hsz]; simp
        obtain ⟨R, hRr⟩ : ∃ R : ByteArray, R = bs r := ⟨_, rfl⟩
        rw [← hRr] at hne hsz HSZ ⊢
        have HRR := Lib.hid hRr
        clear g0 g1 g2 g3 g4 g5 g6 g7 g8 g9 g10
        clear hb12 hsz hRr hlr HR
        go_wp2_with fail
        go_loop [20] (fun kv => ∃ j : Nat, j ≤ R.size ∧ kv = .int .i64 j) (fun kv => R.size - (intOf kv).toNat)
        case atStart => exact ⟨0, Nat.zero_le _, rfl⟩
        case round =>
          obtain ⟨j, hj, rfl⟩ := hrel
          have hR128 : R.size ≤ 128 := by rw [HSZ.out]; exact hDc
          by_cases hjl : j < R.size
          · have hd2 : decide ((j : Int) < (R.size : Int)) = true := by simp; omega
            have hix := idx_str Tryd.underlying9 R j (j : Int) rfl hjl
            have hbt : 32 ≤ byteAt R j ∧ byteAt R j ≤ 126 := by
              have hm : R.data.toList.getD j 0 ∈ r := by
                rw [HRR.out, bs_list, List.getD_eq_getElem?_getD, List.getElem?_eq_getElem (by rw [HRR.out, bs_size] at hjl; exact hjl)]
                exact List.getElem_mem _
              exact HRC.out _ hm
            unfold byteAt at hbt
            obtain ⟨bt, hbt0⟩ : ∃ bt : Nat, bt = (R.data.toList.getD j 0).toNat := ⟨_, rfl⟩
            rw [← hbt0] at hbt hix
            have hb1 : decide ((bt : Int) < 32) = false := by simp; omega
            have hb2 : decide ((bt : Int) > 126) = false := by simp; omega
            clear hbt0
            go_wp2_with fail
            go_round
            case rel => exact ⟨j + 1, by omega, by go_num⟩
            case measure => simp [intOf]; omega
          · obtain rfl : j = R.size := by omega
            have hd2 : decide ((R.size : Int) < (R.size : Int)) = false := by simp
            go_wp2_with fail
            go_roundw
            case rel => exact ⟨i + 1, by omega, by go_num, HL12.out⟩
            case measure => simp [intOf]; omega
      · obtain rfl : i = D.rows := by omega
        have hd1 : decide ((D.rows : Int) < (D.rows : Int)) = false := by simp
        go_wp2_with fail
        refine (awake_walk _).mono ?_
        rintro e w13 ⟨rfl, hb13⟩
        have HB13 : Hid (Below w.heap.size w w13) := below_next (below_next HB10.out hlr.out) hb13
        clear hb13
        go_wp2_with fail
        go_ret
        exact ⟨rfl, HB13.out⟩
theorem holds_all (a b k p q : Nat) (s : ByteArray) (w : World) (ha : a < 256) (hb : b < 256) (hk : k < 256) (hp : p < 256) (hq : q < 256) (hs : s.size ≤ maxLen) :
    Calls Tryd.prog 8 #[.agg #[.int .u8 a, .int .u8 b, .int .u8 k], .string s, .int .u8 p, .int .u8 q] w (ValPost w (.bool true)) := by
  by_cases h : s.size ≤ 500
  · exact holds_walk a b k p q s w ha hb hk hp hq h
  · exact holds_big a b k p q s w (by omega) (by unfold maxLen at hs; omega)
end Go.Proofs.YtiefpodmdpnppaaDoor
