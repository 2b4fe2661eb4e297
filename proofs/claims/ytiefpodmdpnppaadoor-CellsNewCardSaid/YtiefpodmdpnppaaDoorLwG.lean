/-
  WALK of the law CellsNew.
-/
import Derived.Test.YtiefpodmdpnppaaDoorLwF
namespace Go.Proofs.YtiefpodmdpnppaaDoor
open Go.RowKit
attribute [local go_sem ↓] Go.wp_at_zero Go.wp_at_succ

theorem body_nul {P : Program} {ops : Array Oper} {a0 : Act} {w0 : World} {R : Nat → Stay} {k : Nat} {o : Oper} (v : Value) (hv : ∀ w, (R k).R v w) (h : ∀ (ρ : Operand → Value) (w : World), (execOp ρ o).run P w = .ok (.value v) w) : meekBody P ops a0 w0 R k o := by
  intro a w h1 h2 h3
  rw [h a.eval w]
  exact ⟨Later.refl w, hv w⟩
theorem build_ref {o : Oper} (ρ : Operand → Value) (w : World) (ho : o.op = .build 31 #[]) : (execOp ρ o).run Tryd.prog w = .ok (.value (.agg (zeroRef.vals nilS nilS))) w := by
  unfold execOp
  simp only [ho]
  go_simp
  rfl

set_option maxRecDepth 100000 in
set_option maxHeartbeats 1600000 in
theorem new_big (c r k : Int) (s : ByteArray) (w : World) (hs : 100 < s.size) (hs2 : s.size ≤ 9223372036854775807) :
    Calls Tryd.prog 7 #[.int .i64 c, .int .i64 r, .int .i64 k, .string s] w (ValPost w (.bool true)) := by
  have hd : decide ((s.size : Int) > 100) = true := by simp; omega
  go_enter Tryd.func7, Tryd.ntmps7
  go_wp2_with fail
  refine (awake_walk _).mono ?_
  rintro e w1 ⟨rfl, hb1⟩
  have HB1 := Lib.hid hb1
  clear hb1
  go_wp2_with fail
  go_ret
  exact ⟨rfl, HB1.out⟩

set_option maxRecDepth 100000 in
set_option maxHeartbeats 1600000 in
theorem new_walk_no (c r k : Int) (s : ByteArray) (w : World) (hs : s.size ≤ 100) (hn : newB c r k = false) :
    Calls Tryd.prog 7 #[.int .i64 c, .int .i64 r, .int .i64 k, .string s] w (ValPost w (.bool true)) := by
  have hd : decide ((s.size : Int) > 100) = false := by simp; omega
  have HN := Lib.hid hn
  clear hn
  go_enter Tryd.func7, Tryd.ntmps7
  go_wp2_with fail
  refine (new_no c r k _ HN.out).mono ?_
  rintro e w1 ⟨v1, rfl, hck, hb1⟩
  obtain ⟨S, hS⟩ : ∃ S : Scr, S = zeroScr := ⟨_, rfl⟩
  have HZ : Hid (∀ {w : World} (v : Value), CK w v S → CV w v zeroScr) := by rw [hS]; exact fun v h => h.cv
  rw [← hS] at hck
  have HV1 := Lib.hid hck
  obtain ⟨A1, k1, A2, k2, rfl⟩ := hck.form
  have HB1 := Lib.hid hb1
  clear hck hb1 hS
  rw [Scr.vals_eq S]
  go_upto_region 4 with fail
  obtain ⟨w2, hw2⟩ : ∃ w2, w2 = w1.alloc (.cells (S.vals (.slice A1 S.grid.length k1) (.slice A2 S.kept.length k2)) 29) := ⟨_, rfl⟩
  have hb12 : Below w1.heap.size w1 w2 := by rw [hw2]; exact (Below.refl _ _).alloc (Nat.le_refl _) _
  have hx2 : w2.heap[w1.heap.size]? = some (.cells (S.vals (.slice A1 S.grid.length k1) (.slice A2 S.kept.length k2)) 29 (0, 0)) := by rw [hw2]; exact heap_alloc_new _ _
  have HX2 := Lib.hid hx2
  have HV2 := Lib.hid (HV1.out.next hb12)
  have HB2 : Hid (Below w.heap.size w w2) := below_next HB1.out hb12
  rw [Scr.vals_eq S] at hw2
  rw [← hw2]
  obtain ⟨b7, hb7⟩ : ∃ b7, b7 = w1.heap.size := ⟨_, rfl⟩
  rw [← hb7] at HX2 ⊢
  clear hw2 hb12 HV1 HB1 hb7 hx2
  go_wp2_with fail
  refine (rnew_no c r k _ HN.out).mono ?_
  rintro e w3 ⟨v3, rfl, hrv, hb3⟩
  have HX3 := Lib.hid ((hb3.block _ (block_lt HX2.out)).trans HX2.out)
  have HV3 := Lib.hid (HV2.out.next hb3)
  have HB3 : Hid (Below w.heap.size w w3) := below_next HB2.out hb3
  obtain ⟨vr, vk', rfl, h21, h22⟩ := hrv
  have h25 := h21.1; have h26 := h22.1
  obtain ⟨-, A3, k3, rfl, -, -, -, -⟩ := h25
  obtain ⟨-, A4, k4, rfl, -, -, -, -⟩ := h26
  obtain ⟨M, hM⟩ : ∃ M : Ref, M = zeroRef := ⟨_, rfl⟩
  rw [← hM]
  clear hb3 h21 h22 hM HX2 HV2 HB2
  rw [Ref.vals_eq M]
  go_upto_region 6 with fail
  obtain ⟨w4, hw4⟩ : ∃ w4, w4 = w3.alloc (.cells (M.vals (.slice A3 M.rows.length k3) (.slice A4 M.kept.length k4)) 31) := ⟨_, rfl⟩
  have hb34 : Below w3.heap.size w3 w4 := by rw [hw4]; exact (Below.refl _ _).alloc (Nat.le_refl _) _
  have HX4 := Lib.hid ((hb34.block _ (block_lt HX3.out)).trans HX3.out)
  have HV := Lib.hid (HV3.out.next hb34)
  have HB4 : Hid (Below w.heap.size w w4) := below_next HB3.out hb34
  rw [Ref.vals_eq M] at hw4
  rw [← hw4]
  have hLs : ∀ w', Later w4 w' → w'.heap[b7]? = some (.cells (S.vals (.slice A1 S.grid.length k1) (.slice A2 S.kept.length k2)) 29 (0, 0)) := fun w' h => (h.block _ (block_lt HX4.out)).trans HX4.out
  clear hw4 hb34 HX3 HV3 HB3
  refine wp_region_meek0 [Stay.val (.int .i64 17), Stay.val (.bool true), Stay.val (.bool true), Stay.val (.agg (S.vals (.slice A1 S.grid.length k1) (.slice A2 S.kept.length k2))), Stay.val (.agg (zeroRef.vals nilS nilS)), Stay.val (.bool true), Stay.val (.bool true), Stay.val (.bool true), Stay.val (.bool true), Stay.val (.bool true), Stay.val (.bool true)] 72 rfl trivial (by kernel_rfl) ?_ ?_
  · refine ⟨meek_plain rfl (body_move _ rfl (opd_out 10 (by kernel_rfl) _ rfl)), ?_⟩
    refine ⟨meek_plain rfl (body_two _ _ _ _ (.bool true) (opd_in 0 36 (by kernel_rfl)) (opd_const (.int .i64 17)) (fun _ => rfl) fun ρ w h1 h2 => (by simp [execOp, h1, h2, go_sem])), ?_⟩
    refine ⟨meek_plain rfl (body_move _ rfl (opd_in 1 37 (by kernel_rfl))), ?_⟩
    refine ⟨meek_on 2 true 72 rfl (by kernel_rfl) (fun _ _ h => h) (body_load _ _ _ _ rfl (opd_out 9 (by kernel_rfl) _ rfl) fun w' h => ⟨load_scr (hLs w' h), rfl⟩), ?_⟩
    refine ⟨meek_on 2 true 72 rfl (by kernel_rfl) (fun _ _ h => h) (body_nul (.agg (zeroRef.vals nilS nilS)) (fun _ => rfl) fun ρ w => (by exact build_ref ρ w rfl)), ?_⟩
    refine ⟨meek_on 2 true 72 rfl (by kernel_rfl) (fun _ _ h => h) (body_call2 _ _ _ _ _ _ rfl (by kernel_rfl) (opd_in 3 39 (by kernel_rfl)) (opd_in 4 40 (by kernel_rfl)) fun v u w' h hv hu => ?_), ?_⟩
    · obtain rfl := hv
      obtain rfl := hu
      refine (same_zero _ _ _ (HZ.out _ (HV.out.next h)) (rv_zero _)).mono ?_
      rintro e w9 ⟨rfl, hb9⟩
      exact ⟨_, rfl, hb9, rfl⟩
    refine ⟨meek_plain rfl (body_pick _ _ _ true rfl (opd_in 2 38 (by kernel_rfl)) (opd_in 5 41 (by kernel_rfl))), ?_⟩
    refine ⟨meek_plain rfl (body_move _ rfl (opd_in 6 42 (by kernel_rfl))), ?_⟩
    refine ⟨meek_on 7 true 72 rfl (by kernel_rfl) (fun _ _ h => h) (body_call0 _ _ rfl (by kernel_rfl)  fun  w' h  => ?_), ?_⟩
    · refine (awake_walk w').mono ?_
      rintro e w9 ⟨rfl, hb9⟩
      exact ⟨_, rfl, hb9, rfl⟩
    refine ⟨meek_plain rfl (body_pick _ _ _ true rfl (opd_in 7 43 (by kernel_rfl)) (opd_in 8 44 (by kernel_rfl))), ?_⟩
    refine ⟨meek_plain rfl (body_assign _ rfl (opd_in 9 45 (by kernel_rfl))), ?_⟩
    exact trivial
  · intro g w12 h12 hend
    have e6 : g 8 = .bool true := meek_val hend 10 8 (by kernel_rfl) _ rfl
    clear hend hLs
    simp only [putAll, Act.put, List.setIfInBounds_toArray, List.set_cons_succ, List.set_cons_zero, e6]
    clear e6
    go_wp2_with fail
    go_ret
    exact ⟨rfl, below_next HB4.out h12⟩

set_option maxRecDepth 100000 in
set_option maxHeartbeats 1600000 in
theorem new_walk_yes (c r k : Nat) (s : ByteArray) (w : World) (hs : s.size ≤ 100) (h1 : 1 ≤ c) (h2 : c ≤ 128) (h3 : 1 ≤ r) (h4 : r ≤ 64) (h5 : k ≤ 1000) :
    Calls Tryd.prog 7 #[.int .i64 c, .int .i64 r, .int .i64 k, .string s] w (ValPost w (.bool true)) := by
  have hd : decide ((s.size : Int) > 100) = false := by simp; omega
  go_enter Tryd.func7, Tryd.ntmps7
  go_wp2_with fail
  refine (new_yes c r k _ h1 h2 h3 h4 h5).mono ?_
  rintro e w1 ⟨v1, rfl, hck, hb1⟩
  have hok := newScr_ok c r k h1 h2 h3 h4 h5
  have hom := newRef_ok c r k h1 h2 h3 h4 h5
  have hsim := sim_new c r k
  obtain ⟨S, hS⟩ : ∃ S : Scr, S = newScr c r k := ⟨_, rfl⟩
  obtain ⟨M, hM⟩ : ∃ M : Ref, M = newRef c r k := ⟨_, rfl⟩
  have HMq := Lib.hid hM
  rw [← hS] at hck hok hsim
  rw [← hM] at hom hsim
  have HV1 := Lib.hid hck; have HO := Lib.hid hok; have HOM := Lib.hid hom
  have HE := Lib.hid (hsim.eqv hom)
  obtain ⟨A1, k1, A2, k2, rfl⟩ := hck.form
  have HB1 := Lib.hid hb1
  clear hck hb1 hS hok hom hsim hM
  rw [Scr.vals_eq S]
  go_upto_region 4 with fail
  obtain ⟨w2, hw2⟩ : ∃ w2, w2 = w1.alloc (.cells (S.vals (.slice A1 S.grid.length k1) (.slice A2 S.kept.length k2)) 29) := ⟨_, rfl⟩
  have hb12 : Below w1.heap.size w1 w2 := by rw [hw2]; exact (Below.refl _ _).alloc (Nat.le_refl _) _
  have hx2 : w2.heap[w1.heap.size]? = some (.cells (S.vals (.slice A1 S.grid.length k1) (.slice A2 S.kept.length k2)) 29 (0, 0)) := by rw [hw2]; exact heap_alloc_new _ _
  have HX2 := Lib.hid hx2
  have HV2 := Lib.hid (HV1.out.next hb12)
  have HB2 : Hid (Below w.heap.size w w2) := below_next HB1.out hb12
  rw [Scr.vals_eq S] at hw2
  rw [← hw2]
  obtain ⟨b7, hb7⟩ : ∃ b7, b7 = w1.heap.size := ⟨_, rfl⟩
  rw [← hb7] at HX2 ⊢
  clear hw2 hb12 HV1 HB1 hb7 hx2
  go_wp2_with fail
  refine (rnew_yes c r k _ h1 h2 h3 h4 h5).mono ?_
  rintro e w3 ⟨v3, rfl, hrv, hb3⟩
  rw [← HMq.out] at hrv
  have HU3 := Lib.hid hrv
  have HX3 := Lib.hid ((hb3.block _ (block_lt HX2.out)).trans HX2.out)
  have HV3 := Lib.hid (HV2.out.next hb3)
  have HB3 : Hid (Below w.heap.size w w3) := below_next HB2.out hb3
  obtain ⟨vr, vk', rfl, h21, h22⟩ := hrv
  have h25 := h21.1; have h26 := h22.1
  obtain ⟨-, A3, k3, rfl, -, -, -, -⟩ := h25
  obtain ⟨-, A4, k4, rfl, -, -, -, -⟩ := h26
  clear hb3 h21 h22 HX2 HV2 HB2
  rw [Ref.vals_eq M]
  go_upto_region 7 with fail
  obtain ⟨w4, hw4⟩ : ∃ w4, w4 = w3.alloc (.cells (M.vals (.slice A3 M.rows.length k3) (.slice A4 M.kept.length k4)) 31) := ⟨_, rfl⟩
  have hb34 : Below w3.heap.size w3 w4 := by rw [hw4]; exact (Below.refl _ _).alloc (Nat.le_refl _) _
  have hy4 : w4.heap[w3.heap.size]? = some (.cells (M.vals (.slice A3 M.rows.length k3) (.slice A4 M.kept.length k4)) 31 (0, 0)) := by rw [hw4]; exact heap_alloc_new _ _
  have HY4 := Lib.hid hy4
  have HX4 := Lib.hid ((hb34.block _ (block_lt HX3.out)).trans HX3.out)
  have HV4 := Lib.hid (HV3.out.next hb34)
  have HU4 := Lib.hid (HU3.out.next hb34)
  have HB4 : Hid (Below w.heap.size w w4) := below_next HB3.out hb34
  rw [Ref.vals_eq M] at hw4
  rw [← hw4]
  obtain ⟨bm, hbm⟩ : ∃ bm, bm = w3.heap.size := ⟨_, rfl⟩
  rw [← hbm] at HY4 ⊢
  clear hw4 hb34 hy4 hbm HX3 HV3 HU3 HB3
  go_upto_region 8 with fail
  obtain ⟨w5, hw5⟩ : ∃ w5, w5 = w4.alloc (.cells (zeroScr.vals nilS nilS) 29) := ⟨_, rfl⟩
  have hb45 : Below w4.heap.size w4 w5 := by rw [hw5]; exact (Below.refl _ _).alloc (Nat.le_refl _) _
  have hz5 : w5.heap[w4.heap.size]? = some (.cells (zeroScr.vals nilS nilS) 29 (0, 0)) := by rw [hw5]; exact heap_alloc_new _ _
  have HZ5 := Lib.hid hz5
  have HX5 := Lib.hid ((hb45.block _ (block_lt HX4.out)).trans HX4.out)
  have HY5 := Lib.hid ((hb45.block _ (block_lt HY4.out)).trans HY4.out)
  have HV5 := Lib.hid (HV4.out.next hb45)
  have HU5 := Lib.hid (HU4.out.next hb45)
  have HB5 : Hid (Below w.heap.size w w5) := below_next HB4.out hb45
  obtain ⟨Z, hZ⟩ : ∃ Z : Scr, Z = zeroScr := ⟨_, rfl⟩
  have HZz := Lib.hid hZ
  change Code.wp _ _ _ _ (w4.alloc (.cells (zeroScr.vals nilS nilS) 29))
  rw [← hw5]
  obtain ⟨bz, hbz⟩ : ∃ bz, bz = w4.heap.size := ⟨_, rfl⟩
  rw [← hbz] at HZ5 hz5 ⊢
  rw [← hZ] at HZ5 hz5
  have HN5 : Hid (CK w5 (.agg (Z.vals (.slice none Z.grid.length 0) (.slice none Z.kept.length 0))) Z) := by rw [hZ]; exact cv_zero _
  have hz6 : w5.heap[bz]? = some (.cells (Z.vals (.slice none Z.grid.length 0) (.slice none Z.kept.length 0)) 29 (0, 0)) := by rw [hZ]; rw [hZ] at hz5; exact hz5
  have HC0 : Hid (Z.cols = 0) := by rw [hZ]; exact Lib.hid rfl
  have g0 : w5.cell? ⟨bz, 0, none⟩ = some (.int .i64 Z.cols) := cell_of_row _ _ _ _ _ _ hz6
  have g1 : w5.cell? ⟨bz, 1, none⟩ = some (.int .i64 Z.rows) := cell_of_row _ _ _ _ _ _ hz6
  have g2 : w5.cell? ⟨bz, 2, none⟩ = some (.int .i64 Z.most) := cell_of_row _ _ _ _ _ _ hz6
  have g3 : w5.cell? ⟨bz, 3, none⟩ = some (.int .i64 Z.x) := cell_of_row _ _ _ _ _ _ hz6
  have g4 : w5.cell? ⟨bz, 4, none⟩ = some (.int .i64 Z.y) := cell_of_row _ _ _ _ _ _ hz6
  have g5 : w5.cell? ⟨bz, 5, none⟩ = some (.slice (none) Z.grid.length 0) := cell_of_row _ _ _ _ _ _ hz6
  have g6 : w5.cell? ⟨bz, 6, none⟩ = some (.slice (none) Z.kept.length 0) := cell_of_row _ _ _ _ _ _ hz6
  have g7 : w5.cell? ⟨bz, 7, none⟩ = some (.int .i64 Z.st) := cell_of_row _ _ _ _ _ _ hz6
  have g8 : w5.cell? ⟨bz, 8, none⟩ = some (.int .i64 Z.n0) := cell_of_row _ _ _ _ _ _ hz6
  have g9 : w5.cell? ⟨bz, 9, none⟩ = some (.int .i64 Z.n1) := cell_of_row _ _ _ _ _ _ hz6
  have g10 : w5.cell? ⟨bz, 10, none⟩ = some (.int .i64 Z.num) := cell_of_row _ _ _ _ _ _ hz6
  clear hw5 hb45 hz5 hz6 hbz hZ HX4 HY4 HV4 HU4 HB4
  go_wp2_with fail
  refine (resize_no (.agg (Z.vals (.slice none Z.grid.length 0) (.slice none Z.kept.length 0))) Z 3 3 _ (by exact HN5.out) (Or.inl HC0.out)).mono ?_
  rintro e w6 ⟨v6, rfl, hck6, hb6⟩
  obtain ⟨A5, k5, A6, k6, rfl⟩ := hck6.form
  have HZ6 := Lib.hid ((hb6.block _ (block_lt HZ5.out)).trans HZ5.out)
  have HX6 := Lib.hid ((hb6.block _ (block_lt HX5.out)).trans HX5.out)
  have HY6 := Lib.hid ((hb6.block _ (block_lt HY5.out)).trans HY5.out)
  have HV6 := Lib.hid (HV5.out.next hb6)
  have HU6 := Lib.hid (HU5.out.next hb6)
  have HB6 : Hid (Below w.heap.size w w6) := below_next HB5.out hb6
  clear g0 g1 g2 g3 g4 g5 g6 g7 g8 g9 g10
  clear hck6 hb6 HZ5 HX5 HY5 HV5 HU5 HB5 HN5
  rw [Scr.vals_eq Z]
  go_upto_region 9 with fail
  obtain ⟨w7, hw7⟩ : ∃ w7, w7 = w6.alloc (.cells (Z.vals (.slice A5 Z.grid.length k5) (.slice A6 Z.kept.length k6)) 29) := ⟨_, rfl⟩
  have hb67 : Below w6.heap.size w6 w7 := by rw [hw7]; exact (Below.refl _ _).alloc (Nat.le_refl _) _
  have HZ7 := Lib.hid ((hb67.block _ (block_lt HZ6.out)).trans HZ6.out)
  have HX7 := Lib.hid ((hb67.block _ (block_lt HX6.out)).trans HX6.out)
  have HY7 := Lib.hid ((hb67.block _ (block_lt HY6.out)).trans HY6.out)
  have HV := Lib.hid (HV6.out.next hb67)
  have HU := Lib.hid (HU6.out.next hb67)
  have HB7 : Hid (Below w.heap.size w w7) := below_next HB6.out hb67
  rw [Scr.vals_eq Z] at hw7
  rw [← hw7]
  rw [HZz.out] at HZ7
  have hLs : ∀ w', Later w7 w' → w'.heap[b7]? = some (.cells (S.vals (.slice A1 S.grid.length k1) (.slice A2 S.kept.length k2)) 29 (0, 0)) := fun w' h => (h.block _ (block_lt HX7.out)).trans HX7.out
  have hLm : ∀ w', Later w7 w' → w'.heap[bm]? = some (.cells (M.vals (.slice A3 M.rows.length k3) (.slice A4 M.kept.length k4)) 31 (0, 0)) := fun w' h => (h.block _ (block_lt HY7.out)).trans HY7.out
  have hLz : ∀ w', Later w7 w' → w'.heap[bz]? = some (.cells (zeroScr.vals nilS nilS) 29 (0, 0)) := fun w' h => (h.block _ (block_lt HZ7.out)).trans HZ7.out
  clear hw7 hb67 HZ6 HX6 HY6 HV6 HU6 HB6
  refine wp_region_meek0 [Stay.val (.int .i64 0), Stay.val (.bool true), Stay.val (.bool true), Stay.val (.agg (S.vals (.slice A1 S.grid.length k1) (.slice A2 S.kept.length k2))), Stay.val (.agg (M.vals (.slice A3 M.rows.length k3) (.slice A4 M.kept.length k4))), Stay.val (.bool true), Stay.val (.bool true), Stay.val (.bool true), Stay.val (.agg (zeroScr.vals nilS nilS)), Stay.val (.string s), Stay.ck zeroScr, Stay.val (.agg (zeroRef.vals nilS nilS)), Stay.val (.bool true), Stay.val (.bool true), Stay.val (.bool true), Stay.val (.int .i64 17), Stay.val (.bool true), Stay.val (.bool true), Stay.val (.bool true), Stay.val (.bool true), Stay.val (.bool true), Stay.val (.bool true)] 72 rfl trivial (by kernel_rfl) ?_ ?_
  · refine ⟨meek_plain rfl (body_move _ rfl (opd_out 10 (by kernel_rfl) _ rfl)), ?_⟩
    refine ⟨meek_plain rfl (body_two _ _ _ _ (.bool true) (opd_in 0 51 (by kernel_rfl)) (opd_const (.int .i64 0)) (fun _ => rfl) fun ρ w h1 h2 => (by simp [execOp, h1, h2, go_sem])), ?_⟩
    refine ⟨meek_plain rfl (body_move _ rfl (opd_in 1 52 (by kernel_rfl))), ?_⟩
    refine ⟨meek_on 2 true 72 rfl (by kernel_rfl) (fun _ _ h => h) (body_load _ _ _ _ rfl (opd_out 9 (by kernel_rfl) _ rfl) fun w' h => ⟨load_scr (hLs w' h), rfl⟩), ?_⟩
    refine ⟨meek_on 2 true 72 rfl (by kernel_rfl) (fun _ _ h => h) (body_load _ _ _ _ rfl (opd_out 11 (by kernel_rfl) _ rfl) fun w' h => ⟨load_ref (hLm w' h), rfl⟩), ?_⟩
    refine ⟨meek_on 2 true 72 rfl (by kernel_rfl) (fun _ _ h => h) (body_call2 _ _ _ _ _ _ rfl (by kernel_rfl) (opd_in 3 54 (by kernel_rfl)) (opd_in 4 55 (by kernel_rfl)) fun v u w' h hv hu => ?_), ?_⟩
    · obtain rfl := hv
      obtain rfl := hu
      refine (same_yes _ _ S M _ (HV.out.next h).cv (HU.out.next h) HO.out HOM.out HE.out).mono ?_
      rintro e w9 ⟨rfl, hb9⟩
      exact ⟨_, rfl, hb9, rfl⟩
    refine ⟨meek_plain rfl (body_pick _ _ _ true rfl (opd_in 2 53 (by kernel_rfl)) (opd_in 5 56 (by kernel_rfl))), ?_⟩
    refine ⟨meek_plain rfl (body_move _ rfl (opd_in 6 57 (by kernel_rfl))), ?_⟩
    refine ⟨meek_on 7 true 72 rfl (by kernel_rfl) (fun _ _ h => h) (body_load _ _ _ _ rfl (opd_out 13 (by kernel_rfl) _ rfl) fun w' h => ⟨load_scr (hLz w' h), rfl⟩), ?_⟩
    refine ⟨meek_on 7 true 72 rfl (by kernel_rfl) (fun _ _ h => h) (body_move _ rfl (opd_out 3 (by kernel_rfl) _ rfl)), ?_⟩
    refine ⟨meek_on 7 true 72 rfl (by kernel_rfl) (fun _ _ h => h) (body_call2 _ _ _ _ _ _ rfl (by kernel_rfl) (opd_in 8 59 (by kernel_rfl)) (opd_in 9 60 (by kernel_rfl)) fun v u w' h hv hu => ?_), ?_⟩
    · obtain rfl := hv
      obtain rfl := hu
      refine (write_zero _ s _ (cv_zero _)).mono ?_
      rintro e w9 ⟨v9, rfl, hc9, hb9⟩
      exact ⟨_, rfl, hb9, hc9⟩
    refine ⟨meek_on 7 true 72 rfl (by kernel_rfl) (fun _ _ h => h) (body_nul (.agg (zeroRef.vals nilS nilS)) (fun _ => rfl) fun ρ w => (by exact build_ref ρ w rfl)), ?_⟩
    refine ⟨meek_on 7 true 72 rfl (by kernel_rfl) (fun _ _ h => h) (body_call2 _ _ _ _ _ _ rfl (by kernel_rfl) (opd_in 10 61 (by kernel_rfl)) (opd_in 11 62 (by kernel_rfl)) fun v u w' h hv hu => ?_), ?_⟩
    · obtain rfl := hu
      refine (same_zero _ _ _ (CK.cv hv) (rv_zero _)).mono ?_
      rintro e w9 ⟨rfl, hb9⟩
      exact ⟨_, rfl, hb9, rfl⟩
    refine ⟨meek_plain rfl (body_pick _ _ _ true rfl (opd_in 7 58 (by kernel_rfl)) (opd_in 12 63 (by kernel_rfl))), ?_⟩
    refine ⟨meek_plain rfl (body_move _ rfl (opd_in 13 64 (by kernel_rfl))), ?_⟩
    refine ⟨meek_on 14 true 72 rfl (by kernel_rfl) (fun _ _ h => h) (body_move _ rfl (opd_out 15 (by kernel_rfl) _ rfl)), ?_⟩
    refine ⟨meek_on 14 true 72 rfl (by kernel_rfl) (fun _ _ h => h) (body_two _ _ _ _ (.bool true) (opd_in 15 66 (by kernel_rfl)) (opd_const (.int .i64 17)) (fun _ => rfl) fun ρ w h1 h2 => (by simp [execOp, h1, h2, go_sem])), ?_⟩
    refine ⟨meek_plain rfl (body_pick _ _ _ true rfl (opd_in 14 65 (by kernel_rfl)) (opd_in 16 67 (by kernel_rfl))), ?_⟩
    refine ⟨meek_plain rfl (body_move _ rfl (opd_in 17 68 (by kernel_rfl))), ?_⟩
    refine ⟨meek_on 18 true 72 rfl (by kernel_rfl) (fun _ _ h => h) (body_call0 _ _ rfl (by kernel_rfl)  fun  w' h  => ?_), ?_⟩
    · refine (awake_walk w').mono ?_
      rintro e w9 ⟨rfl, hb9⟩
      exact ⟨_, rfl, hb9, rfl⟩
    refine ⟨meek_plain rfl (body_pick _ _ _ true rfl (opd_in 18 69 (by kernel_rfl)) (opd_in 19 70 (by kernel_rfl))), ?_⟩
    refine ⟨meek_plain rfl (body_assign _ rfl (opd_in 20 71 (by kernel_rfl))), ?_⟩
    exact trivial
  · intro g w12 h12 hend
    have e6 : g 8 = .bool true := meek_val hend 21 8 (by kernel_rfl) _ rfl
    clear hend hLs hLm hLz
    simp only [putAll, Act.put, List.setIfInBounds_toArray, List.set_cons_succ, List.set_cons_zero, e6]
    clear e6
    go_wp2_with fail
    go_ret
    exact ⟨rfl, below_next HB7.out h12⟩

theorem new_all (c r k : Int) (s : ByteArray) (w : World) (hs : s.size ≤ maxLen) :
    Calls Tryd.prog 7 #[.int .i64 c, .int .i64 r, .int .i64 k, .string s] w (ValPost w (.bool true)) := by
  by_cases h : s.size ≤ 100
  · by_cases hb : newB c r k = false
    · exact new_walk_no c r k s w h hb
    · have hb' : newB c r k = true := by simpa using hb
      unfold newB fitsB at hb'
      simp at hb'
      obtain ⟨c, rfl⟩ := Int.eq_ofNat_of_zero_le (show 0 ≤ c by omega)
      obtain ⟨r, rfl⟩ := Int.eq_ofNat_of_zero_le (show 0 ≤ r by omega)
      obtain ⟨k, rfl⟩ := Int.eq_ofNat_of_zero_le (show 0 ≤ k by omega)
      exact new_walk_yes c r k s w h (by omega) (by omega) (by omega) (by omega) (by omega)
  · exact new_big c r k s w (by omega) (by unfold maxLen at hs; omega)
end Go.Proofs.YtiefpodmdpnppaaDoor
