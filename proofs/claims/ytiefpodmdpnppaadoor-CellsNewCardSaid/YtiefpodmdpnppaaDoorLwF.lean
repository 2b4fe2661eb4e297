/-
  WALK of the law CellsWrites.
-/
import Derived.Test.YtiefpodmdpnppaaDoorLwS
import Derived.Test.YtiefpodmdpnppaaDoorPlD
namespace Go.Proofs.YtiefpodmdpnppaaDoor
open Go.RowKit
attribute [local go_sem ↓] Go.wp_at_zero Go.wp_at_succ

def Stay.rv (M : Ref) : Stay := ⟨fun v w => RV w v M, fun _ _ _ h hb => RV.next h hb⟩
set_option maxRecDepth 100000 in
set_option maxHeartbeats 1600000 in
theorem writes_big (a b k : Nat) (s : ByteArray) (w : World) (hs : 500 < s.size) (hs2 : s.size ≤ 9223372036854775807) :
    Calls Tryd.prog 4 #[.agg #[.int .u8 a, .int .u8 b, .int .u8 k], .string s] w (ValPost w (.bool true)) := by
  have hd : decide ((s.size : Int) > 500) = true := by simp; omega
  go_enter Tryd.func4, Tryd.ntmps4
  go_wp2_with fail
  refine (awake_walk _).mono ?_
  rintro e w1 ⟨rfl, hb1⟩
  have HB1 : Hid (Below w.heap.size w w1) := below_next ((Below.refl _ _).alloc (Nat.le_refl _) _) hb1
  clear hb1
  go_wp2_with fail
  go_ret
  exact ⟨rfl, HB1.out⟩

set_option maxRecDepth 100000 in
set_option maxHeartbeats 1600000 in
theorem writes_walk (a b k : Nat) (s : ByteArray) (w : World) (ha : a < 256) (hb : b < 256) (hk : k < 256) (hs : s.size ≤ 500) :
    Calls Tryd.prog 4 #[.agg #[.int .u8 a, .int .u8 b, .int .u8 k], .string s] w (ValPost w (.bool true)) := by
  have hd : decide ((s.size : Int) > 500) = false := by simp; omega
  go_enter Tryd.func4, Tryd.ntmps4
  go_wp2_with fail
  refine (made_walk a b k _ ha hb hk).mono ?_
  rintro e w1 ⟨v1, u1, rfl, hck, hrv, hb1⟩
  have hok := newScr_ok (1 + a % 20) (1 + b % 8) (k % 12) (by omega) (by omega) (by omega) (by omega) (by omega)
  have hom := newRef_ok (1 + a % 20) (1 + b % 8) (k % 12) (by omega) (by omega) (by omega) (by omega) (by omega)
  have hsim := sim_new (1 + a % 20) (1 + b % 8) (k % 12)
  obtain ⟨S, hS⟩ : ∃ S : Scr, S = newScr (1 + a % 20) (1 + b % 8) (k % 12) := ⟨_, rfl⟩
  obtain ⟨M, hM⟩ : ∃ M : Ref, M = newRef (1 + a % 20) (1 + b % 8) (k % 12) := ⟨_, rfl⟩
  have HMA : Hid (M.args = []) := by rw [hM]; exact Lib.hid rfl
  rw [← hS] at hck hok hsim
  rw [← hM] at hrv hom hsim
  have HV1 := Lib.hid hck; have HO := Lib.hid hok; have HOM := Lib.hid hom; have HU1 := Lib.hid hrv
  have HE := Lib.hid (hsim.eqv hom)
  have HOT := Lib.hid (hok.bytes s.data.toList)
  have HON := Lib.hid (hom.bytes s.data.toList)
  have HET := Lib.hid ((hsim.bytes hom s.data.toList).eqv HON.out)
  have HB1 : Hid (Below w.heap.size w w1) := below_next ((Below.refl _ _).alloc (Nat.le_refl _) _) hb1
  obtain ⟨A1, k1, A2, k2, rfl⟩ := hck.form
  obtain ⟨vr, vk', rfl, h21, h22⟩ := hrv
  have h25 := h21.1; have h26 := h22.1
  obtain ⟨-, A3, k3, rfl, -, -, -, -⟩ := h25
  obtain ⟨-, A4, k4, rfl, -, -, -, -⟩ := h26
  clear hck h21 h22 hok hom hsim hb1 hS hM
  rw [Scr.vals_eq S, Ref.vals_eq M]
  go_upto_region 4 with fail
  obtain ⟨w2, hw2⟩ : ∃ w2, w2 = (w1.alloc (.cells (S.vals (.slice A1 S.grid.length k1) (.slice A2 S.kept.length k2)) 29)).alloc (.cells (M.vals (.slice A3 M.rows.length k3) (.slice A4 M.kept.length k4)) 31) := ⟨_, rfl⟩
  have hb12 : Below w1.heap.size w1 w2 := by rw [hw2]; exact below_alloc2 _ _ _
  have hx2 : w2.heap[w1.heap.size]? = some (.cells (S.vals (.slice A1 S.grid.length k1) (.slice A2 S.kept.length k2)) 29 (0, 0)) := by rw [hw2]; exact alloc2_fst _ _ _
  have hy2 : w2.heap[w1.heap.size + 1]? = some (.cells (M.vals (.slice A3 M.rows.length k3) (.slice A4 M.kept.length k4)) 31 (0, 0)) := by rw [hw2]; exact alloc2_snd _ _ _
  have HV2 := Lib.hid (HV1.out.next hb12)
  have HU2 := Lib.hid (HU1.out.next hb12)
  have HB2 : Hid (Below w.heap.size w w2) := below_next HB1.out hb12
  rw [Scr.vals_eq S, Ref.vals_eq M] at hw2
  rw [← hw2]
  obtain ⟨b7, hb7⟩ : ∃ b7, b7 = w1.heap.size := ⟨_, rfl⟩
  rw [← hb7] at hx2 hy2 ⊢
  have hLs : ∀ w', Later w2 w' → w'.heap[b7]? = some (.cells (S.vals (.slice A1 S.grid.length k1) (.slice A2 S.kept.length k2)) 29 (0, 0)) := fun w' h => (h.block _ (block_lt hx2)).trans hx2
  have hLm : ∀ w', Later w2 w' → w'.heap[b7 + 1]? = some (.cells (M.vals (.slice A3 M.rows.length k3) (.slice A4 M.kept.length k4)) 31 (0, 0)) := fun w' h => (h.block _ (block_lt hy2)).trans hy2
  clear hw2 hb12 HV1 HU1 HB1 hb7 hx2 hy2
  refine wp_region_meek [Stay.val (.bool true), Stay.val (.bool true), Stay.val (.agg (S.vals (.slice A1 S.grid.length k1) (.slice A2 S.kept.length k2))), Stay.val (.agg (M.vals (.slice A3 M.rows.length k3) (.slice A4 M.kept.length k4))), Stay.val (.bool true), Stay.val (.bool true), Stay.val (.bool true), Stay.val (.agg (S.vals (.slice A1 S.grid.length k1) (.slice A2 S.kept.length k2))), Stay.val (.string s), Stay.ck (S.bytes s.data.toList), Stay.val (.agg (M.vals (.slice A3 M.rows.length k3) (.slice A4 M.kept.length k4))), Stay.val (.string s), Stay.rv (M.bytes s.data.toList), Stay.val (.bool true), Stay.val (.bool true), Stay.val (.bool true), Stay.val (.agg (S.vals (.slice A1 S.grid.length k1) (.slice A2 S.kept.length k2))), Stay.val (.agg (M.vals (.slice A3 M.rows.length k3) (.slice A4 M.kept.length k4))), Stay.val (.bool true), Stay.val (.bool true), Stay.val (.bool true), Stay.val (.bool true), Stay.val (.bool true), Stay.val (.bool true)] 41 rfl (by kernel_rfl) (by kernel_rfl) ?_ ?_
  · refine ⟨meek_plain rfl (body_move _ rfl (opd_out 7 (by kernel_rfl) _ rfl)), ?_⟩
    refine ⟨meek_plain rfl (body_move _ rfl (opd_in 0 18 (by kernel_rfl))), ?_⟩
    refine ⟨meek_on 1 true 41 rfl (by kernel_rfl) (fun _ _ h => h) (body_load _ _ _ _ rfl (opd_out 5 (by kernel_rfl) _ rfl) fun w' h => ⟨load_scr (hLs w' h), rfl⟩), ?_⟩
    refine ⟨meek_on 1 true 41 rfl (by kernel_rfl) (fun _ _ h => h) (body_load _ _ _ _ rfl (opd_out 6 (by kernel_rfl) _ rfl) fun w' h => ⟨load_ref (hLm w' h), rfl⟩), ?_⟩
    refine ⟨meek_on 1 true 41 rfl (by kernel_rfl) (fun _ _ h => h) (body_call2 _ _ _ _ _ _ rfl (by kernel_rfl) (opd_in 2 20 (by kernel_rfl)) (opd_in 3 21 (by kernel_rfl)) fun v u w' h hv hu => ?_), ?_⟩
    · obtain rfl := hv
      obtain rfl := hu
      refine (same_yes _ _ S M _ (HV2.out.next h).cv (HU2.out.next h) HO.out HOM.out HE.out).mono ?_
      rintro e w9 ⟨rfl, hb9⟩
      exact ⟨_, rfl, hb9, rfl⟩
    refine ⟨meek_plain rfl (body_pick _ _ _ true rfl (opd_in 1 19 (by kernel_rfl)) (opd_in 4 22 (by kernel_rfl))), ?_⟩
    refine ⟨meek_plain rfl (body_move _ rfl (opd_in 5 23 (by kernel_rfl))), ?_⟩
    refine ⟨meek_on 6 true 41 rfl (by kernel_rfl) (fun _ _ h => h) (body_load _ _ _ _ rfl (opd_out 5 (by kernel_rfl) _ rfl) fun w' h => ⟨load_scr (hLs w' h), rfl⟩), ?_⟩
    refine ⟨meek_on 6 true 41 rfl (by kernel_rfl) (fun _ _ h => h) (body_move _ rfl (opd_out 1 (by kernel_rfl) _ rfl)), ?_⟩
    refine ⟨meek_on 6 true 41 rfl (by kernel_rfl) (fun _ _ h => h) (body_call2 _ _ _ _ _ _ rfl (by kernel_rfl) (opd_in 7 25 (by kernel_rfl)) (opd_in 8 26 (by kernel_rfl)) fun v u w' h hv hu => ?_), ?_⟩
    · obtain rfl := hv
      obtain rfl := hu
      refine (write_walk _ S s _ (HV2.out.next h).cv HO.out (by omega)).mono ?_
      rintro e w9 ⟨v9, rfl, hc9, hb9⟩
      exact ⟨_, rfl, hb9, hc9⟩
    refine ⟨meek_on 6 true 41 rfl (by kernel_rfl) (fun _ _ h => h) (body_load _ _ _ _ rfl (opd_out 6 (by kernel_rfl) _ rfl) fun w' h => ⟨load_ref (hLm w' h), rfl⟩), ?_⟩
    refine ⟨meek_on 6 true 41 rfl (by kernel_rfl) (fun _ _ h => h) (body_move _ rfl (opd_out 1 (by kernel_rfl) _ rfl)), ?_⟩
    refine ⟨meek_on 6 true 41 rfl (by kernel_rfl) (fun _ _ h => h) (body_call2 _ _ _ _ _ _ rfl (by kernel_rfl) (opd_in 10 28 (by kernel_rfl)) (opd_in 11 29 (by kernel_rfl)) fun v u w' h hv hu => ?_), ?_⟩
    · obtain rfl := hv
      obtain rfl := hu
      refine (rwrite_walk _ M s _ (HU2.out.next h) HOM.out (by rw [HMA.out]; simp; omega)).mono ?_
      rintro e w9 ⟨v9, rfl, hc9, hb9⟩
      exact ⟨_, rfl, hb9, hc9⟩
    refine ⟨meek_on 6 true 41 rfl (by kernel_rfl) (fun _ _ h => h) (body_call2 _ _ _ _ _ _ rfl (by kernel_rfl) (opd_in 9 27 (by kernel_rfl)) (opd_in 12 30 (by kernel_rfl)) fun v u w' h hv hu => ?_), ?_⟩
    · refine (same_yes _ _ (S.bytes s.data.toList) (M.bytes s.data.toList) _ (CK.cv hv) hu HOT.out HON.out HET.out).mono ?_
      rintro e w9 ⟨rfl, hb9⟩
      exact ⟨_, rfl, hb9, rfl⟩
    refine ⟨meek_plain rfl (body_pick _ _ _ true rfl (opd_in 6 24 (by kernel_rfl)) (opd_in 13 31 (by kernel_rfl))), ?_⟩
    refine ⟨meek_plain rfl (body_move _ rfl (opd_in 14 32 (by kernel_rfl))), ?_⟩
    refine ⟨meek_on 15 true 41 rfl (by kernel_rfl) (fun _ _ h => h) (body_load _ _ _ _ rfl (opd_out 5 (by kernel_rfl) _ rfl) fun w' h => ⟨load_scr (hLs w' h), rfl⟩), ?_⟩
    refine ⟨meek_on 15 true 41 rfl (by kernel_rfl) (fun _ _ h => h) (body_load _ _ _ _ rfl (opd_out 6 (by kernel_rfl) _ rfl) fun w' h => ⟨load_ref (hLm w' h), rfl⟩), ?_⟩
    refine ⟨meek_on 15 true 41 rfl (by kernel_rfl) (fun _ _ h => h) (body_call2 _ _ _ _ _ _ rfl (by kernel_rfl) (opd_in 16 34 (by kernel_rfl)) (opd_in 17 35 (by kernel_rfl)) fun v u w' h hv hu => ?_), ?_⟩
    · obtain rfl := hv
      obtain rfl := hu
      refine (same_yes _ _ S M _ (HV2.out.next h).cv (HU2.out.next h) HO.out HOM.out HE.out).mono ?_
      rintro e w9 ⟨rfl, hb9⟩
      exact ⟨_, rfl, hb9, rfl⟩
    refine ⟨meek_plain rfl (body_pick _ _ _ true rfl (opd_in 15 33 (by kernel_rfl)) (opd_in 18 36 (by kernel_rfl))), ?_⟩
    refine ⟨meek_plain rfl (body_move _ rfl (opd_in 19 37 (by kernel_rfl))), ?_⟩
    refine ⟨meek_on 20 true 41 rfl (by kernel_rfl) (fun _ _ h => h) (body_call0 _ _ rfl (by kernel_rfl)  fun  w' h  => ?_), ?_⟩
    · refine (awake_walk w').mono ?_
      rintro e w9 ⟨rfl, hb9⟩
      exact ⟨_, rfl, hb9, rfl⟩
    refine ⟨meek_plain rfl (body_pick _ _ _ true rfl (opd_in 20 38 (by kernel_rfl)) (opd_in 21 39 (by kernel_rfl))), ?_⟩
    refine ⟨meek_plain rfl (body_assign _ rfl (opd_in 22 40 (by kernel_rfl))), ?_⟩
    exact trivial
  · intro g w12 h12 hend
    have e6 : g 4 = .bool true := meek_val hend 23 4 (by kernel_rfl) _ rfl
    clear hend
    simp only [putAll, Act.put, List.setIfInBounds_toArray, List.set_cons_succ, List.set_cons_zero, e6]
    clear e6
    go_wp2_with fail
    go_ret
    exact ⟨rfl, below_next HB2.out h12⟩
theorem writes_all (a b k : Nat) (s : ByteArray) (w : World) (ha : a < 256) (hb : b < 256) (hk : k < 256) (hs : s.size ≤ maxLen) :
    Calls Tryd.prog 4 #[.agg #[.int .u8 a, .int .u8 b, .int .u8 k], .string s] w (ValPost w (.bool true)) := by
  by_cases h : s.size ≤ 500
  · exact writes_walk a b k s w ha hb hk h
  · exact writes_big a b k s w (by omega) (by unfold maxLen at hs; omega)
end Go.Proofs.YtiefpodmdpnppaaDoor
