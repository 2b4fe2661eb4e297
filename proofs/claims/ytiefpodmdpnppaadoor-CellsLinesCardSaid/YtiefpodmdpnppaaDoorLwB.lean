/-
  WALKS of layer 56's laws: made.
-/
import Derived.Test.YtiefpodmdpnppaaDoorLwA
import Derived.Deep.RegionHeld3
namespace Go.Proofs.YtiefpodmdpnppaaDoor
open Go.RowKit

def MadePost (w : World) (S : Scr) (M : Ref) (e : Ending) (w' : World) : Prop := ∃ v u, e = .returned (.tuple #[v, u, .bool true]) ∧ CK w' v S ∧ RV w' u M ∧ Below w.heap.size w w'

theorem RdT.twoG {w w' : World} {e t1 t2 : TypeId} {b n : Nat} {v : Value} {xs : List Value} {c1 c2 : Array Value} {f1 f2 : Nat × Nat} (h : RdT w e v n xs) (h1 : w.heap[b]? = some (.cells c1 t1 f1)) (h2 : w.heap[b + 1]? = some (.cells c2 t2 f2)) (ne1 : e ≠ t1) (ne2 : e ≠ t2) (ht : Two b w w') : RdT w' e v n xs := by
  rcases Nat.eq_zero_or_pos n with h0 | hn
  · obtain ⟨q1, A, c, hv, q2, q3, q4, q5⟩ := h.1
    exact ⟨⟨q1, A, c, hv, q2, q3, q4, fun hn => absurd hn (by omega)⟩, fun hn => absurd hn (by omega)⟩
  · obtain ⟨q1, A, c, hv, q2, q3, q4, q5⟩ := h.1
    obtain ⟨g, o, hA, hlt, hc⟩ := q5 hn
    obtain ⟨cur, fz', hk⟩ := h.2 hn g (by rw [hv, hA]; rfl)
    have hg1 : g ≠ b := by
      rintro rfl
      rw [hk] at h1
      injection h1 with h1
      injection h1 with _ hh
      exact ne1 hh
    have hg2 : g ≠ b + 1 := by
      rintro rfl
      rw [hk] at h2
      injection h2 with h2
      injection h2 with _ hh
      exact ne2 hh
    have hblk := ht g hg1 hg2
    have hlt' : g < w'.heap.size := block_lt (hblk.trans hk)
    refine ⟨⟨q1, A, c, hv, q2, q3, q4, fun _ => ⟨g, o, hA, hlt', fun j u hu => (World.cell?_of_block (a := ⟨g, o + j, none⟩) hblk).trans (hc j u hu)⟩⟩, fun _ g' hg' => ?_⟩
    rw [hv, hA] at hg'
    injection hg' with hg'
    subst hg'
    exact ⟨cur, fz', hblk.trans hk⟩
theorem CK.two {w w' : World} {b : Nat} {v : Value} {S : Scr} {c1 c2 : Array Value} {f1 f2 : Nat × Nat} (h : CK w v S) (h1 : w.heap[b]? = some (.cells c1 29 f1)) (h2 : w.heap[b + 1]? = some (.cells c2 31 f2)) (ht : Two b w w') : CK w' v S := by
  obtain ⟨vc, vk, hv, q1, q2, q3, q4⟩ := h
  exact ⟨vc, vk, hv, q1.twoG h1 h2 (by decide) (by decide) ht, q2.twoG h1 h2 (by decide) (by decide) ht, q3, q4⟩
theorem RV.two {w w' : World} {b : Nat} {v : Value} {M : Ref} {c1 c2 : Array Value} {f1 f2 : Nat × Nat} (h : RV w v M) (h1 : w.heap[b]? = some (.cells c1 29 f1)) (h2 : w.heap[b + 1]? = some (.cells c2 31 f2)) (ht : Two b w w') : RV w' v M := by
  obtain ⟨vc, vk, hv, q1, q2⟩ := h
  exact ⟨vc, vk, hv, q1.twoG h1 h2 (by decide) (by decide) ht, q2.twoG h1 h2 (by decide) (by decide) ht⟩
theorem keepM {X w' : World} {B bS bM : Nat} {S : Scr} {M : Ref} {A1 A2 A3 A4 : Option Addr} {n1 n2 n3 n4 k1 k2 k3 k4 : Nat} (HS : Hid (X.heap[bS]? = some (.cells (S.vals (.slice A1 n1 k1) (.slice A2 n2 k2)) 29 (0, 0)))) (HM : Hid (X.heap[bM]? = some (.cells (M.vals (.slice A3 n3 k3) (.slice A4 n4 k4)) 31 (0, 0)))) (s1 : bS ≠ B) (s2 : bS ≠ B + 1) (m1 : bM ≠ B) (m2 : bM ≠ B + 1) (h : Two B X w') :
    w'.cell? ⟨bS, 0, none⟩ = some (.int .i64 S.cols) ∧ w'.cell? ⟨bS, 1, none⟩ = some (.int .i64 S.rows) ∧ w'.cell? ⟨bS, 2, none⟩ = some (.int .i64 S.most) ∧ w'.cell? ⟨bS, 3, none⟩ = some (.int .i64 S.x) ∧ w'.cell? ⟨bS, 4, none⟩ = some (.int .i64 S.y) ∧ w'.cell? ⟨bS, 5, none⟩ = some (.slice A1 n1 k1) ∧ w'.cell? ⟨bS, 6, none⟩ = some (.slice A2 n2 k2) ∧ w'.cell? ⟨bS, 7, none⟩ = some (.int .i64 S.st) ∧ w'.cell? ⟨bS, 8, none⟩ = some (.int .i64 S.n0) ∧ w'.cell? ⟨bS, 9, none⟩ = some (.int .i64 S.n1) ∧ w'.cell? ⟨bS, 10, none⟩ = some (.int .i64 S.num) ∧ w'.cell? ⟨bM, 0, none⟩ = some (.int .i64 M.w) ∧ w'.cell? ⟨bM, 1, none⟩ = some (.int .i64 M.h) ∧ w'.cell? ⟨bM, 2, none⟩ = some (.int .i64 M.most) ∧ w'.cell? ⟨bM, 3, none⟩ = some (.slice A3 n3 k3) ∧ w'.cell? ⟨bM, 4, none⟩ = some (.slice A4 n4 k4) ∧ w'.cell? ⟨bM, 5, none⟩ = some (.int .i64 M.x) ∧ w'.cell? ⟨bM, 6, none⟩ = some (.int .i64 M.y) ∧ w'.cell? ⟨bM, 7, none⟩ = some (.int .i64 M.begun) ∧ w'.cell? ⟨bM, 8, none⟩ = some (.string (bs M.args)) ∧ Hid (Two B X w') := by
  have hs := (h bS s1 s2).trans HS.out
  have hm := (h bM m1 m2).trans HM.out
  exact ⟨cell_of_row _ _ _ _ _ _ hs, cell_of_row _ _ _ _ _ _ hs, cell_of_row _ _ _ _ _ _ hs, cell_of_row _ _ _ _ _ _ hs, cell_of_row _ _ _ _ _ _ hs, cell_of_row _ _ _ _ _ _ hs, cell_of_row _ _ _ _ _ _ hs, cell_of_row _ _ _ _ _ _ hs, cell_of_row _ _ _ _ _ _ hs, cell_of_row _ _ _ _ _ _ hs, cell_of_row _ _ _ _ _ _ hs, cell_of_row _ _ _ _ _ _ hm, cell_of_row _ _ _ _ _ _ hm, cell_of_row _ _ _ _ _ _ hm, cell_of_row _ _ _ _ _ _ hm, cell_of_row _ _ _ _ _ _ hm, cell_of_row _ _ _ _ _ _ hm, cell_of_row _ _ _ _ _ _ hm, cell_of_row _ _ _ _ _ _ hm, cell_of_row _ _ _ _ _ _ hm, h⟩
theorem Two.drew {b : Nat} {a w : World} (h : Two b a w) : Two b a w.drew := h
set_option maxRecDepth 100000 in
set_option maxHeartbeats 1600000 in
theorem made_walk (a b k : Nat) (w : World) (ha : a < 256) (hb : b < 256) (hk : k < 256) :
    Calls Tryd.prog 11 #[.agg #[.int .u8 a, .int .u8 b, .int .u8 k]] w (MadePost w (newScr (1 + a % 20) (1 + b % 8) (k % 12)) (newRef (1 + a % 20) (1 + b % 8) (k % 12))) := by
  obtain ⟨W0, hW0⟩ : ∃ W, W = ((w.alloc (.cells #[.int .u8 a, .int .u8 b, .int .u8 k] 23)).alloc (.cells #[.int .i64 0, .int .i64 0, .int .i64 0, .int .i64 0, .int .i64 0, .slice none 0 0, .slice none 0 0, .int .i64 0, .int .i64 0, .int .i64 0, .int .i64 0] 29)).alloc (.cells #[.int .i64 0, .int .i64 0, .int .i64 0, .slice none 0 0, .slice none 0 0, .int .i64 0, .int .i64 0, .int .i64 0, .string ⟨#[]⟩] 31) := ⟨_, rfl⟩
  have hz1 : W0.heap[w.heap.size + 1]? = some (.cells (zeroScr.vals nilS nilS) 29 (0, 0)) := by
    rw [hW0, Below.heap_alloc _ _ _ (by simp)]; exact alloc2_snd _ _ _
  have hz2 : W0.heap[w.heap.size + 2]? = some (.cells (zeroRef.vals nilS nilS) 31 (0, 0)) := by
    rw [hW0]
    have := alloc2_snd (w.alloc (.cells #[.int .u8 a, .int .u8 b, .int .u8 k] 23)) (.cells #[.int .i64 0, .int .i64 0, .int .i64 0, .int .i64 0, .int .i64 0, .slice none 0 0, .slice none 0 0, .int .i64 0, .int .i64 0, .int .i64 0, .int .i64 0] 29) (.cells #[.int .i64 0, .int .i64 0, .int .i64 0, .slice none 0 0, .slice none 0 0, .int .i64 0, .int .i64 0, .int .i64 0, .string ⟨#[]⟩] 31)
    rw [show (w.alloc (.cells #[.int .u8 a, .int .u8 b, .int .u8 k] 23)).heap.size + 1 = w.heap.size + 2 from by simp] at this
    exact this
  have hbW : Below w.heap.size w W0 := by rw [hW0]; exact ((below_alloc2 _ _ _).alloc (by simp; omega) _)
  have hbx : W0.heap[w.heap.size]? = some (.cells #[.int .u8 a, .int .u8 b, .int .u8 k] 23 (0, 0)) := by
    rw [hW0, Below.heap_alloc _ _ _ (by simp; omega)]; exact alloc2_fst _ _ _
  have hc0 : W0.cell? ⟨w.heap.size, 0, none⟩ = some (.int .u8 a) := cell_of_row _ _ _ _ _ _ hbx
  have hc1 : W0.cell? ⟨w.heap.size, 1, none⟩ = some (.int .u8 b) := cell_of_row _ _ _ _ _ _ hbx
  have hc2 : W0.cell? ⟨w.heap.size, 2, none⟩ = some (.int .u8 k) := cell_of_row _ _ _ _ _ _ hbx
  clear hbx
  have HW := Lib.hid hW0; have HZ1 := Lib.hid hz1; have HZ2 := Lib.hid hz2; have HBW := Lib.hid hbW
  clear hW0 hz1 hz2 hbW
  go_enter Tryd.func11, Tryd.ntmps11
  go_upto_region 1 with fail
  rw [← HW.out]
  clear HW
  go_quiet (fail)
  obtain ⟨W, hW⟩ : ∃ W, W = W0.drewN nq := ⟨_, rfl⟩
  rw [← hW]
  have Z1 : Hid (W.heap[w.heap.size + 1]? = some (.cells (zeroScr.vals nilS nilS) 29 (0, 0))) := by rw [hW]; exact HZ1.out
  have Z2 : Hid (W.heap[w.heap.size + 2]? = some (.cells (zeroRef.vals nilS nilS) 31 (0, 0))) := by rw [hW]; exact HZ2.out
  have ZB : Hid (Below w.heap.size w W) := by rw [hW]; exact below_dn HBW.out nq
  clear hW HZ1 HZ2 HBW hc0 hc1 hc2
  go_wp2_with fail
  obtain ⟨c, hc⟩ : ∃ c : Nat, c = 1 + a % 20 := ⟨_, rfl⟩
  obtain ⟨r, hr⟩ : ∃ r : Nat, r = 1 + b % 8 := ⟨_, rfl⟩
  obtain ⟨m, hm⟩ : ∃ m : Nat, m = k % 12 := ⟨_, rfl⟩
  rw [show (1 + (a : Int) % 20) = (c : Int) from by omega, show (1 + (b : Int) % 8) = (r : Int) from by omega, show ((k : Int) % 12) = (m : Int) from by omega]
  have c1 : 1 ≤ c := by omega
  have c2 : c ≤ 128 := by omega
  have r1 : 1 ≤ r := by omega
  have r2 : r ≤ 64 := by omega
  have m1 : m ≤ 1000 := by omega
  have HC := Lib.hid hc; have HR := Lib.hid hr; have HMm := Lib.hid hm
  clear hc hr hm
  refine (new_yes c r m _ c1 c2 r1 r2 m1).mono ?_
  rintro e w1 ⟨v1, rfl, hck1, hb1⟩
  have HV1 := Lib.hid hck1
  obtain ⟨vc1, vk1, rfl, h11, h12, h13, h14⟩ := hck1
  have h15 := h11.1; have h16 := h12.1
  obtain ⟨-, A1, k1, rfl, -, -, -, -⟩ := h15
  obtain ⟨-, A2, k2, rfl, -, -, -, -⟩ := h16
  obtain ⟨S, hS⟩ : ∃ S : Scr, S = newScr c r m := ⟨_, rfl⟩
  rw [← hS] at HV1 ⊢
  have HS := Lib.hid hS
  have HB1 := Lib.hid hb1
  clear h11 h12 h13 h14 hb1 hS
  rw [Scr.vals_eq S]
  go_wp2_with fail
  refine (rnew_yes c r m _ c1 c2 r1 r2 m1).mono ?_
  rintro e w2 ⟨v2, rfl, hrv2, hb2⟩
  have HV2 := Lib.hid hrv2
  obtain ⟨vr2, vk2, rfl, h11, h12⟩ := hrv2
  have h15 := h11.1; have h16 := h12.1
  obtain ⟨-, A3, k3, rfl, -, -, -, -⟩ := h15
  obtain ⟨-, A4, k4, rfl, -, -, -, -⟩ := h16
  obtain ⟨M, hM⟩ : ∃ M : Ref, M = newRef c r m := ⟨_, rfl⟩
  rw [← hM] at HV2 ⊢
  have HMM := Lib.hid hM
  have hbA : Below w1.heap.size w1 (w1.alloc (.cells (S.vals (.slice A1 S.grid.length k1) (.slice A2 S.kept.length k2)) 29)) := (Below.refl _ _).alloc (Nat.le_refl _) _
  have hbB : Below w1.heap.size w1 w2 := below_next hbA hb2
  have hxS : w2.heap[w1.heap.size]? = some (.cells (S.vals (.slice A1 S.grid.length k1) (.slice A2 S.kept.length k2)) 29 (0, 0)) := (hb2.block _ (by simp)).trans (heap_alloc_new _ _)
  have hz1 := ((HB1.out.trans (hbB.mono HB1.out.size)).block _ (block_lt Z1.out)).trans Z1.out
  have hz2 := ((HB1.out.trans (hbB.mono HB1.out.size)).block _ (block_lt Z2.out)).trans Z2.out
  have HVS := Lib.hid (HV1.out.next hbB)
  have HB2 : Hid (Below w.heap.size w w2) := below_next (below_next ZB.out HB1.out) hbB
  have HXS := Lib.hid hxS; have HZ1 := Lib.hid hz1; have HZ2 := Lib.hid hz2
  have g0 : w2.cell? ⟨w1.heap.size, 0, none⟩ = some (.int .i64 S.cols) := cell_of_row _ _ _ _ _ _ hxS
  have g1 : w2.cell? ⟨w1.heap.size, 1, none⟩ = some (.int .i64 S.rows) := cell_of_row _ _ _ _ _ _ hxS
  have g2 : w2.cell? ⟨w1.heap.size, 2, none⟩ = some (.int .i64 S.most) := cell_of_row _ _ _ _ _ _ hxS
  have g3 : w2.cell? ⟨w1.heap.size, 3, none⟩ = some (.int .i64 S.x) := cell_of_row _ _ _ _ _ _ hxS
  have g4 : w2.cell? ⟨w1.heap.size, 4, none⟩ = some (.int .i64 S.y) := cell_of_row _ _ _ _ _ _ hxS
  have g5 : w2.cell? ⟨w1.heap.size, 5, none⟩ = some (.slice A1 S.grid.length k1) := cell_of_row _ _ _ _ _ _ hxS
  have g6 : w2.cell? ⟨w1.heap.size, 6, none⟩ = some (.slice A2 S.kept.length k2) := cell_of_row _ _ _ _ _ _ hxS
  have g7 : w2.cell? ⟨w1.heap.size, 7, none⟩ = some (.int .i64 S.st) := cell_of_row _ _ _ _ _ _ hxS
  have g8 : w2.cell? ⟨w1.heap.size, 8, none⟩ = some (.int .i64 S.n0) := cell_of_row _ _ _ _ _ _ hxS
  have g9 : w2.cell? ⟨w1.heap.size, 9, none⟩ = some (.int .i64 S.n1) := cell_of_row _ _ _ _ _ _ hxS
  have g10 : w2.cell? ⟨w1.heap.size, 10, none⟩ = some (.int .i64 S.num) := cell_of_row _ _ _ _ _ _ hxS
  have ltS : w1.heap.size < w2.heap.size := block_lt hxS
  have lt1 : w.heap.size + 1 < w2.heap.size := block_lt hz1
  have lt2 : w.heap.size + 2 < w2.heap.size := block_lt hz2
  have d0 : w2.cell? ⟨w.heap.size + 1, 0, none⟩ = some (.int .i64 0) := cell_of_row _ _ _ _ _ _ hz1
  have d1 : w2.cell? ⟨w.heap.size + 1, 1, none⟩ = some (.int .i64 0) := cell_of_row _ _ _ _ _ _ hz1
  have d2 : w2.cell? ⟨w.heap.size + 1, 2, none⟩ = some (.int .i64 0) := cell_of_row _ _ _ _ _ _ hz1
  have d3 : w2.cell? ⟨w.heap.size + 1, 3, none⟩ = some (.int .i64 0) := cell_of_row _ _ _ _ _ _ hz1
  have d4 : w2.cell? ⟨w.heap.size + 1, 4, none⟩ = some (.int .i64 0) := cell_of_row _ _ _ _ _ _ hz1
  have d5 : w2.cell? ⟨w.heap.size + 1, 5, none⟩ = some (.slice none 0 0) := cell_of_row _ _ _ _ _ _ hz1
  have d6 : w2.cell? ⟨w.heap.size + 1, 6, none⟩ = some (.slice none 0 0) := cell_of_row _ _ _ _ _ _ hz1
  have d7 : w2.cell? ⟨w.heap.size + 1, 7, none⟩ = some (.int .i64 0) := cell_of_row _ _ _ _ _ _ hz1
  have d8 : w2.cell? ⟨w.heap.size + 1, 8, none⟩ = some (.int .i64 0) := cell_of_row _ _ _ _ _ _ hz1
  have d9 : w2.cell? ⟨w.heap.size + 1, 9, none⟩ = some (.int .i64 0) := cell_of_row _ _ _ _ _ _ hz1
  have d10 : w2.cell? ⟨w.heap.size + 1, 10, none⟩ = some (.int .i64 0) := cell_of_row _ _ _ _ _ _ hz1
  have z0 : w2.frozen? ⟨w.heap.size + 1, 0, none⟩ = false := frozen_of_row _ _ _ _ _ hz1
  have z1 : w2.frozen? ⟨w.heap.size + 1, 1, none⟩ = false := frozen_of_row _ _ _ _ _ hz1
  have z2 : w2.frozen? ⟨w.heap.size + 1, 2, none⟩ = false := frozen_of_row _ _ _ _ _ hz1
  have z3 : w2.frozen? ⟨w.heap.size + 1, 3, none⟩ = false := frozen_of_row _ _ _ _ _ hz1
  have z4 : w2.frozen? ⟨w.heap.size + 1, 4, none⟩ = false := frozen_of_row _ _ _ _ _ hz1
  have z5 : w2.frozen? ⟨w.heap.size + 1, 5, none⟩ = false := frozen_of_row _ _ _ _ _ hz1
  have z6 : w2.frozen? ⟨w.heap.size + 1, 6, none⟩ = false := frozen_of_row _ _ _ _ _ hz1
  have z7 : w2.frozen? ⟨w.heap.size + 1, 7, none⟩ = false := frozen_of_row _ _ _ _ _ hz1
  have z8 : w2.frozen? ⟨w.heap.size + 1, 8, none⟩ = false := frozen_of_row _ _ _ _ _ hz1
  have z9 : w2.frozen? ⟨w.heap.size + 1, 9, none⟩ = false := frozen_of_row _ _ _ _ _ hz1
  have z10 : w2.frozen? ⟨w.heap.size + 1, 10, none⟩ = false := frozen_of_row _ _ _ _ _ hz1
  have y0 : w2.cell? ⟨w.heap.size + 2, 0, none⟩ = some (.int .i64 0) := cell_of_row _ _ _ _ _ _ hz2
  have y1 : w2.cell? ⟨w.heap.size + 2, 1, none⟩ = some (.int .i64 0) := cell_of_row _ _ _ _ _ _ hz2
  have y2 : w2.cell? ⟨w.heap.size + 2, 2, none⟩ = some (.int .i64 0) := cell_of_row _ _ _ _ _ _ hz2
  have y3 : w2.cell? ⟨w.heap.size + 2, 3, none⟩ = some (.slice none 0 0) := cell_of_row _ _ _ _ _ _ hz2
  have y4 : w2.cell? ⟨w.heap.size + 2, 4, none⟩ = some (.slice none 0 0) := cell_of_row _ _ _ _ _ _ hz2
  have y5 : w2.cell? ⟨w.heap.size + 2, 5, none⟩ = some (.int .i64 0) := cell_of_row _ _ _ _ _ _ hz2
  have y6 : w2.cell? ⟨w.heap.size + 2, 6, none⟩ = some (.int .i64 0) := cell_of_row _ _ _ _ _ _ hz2
  have y7 : w2.cell? ⟨w.heap.size + 2, 7, none⟩ = some (.int .i64 0) := cell_of_row _ _ _ _ _ _ hz2
  have y8 : w2.cell? ⟨w.heap.size + 2, 8, none⟩ = some (.string ⟨#[]⟩) := cell_of_row _ _ _ _ _ _ hz2
  have x0 : w2.frozen? ⟨w.heap.size + 2, 0, none⟩ = false := frozen_of_row _ _ _ _ _ hz2
  have x1 : w2.frozen? ⟨w.heap.size + 2, 1, none⟩ = false := frozen_of_row _ _ _ _ _ hz2
  have x2 : w2.frozen? ⟨w.heap.size + 2, 2, none⟩ = false := frozen_of_row _ _ _ _ _ hz2
  have x3 : w2.frozen? ⟨w.heap.size + 2, 3, none⟩ = false := frozen_of_row _ _ _ _ _ hz2
  have x4 : w2.frozen? ⟨w.heap.size + 2, 4, none⟩ = false := frozen_of_row _ _ _ _ _ hz2
  have x5 : w2.frozen? ⟨w.heap.size + 2, 5, none⟩ = false := frozen_of_row _ _ _ _ _ hz2
  have x6 : w2.frozen? ⟨w.heap.size + 2, 6, none⟩ = false := frozen_of_row _ _ _ _ _ hz2
  have x7 : w2.frozen? ⟨w.heap.size + 2, 7, none⟩ = false := frozen_of_row _ _ _ _ _ hz2
  have x8 : w2.frozen? ⟨w.heap.size + 2, 8, none⟩ = false := frozen_of_row _ _ _ _ _ hz2
  clear h11 h12 hb2 hM hbA hbB hxS hz1 hz2
  rw [Ref.vals_eq M]
  go_upto_region 4 with fail
  obtain ⟨w3, hw3⟩ : ∃ w3, w3 = w2.alloc (.cells #[.int .i64 M.w, .int .i64 M.h, .int .i64 M.most, .slice A3 M.rows.length k3, .slice A4 M.kept.length k4, .int .i64 M.x, .int .i64 M.y, .int .i64 M.begun, .string (bs M.args)] 31) := ⟨_, rfl⟩
  rw [← hw3]
  have hb3 : Below w2.heap.size w2 w3 := by rw [hw3]; exact (Below.refl _ _).alloc (Nat.le_refl _) _
  have hxM : w3.heap[w2.heap.size]? = some (.cells (M.vals (.slice A3 M.rows.length k3) (.slice A4 M.kept.length k4)) 31 (0, 0)) := by rw [hw3]; exact heap_alloc_new _ _
  have HXM := Lib.hid hxM
  have HXS3 := Lib.hid ((hb3.block _ (block_lt HXS.out)).trans HXS.out)
  have hz1 := (hb3.block _ (block_lt HZ1.out)).trans HZ1.out
  have hz2 := (hb3.block _ (block_lt HZ2.out)).trans HZ2.out
  have HZ13 := Lib.hid hz1; have HZ23 := Lib.hid hz2
  have HVS3 := Lib.hid (HVS.out.next hb3)
  have HVM3 := Lib.hid (HV2.out.next hb3)
  have HB3 : Hid (Below w.heap.size w w3) := below_next HB2.out hb3
  have s1 : w1.heap.size ≠ w.heap.size + 1 := by have := HB1.out.size; have := block_lt Z1.out; omega
  have s2 : w1.heap.size ≠ w.heap.size + 1 + 1 := by have := HB1.out.size; have := block_lt Z2.out; omega
  have m1' : w2.heap.size ≠ w.heap.size + 1 := by omega
  have m2' : w2.heap.size ≠ w.heap.size + 1 + 1 := by omega
  clear g0 d0 z0 g1 d1 z1 g2 d2 z2 g3 d3 z3 g4 d4 z4 g5 d5 z5 g6 d6 z6 g7 d7 z7 g8 d8 z8 g9 d9 z9 g10 d10 z10 y0 x0 y1 x1 y2 x2 y3 x3 y4 x4 y5 x5 y6 x6 y7 x7 y8 x8
  have d0 : w3.cell? ⟨w.heap.size + 1, 0, none⟩ = some (.int .i64 0) := cell_of_row _ _ _ _ _ _ hz1
  have z0 : w3.frozen? ⟨w.heap.size + 1, 0, none⟩ = false := frozen_of_row _ _ _ _ _ hz1
  have d1 : w3.cell? ⟨w.heap.size + 1, 1, none⟩ = some (.int .i64 0) := cell_of_row _ _ _ _ _ _ hz1
  have z1 : w3.frozen? ⟨w.heap.size + 1, 1, none⟩ = false := frozen_of_row _ _ _ _ _ hz1
  have d2 : w3.cell? ⟨w.heap.size + 1, 2, none⟩ = some (.int .i64 0) := cell_of_row _ _ _ _ _ _ hz1
  have z2 : w3.frozen? ⟨w.heap.size + 1, 2, none⟩ = false := frozen_of_row _ _ _ _ _ hz1
  have d3 : w3.cell? ⟨w.heap.size + 1, 3, none⟩ = some (.int .i64 0) := cell_of_row _ _ _ _ _ _ hz1
  have z3 : w3.frozen? ⟨w.heap.size + 1, 3, none⟩ = false := frozen_of_row _ _ _ _ _ hz1
  have d4 : w3.cell? ⟨w.heap.size + 1, 4, none⟩ = some (.int .i64 0) := cell_of_row _ _ _ _ _ _ hz1
  have z4 : w3.frozen? ⟨w.heap.size + 1, 4, none⟩ = false := frozen_of_row _ _ _ _ _ hz1
  have d5 : w3.cell? ⟨w.heap.size + 1, 5, none⟩ = some (.slice none 0 0) := cell_of_row _ _ _ _ _ _ hz1
  have z5 : w3.frozen? ⟨w.heap.size + 1, 5, none⟩ = false := frozen_of_row _ _ _ _ _ hz1
  have d6 : w3.cell? ⟨w.heap.size + 1, 6, none⟩ = some (.slice none 0 0) := cell_of_row _ _ _ _ _ _ hz1
  have z6 : w3.frozen? ⟨w.heap.size + 1, 6, none⟩ = false := frozen_of_row _ _ _ _ _ hz1
  have d7 : w3.cell? ⟨w.heap.size + 1, 7, none⟩ = some (.int .i64 0) := cell_of_row _ _ _ _ _ _ hz1
  have z7 : w3.frozen? ⟨w.heap.size + 1, 7, none⟩ = false := frozen_of_row _ _ _ _ _ hz1
  have d8 : w3.cell? ⟨w.heap.size + 1, 8, none⟩ = some (.int .i64 0) := cell_of_row _ _ _ _ _ _ hz1
  have z8 : w3.frozen? ⟨w.heap.size + 1, 8, none⟩ = false := frozen_of_row _ _ _ _ _ hz1
  have d9 : w3.cell? ⟨w.heap.size + 1, 9, none⟩ = some (.int .i64 0) := cell_of_row _ _ _ _ _ _ hz1
  have z9 : w3.frozen? ⟨w.heap.size + 1, 9, none⟩ = false := frozen_of_row _ _ _ _ _ hz1
  have d10 : w3.cell? ⟨w.heap.size + 1, 10, none⟩ = some (.int .i64 0) := cell_of_row _ _ _ _ _ _ hz1
  have z10 : w3.frozen? ⟨w.heap.size + 1, 10, none⟩ = false := frozen_of_row _ _ _ _ _ hz1
  have y0 : w3.cell? ⟨w.heap.size + 2, 0, none⟩ = some (.int .i64 0) := cell_of_row _ _ _ _ _ _ hz2
  have y1 : w3.cell? ⟨w.heap.size + 2, 1, none⟩ = some (.int .i64 0) := cell_of_row _ _ _ _ _ _ hz2
  have y2 : w3.cell? ⟨w.heap.size + 2, 2, none⟩ = some (.int .i64 0) := cell_of_row _ _ _ _ _ _ hz2
  have y3 : w3.cell? ⟨w.heap.size + 2, 3, none⟩ = some (.slice none 0 0) := cell_of_row _ _ _ _ _ _ hz2
  have y4 : w3.cell? ⟨w.heap.size + 2, 4, none⟩ = some (.slice none 0 0) := cell_of_row _ _ _ _ _ _ hz2
  have y5 : w3.cell? ⟨w.heap.size + 2, 5, none⟩ = some (.int .i64 0) := cell_of_row _ _ _ _ _ _ hz2
  have y6 : w3.cell? ⟨w.heap.size + 2, 6, none⟩ = some (.int .i64 0) := cell_of_row _ _ _ _ _ _ hz2
  have y7 : w3.cell? ⟨w.heap.size + 2, 7, none⟩ = some (.int .i64 0) := cell_of_row _ _ _ _ _ _ hz2
  have y8 : w3.cell? ⟨w.heap.size + 2, 8, none⟩ = some (.string ⟨#[]⟩) := cell_of_row _ _ _ _ _ _ hz2
  have x0 : w3.frozen? ⟨w.heap.size + 2, 0, none⟩ = false := frozen_of_row _ _ _ _ _ hz2
  have x1 : w3.frozen? ⟨w.heap.size + 2, 1, none⟩ = false := frozen_of_row _ _ _ _ _ hz2
  have x2 : w3.frozen? ⟨w.heap.size + 2, 2, none⟩ = false := frozen_of_row _ _ _ _ _ hz2
  have x3 : w3.frozen? ⟨w.heap.size + 2, 3, none⟩ = false := frozen_of_row _ _ _ _ _ hz2
  have x4 : w3.frozen? ⟨w.heap.size + 2, 4, none⟩ = false := frozen_of_row _ _ _ _ _ hz2
  have x5 : w3.frozen? ⟨w.heap.size + 2, 5, none⟩ = false := frozen_of_row _ _ _ _ _ hz2
  have x6 : w3.frozen? ⟨w.heap.size + 2, 6, none⟩ = false := frozen_of_row _ _ _ _ _ hz2
  have x7 : w3.frozen? ⟨w.heap.size + 2, 7, none⟩ = false := frozen_of_row _ _ _ _ _ hz2
  have x8 : w3.frozen? ⟨w.heap.size + 2, 8, none⟩ = false := frozen_of_row _ _ _ _ _ hz2
  clear hw3 hb3 hxM hz1 hz2 HXS HZ1 HZ2 HVS HV2 HB2
  go_region_held3 (fun w' => w'.cell? ⟨w1.heap.size, 0, none⟩ = some (.int .i64 S.cols) ∧ w'.cell? ⟨w1.heap.size, 1, none⟩ = some (.int .i64 S.rows) ∧ w'.cell? ⟨w1.heap.size, 2, none⟩ = some (.int .i64 S.most) ∧ w'.cell? ⟨w1.heap.size, 3, none⟩ = some (.int .i64 S.x) ∧ w'.cell? ⟨w1.heap.size, 4, none⟩ = some (.int .i64 S.y) ∧ w'.cell? ⟨w1.heap.size, 5, none⟩ = some (.slice A1 S.grid.length k1) ∧ w'.cell? ⟨w1.heap.size, 6, none⟩ = some (.slice A2 S.kept.length k2) ∧ w'.cell? ⟨w1.heap.size, 7, none⟩ = some (.int .i64 S.st) ∧ w'.cell? ⟨w1.heap.size, 8, none⟩ = some (.int .i64 S.n0) ∧ w'.cell? ⟨w1.heap.size, 9, none⟩ = some (.int .i64 S.n1) ∧ w'.cell? ⟨w1.heap.size, 10, none⟩ = some (.int .i64 S.num) ∧ w'.cell? ⟨w2.heap.size, 0, none⟩ = some (.int .i64 M.w) ∧ w'.cell? ⟨w2.heap.size, 1, none⟩ = some (.int .i64 M.h) ∧ w'.cell? ⟨w2.heap.size, 2, none⟩ = some (.int .i64 M.most) ∧ w'.cell? ⟨w2.heap.size, 3, none⟩ = some (.slice A3 M.rows.length k3) ∧ w'.cell? ⟨w2.heap.size, 4, none⟩ = some (.slice A4 M.kept.length k4) ∧ w'.cell? ⟨w2.heap.size, 5, none⟩ = some (.int .i64 M.x) ∧ w'.cell? ⟨w2.heap.size, 6, none⟩ = some (.int .i64 M.y) ∧ w'.cell? ⟨w2.heap.size, 7, none⟩ = some (.int .i64 M.begun) ∧ w'.cell? ⟨w2.heap.size, 8, none⟩ = some (.string (bs M.args)) ∧ Hid (Two (w.heap.size + 1) w3 w')) (exact keepM HXS3 HXM s1 s2 m1' m2' (by repeat (first | with_reducible exact Two.refl _ _ | with_reducible refine Two.setA ?_ _ _ | with_reducible refine Two.setC ?_ _ _ | with_reducible refine Two.drew ?_))) (fail)
  all_goals
    go_wp2_with fail
    rw [← HC.out, ← HR.out, ← HMm.out, ← HS.out, ← HMM.out]
    refine bodyPost_ret (v := .tuple #[.agg (S.vals (.slice A1 S.grid.length k1) (.slice A2 S.kept.length k2)), .agg (M.vals (.slice A3 M.rows.length k3) (.slice A4 M.kept.length k4)), .bool true]) (by simp [results, Tryd.results11, go_sem, Ref.vals, Scr.vals, d0, d1, d2, d3, d4, d5, d6, d7, d8, d9, d10, y0, y1, y2, y3, y4, y5, y6, y7, y8]) rfl ⟨_, _, rfl, ?_, ?_, ?_⟩
    · exact HVS3.out.two HZ13.out HZ23.out (by repeat (first | with_reducible exact Two.refl _ _ | with_reducible refine Two.setA ?_ _ _ | with_reducible refine Two.setC ?_ _ _ | with_reducible refine Two.drew ?_))
    · exact HVM3.out.two HZ13.out HZ23.out (by repeat (first | with_reducible exact Two.refl _ _ | with_reducible refine Two.setA ?_ _ _ | with_reducible refine Two.setC ?_ _ _ | with_reducible refine Two.drew ?_))
    · exact (by repeat (first | with_reducible exact HB3.out | with_reducible refine below_setG ?_ _ (by omega) _ _ | with_reducible refine below_drew ?_))
end Go.Proofs.YtiefpodmdpnppaaDoor
