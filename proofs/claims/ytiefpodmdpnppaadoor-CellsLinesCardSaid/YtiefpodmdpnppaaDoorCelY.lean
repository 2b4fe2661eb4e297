/-
  WALKS of layer 56's document: command, J; all commands.
-/
import Derived.Test.YtiefpodmdpnppaaDoorCelX
namespace Go.Proofs.YtiefpodmdpnppaaDoor
open Go.RowKit

set_option maxRecDepth 100000 in
set_option maxHeartbeats 3200000 in
theorem rcmd_74 (v : Value) (M : Ref) (w : World) (h : RV w v M) (ok : M.Ok) (ha : M.args.length ≤ 100000) (hbig : ¬ 2 < numL M.args 0) :
    Calls Tryd.prog 48 #[v, .int .u8 74] w (RVPost w (M.command 74)) := by
  have hyr : M.y < M.rows.length := by rw [ok.r]; exact ok.y
  have hrl : M.rows.length ≤ 64 := by rw [ok.r]; exact ok.h2
  have hrh : M.rows.length = M.h := ok.r
  have HRH := Lib.hid hrh
  have HRW := Lib.hid ok.rw
  clear hrh
  obtain ⟨vr, vk, rfl, h1, h2⟩ := h
  have H1 := Lib.hid h1; have H2 := Lib.hid h2
  obtain ⟨-, A4, c4, rfl, -, -, -, -⟩ := h2.1
  obtain ⟨-, A3, c3, rfl, -, -, -, -⟩ := h1.1
  clear h1 h2
  have hw1 := ok.w1; have hw2 := ok.w2; have hh1 := ok.h1; have hh2 := ok.h2; have hx := ok.x; have hy := ok.y
  have HA := Lib.hid ok.a
  have hn0 := numL_le M.args 0; have hn1 := numL_le M.args 1
  obtain ⟨f, hf⟩ : ∃ f : Int → Nat, ∀ i, f i = numL M.args i.toNat := ⟨_, fun _ => rfl⟩
  have NF : ∀ (i : Int) (w : World), 0 ≤ i → Calls Tryd.prog 66 #[.string (bs M.args), .int .i64 i] w (fun e w' => e = .returned (.int .i64 (f i)) ∧ w' = w) := fun i w hi => by
    obtain ⟨k, rfl⟩ := Int.eq_ofNat_of_zero_le hi
    rw [hf]
    exact (number_any M.args k w HA.out ha).mono fun _ _ ⟨h1, h2⟩ => ⟨h1, h2.symm⟩
  have HNF := Lib.hid NF
  have e0 : f 0 = numL M.args 0 := hf 0
  have e1 : f 1 = numL M.args 1 := hf 1
  obtain ⟨q, hq⟩ : ∃ q : Nat, q = min M.x (M.w - 1) := ⟨_, rfl⟩
  have HMf0 : Hid (M.command 74 = (M.wipeTo (f 0) M.h).erase M.y (f 0) q) := by
    show Hid ((if 2 < numL M.args 0 then M else (M.wipeTo (numL M.args 0) M.h).erase M.y (numL M.args 0) (min M.x (M.w - 1))) = _)
    rw [if_neg hbig, ← e0, hq]
    exact Lib.hid rfl
  rw [← e0] at hbig
  have hbi : decide ((f 0 : Int) > 2) = false := by simp; omega
  have hmin : min (M.x : Int) ((M.w : Int) - 1) = (q : Int) := by omega
  have hqw : q < M.w := by omega
  clear hq
  rw [← e0] at hn0
  rw [← e1] at hn1
  have HE0 := Lib.hid e0; have HE1 := Lib.hid e1
  clear NF ok ha hf e0 e1
  obtain ⟨n3, hn3⟩ : ∃ n : Nat, n = M.rows.length := ⟨_, rfl⟩
  obtain ⟨n4, hn4⟩ : ∃ n : Nat, n = M.kept.length := ⟨_, rfl⟩
  rw [← hn3] at H1 ⊢
  rw [← hn4] at H2 ⊢
  obtain ⟨W, hW⟩ : ∃ W, W = (w.alloc (.cells (M.vals (.slice A3 n3 c3) (.slice A4 n4 c4)) 31)).alloc (.cells #[.int .i64 0, .int .i64 0, .int .i64 0, .slice none 0 0, .slice none 0 0, .int .i64 0, .int .i64 0, .int .i64 0, .string ⟨#[]⟩] 31) := ⟨_, rfl⟩
  have hWx : W.heap[w.heap.size]? = some (.cells (M.vals (.slice A3 n3 c3) (.slice A4 n4 c4)) 31 (0, 0)) := by rw [hW]; exact alloc2_fst _ _ _
  have hWy : W.heap[w.heap.size + 1]? = some (.cells (zeroRef.vals nilS nilS) 31 (0, 0)) := by rw [hW]; exact alloc2_snd _ _ _
  have hWb : Below w.heap.size w W := by rw [hW]; exact below_alloc2 _ _ _
  have hWs : W.heap.size = w.heap.size + 2 := by rw [hW]; simp
  have k8 : W.cell? ⟨w.heap.size, 8, none⟩ = some (.string (bs M.args)) := cell_of_row _ _ _ _ _ _ hWx
  have HW := Lib.hid hW; have HX := Lib.hid hWx; have HY := Lib.hid hWy; have HB := Lib.hid hWb; have HS := Lib.hid hWs; have HN3 := Lib.hid hn3; have HN4 := Lib.hid hn4
  clear hW hWx hWy hWb hWs hn3 hn4
  go_enter Tryd.func48, Tryd.ntmps48
  go_upto_region 1 with fail
  rw [← HW.out]
  clear HW
  go_quiet ((go_at_call 66; exact Calls.quiet_of_same (HNF.out _ _ (by decide))))
  obtain ⟨W1, hW1⟩ : ∃ W1, W1 = W.drewN nq := ⟨_, rfl⟩
  rw [← hW1]
  have hx1 : W1.heap[w.heap.size]? = some (.cells (M.vals (.slice A3 n3 c3) (.slice A4 n4 c4)) 31 (0, 0)) := by rw [hW1]; exact HX.out
  have hy1 : W1.heap[w.heap.size + 1]? = some (.cells (zeroRef.vals nilS nilS) 31 (0, 0)) := by rw [hW1]; exact HY.out
  have hbW1 : Below w.heap.size w W1 := by rw [hW1]; exact below_dn HB.out nq
  have hs1 : W1.heap.size = w.heap.size + 2 := by rw [hW1]; exact HS.out
  have e0 : W1.cell? ⟨w.heap.size, 0, none⟩ = some (.int .i64 M.w) := cell_of_row _ _ _ _ _ _ hx1
  have e1 : W1.cell? ⟨w.heap.size, 1, none⟩ = some (.int .i64 M.h) := cell_of_row _ _ _ _ _ _ hx1
  have e2 : W1.cell? ⟨w.heap.size, 2, none⟩ = some (.int .i64 M.most) := cell_of_row _ _ _ _ _ _ hx1
  have e3 : W1.cell? ⟨w.heap.size, 3, none⟩ = some (.slice A3 n3 c3) := cell_of_row _ _ _ _ _ _ hx1
  have e4 : W1.cell? ⟨w.heap.size, 4, none⟩ = some (.slice A4 n4 c4) := cell_of_row _ _ _ _ _ _ hx1
  have e5 : W1.cell? ⟨w.heap.size, 5, none⟩ = some (.int .i64 M.x) := cell_of_row _ _ _ _ _ _ hx1
  have e6 : W1.cell? ⟨w.heap.size, 6, none⟩ = some (.int .i64 M.y) := cell_of_row _ _ _ _ _ _ hx1
  have e7 : W1.cell? ⟨w.heap.size, 7, none⟩ = some (.int .i64 M.begun) := cell_of_row _ _ _ _ _ _ hx1
  have e8 : W1.cell? ⟨w.heap.size, 8, none⟩ = some (.string (bs M.args)) := cell_of_row _ _ _ _ _ _ hx1
  have f5 : W1.frozen? ⟨w.heap.size, 5, none⟩ = false := frozen_of_row _ _ _ _ _ hx1
  have f6 : W1.frozen? ⟨w.heap.size, 6, none⟩ = false := frozen_of_row _ _ _ _ _ hx1
  have d0 : W1.cell? ⟨w.heap.size + 1, 0, none⟩ = some (.int .i64 0) := cell_of_row _ _ _ _ _ _ hy1
  have d1 : W1.cell? ⟨w.heap.size + 1, 1, none⟩ = some (.int .i64 0) := cell_of_row _ _ _ _ _ _ hy1
  have d2 : W1.cell? ⟨w.heap.size + 1, 2, none⟩ = some (.int .i64 0) := cell_of_row _ _ _ _ _ _ hy1
  have d3 : W1.cell? ⟨w.heap.size + 1, 3, none⟩ = some (.slice none 0 0) := cell_of_row _ _ _ _ _ _ hy1
  have d4 : W1.cell? ⟨w.heap.size + 1, 4, none⟩ = some (.slice none 0 0) := cell_of_row _ _ _ _ _ _ hy1
  have d5 : W1.cell? ⟨w.heap.size + 1, 5, none⟩ = some (.int .i64 0) := cell_of_row _ _ _ _ _ _ hy1
  have d6 : W1.cell? ⟨w.heap.size + 1, 6, none⟩ = some (.int .i64 0) := cell_of_row _ _ _ _ _ _ hy1
  have d7 : W1.cell? ⟨w.heap.size + 1, 7, none⟩ = some (.int .i64 0) := cell_of_row _ _ _ _ _ _ hy1
  have d8 : W1.cell? ⟨w.heap.size + 1, 8, none⟩ = some (.string ⟨#[]⟩) := cell_of_row _ _ _ _ _ _ hy1
  have z0 : W1.frozen? ⟨w.heap.size + 1, 0, none⟩ = false := frozen_of_row _ _ _ _ _ hy1
  have z1 : W1.frozen? ⟨w.heap.size + 1, 1, none⟩ = false := frozen_of_row _ _ _ _ _ hy1
  have z2 : W1.frozen? ⟨w.heap.size + 1, 2, none⟩ = false := frozen_of_row _ _ _ _ _ hy1
  have z3 : W1.frozen? ⟨w.heap.size + 1, 3, none⟩ = false := frozen_of_row _ _ _ _ _ hy1
  have z4 : W1.frozen? ⟨w.heap.size + 1, 4, none⟩ = false := frozen_of_row _ _ _ _ _ hy1
  have z5 : W1.frozen? ⟨w.heap.size + 1, 5, none⟩ = false := frozen_of_row _ _ _ _ _ hy1
  have z6 : W1.frozen? ⟨w.heap.size + 1, 6, none⟩ = false := frozen_of_row _ _ _ _ _ hy1
  have z7 : W1.frozen? ⟨w.heap.size + 1, 7, none⟩ = false := frozen_of_row _ _ _ _ _ hy1
  have z8 : W1.frozen? ⟨w.heap.size + 1, 8, none⟩ = false := frozen_of_row _ _ _ _ _ hy1
  have HX1 := Lib.hid hx1; have HY1 := Lib.hid hy1; have HB1 := Lib.hid hbW1; have HS1 := Lib.hid hs1
  clear hx1 hy1 hbW1 hs1 hW1 k8
  go_wp2_with fail
  go_loopw [9] (fun iv wr => ∃ k : Nat, k ≤ M.h ∧ iv = .int .i64 k ∧ Hid (RB wr w.heap.size (M.wipeTo (f 0) k)) ∧ Hid (wr.heap[w.heap.size + 1]? = some (.cells (zeroRef.vals nilS nilS) 31 (0, 0))) ∧ Hid (Below w.heap.size w wr)) (fun iv _ => M.h - (intOf iv).toNat)
  case atStart => exact ⟨0, Nat.zero_le _, rfl, ⟨_, _, HX1.out, by rw [show M.wipeTo (f 0) 0 = M from rfl, ← HN3.out]; exact H1.out.next HB1.out, by rw [show M.wipeTo (f 0) 0 = M from rfl, ← HN4.out]; exact H2.out.next HB1.out⟩, HY1.out, HB1.out⟩
  case round =>
    clear e0 e1 e2 e3 e4 e5 e6 e7 e8 f5 f6 d0 z0 d1 z1 d2 z2 d3 z3 d4 z4 d5 z5 d6 z6 d7 z7 d8 z8
    obtain ⟨k, hk, rfl, hRB, HYr, HBr⟩ := hrel
    obtain ⟨vr, vk, hxr, hr1, hr2⟩ := hRB.out
    have hNw := wipeTo_w M (f 0) k
    have hNrw := wipeTo_rows M (f 0) k HRW.out (by rw [HRH.out]; exact hk)
    obtain ⟨N, hN⟩ : ∃ N : Ref, N = M.wipeTo (f 0) k := ⟨_, rfl⟩
    have HNN := Lib.hid hN
    rw [← hN] at hxr hr1 hr2 hNw hNrw
    clear hN hRB
    obtain ⟨w1', w2', w3', w4', w5'⟩ := hNw
    have HNw := Lib.hid w1'; have HNh := Lib.hid w2'; have HNy := Lib.hid w3'; have HNr := Lib.hid w5'; have HNrw := Lib.hid hNrw
    obtain ⟨n5, hn5⟩ : ∃ n : Nat, n = N.rows.length := ⟨_, rfl⟩
    obtain ⟨n6, hn6⟩ : ∃ n : Nat, n = N.kept.length := ⟨_, rfl⟩
    rw [← hn5] at hr1
    rw [← hn6] at hr2
    have h31 := hr1.1; have h41 := hr2.1
    obtain ⟨-, A5, c5, rfl, -, -, -, -⟩ := h31
    obtain ⟨-, A6, c6, rfl, -, -, -, -⟩ := h41
    have HL5 := Lib.hid hn5; have HL6 := Lib.hid hn6
    have o0 : wr.cell? ⟨w.heap.size, 0, none⟩ = some (.int .i64 N.w) := cell_of_row _ _ _ _ _ _ hxr
    have o1 : wr.cell? ⟨w.heap.size, 1, none⟩ = some (.int .i64 N.h) := cell_of_row _ _ _ _ _ _ hxr
    have o2 : wr.cell? ⟨w.heap.size, 2, none⟩ = some (.int .i64 N.most) := cell_of_row _ _ _ _ _ _ hxr
    have o3 : wr.cell? ⟨w.heap.size, 3, none⟩ = some (.slice A5 n5 c5) := cell_of_row _ _ _ _ _ _ hxr
    have o4 : wr.cell? ⟨w.heap.size, 4, none⟩ = some (.slice A6 n6 c6) := cell_of_row _ _ _ _ _ _ hxr
    have o5 : wr.cell? ⟨w.heap.size, 5, none⟩ = some (.int .i64 N.x) := cell_of_row _ _ _ _ _ _ hxr
    have o6 : wr.cell? ⟨w.heap.size, 6, none⟩ = some (.int .i64 N.y) := cell_of_row _ _ _ _ _ _ hxr
    have o7 : wr.cell? ⟨w.heap.size, 7, none⟩ = some (.int .i64 N.begun) := cell_of_row _ _ _ _ _ _ hxr
    have o8 : wr.cell? ⟨w.heap.size, 8, none⟩ = some (.string (bs N.args)) := cell_of_row _ _ _ _ _ _ hxr
    have HXr := Lib.hid hxr; have HR1 := Lib.hid hr1; have HR2 := Lib.hid hr2
    have hNhM : N.h ≤ M.h := Nat.le_of_eq w2'
    have hMNh : M.h ≤ N.h := Nat.le_of_eq w2'.symm
    have hNyM : N.y ≤ M.y := Nat.le_of_eq w3'
    have hMNy : M.y ≤ N.y := Nat.le_of_eq w3'.symm
    clear w1' w2' w3' w4' w5' hNrw hn5 hn6 hxr hr1 hr2
    by_cases hlt : k < M.h
    · have hkr : k < M.rows.length := by rw [HRH.out]; exact hlt
      have hlt' : k < N.h := by omega
      have hd : decide ((k : Int) < (N.h : Int)) = true := by simp; omega
      rcases (by omega : f 0 = 2 ∨ f 0 = 0 ∨ f 0 = 1) with h2 | h0 | h1
      · have hwip : wipes (f 0) k M.y = true := by rw [h2]; rfl
        have t2 : ((f 0 : Int) == 2) = true := by rw [h2]; rfl
        clear h2
        go_wp2_with fail
        have hrwN : (N.rows.getD k []).length = N.w := by
          have hm : N.rows.getD k [] ∈ N.rows := by rw [List.getD_eq_getElem?_getD, List.getElem?_eq_getElem (by rw [HNr.out]; exact hkr)]; exact List.getElem_mem _
          rw [HNrw.out _ hm, HNw.out]
        refine (erase_lit (.agg (N.vals (.slice A5 n5 c5) (.slice A6 n6 c6))) N k _ (by exact ⟨_, _, rfl, by rw [← HL5.out]; exact HR1.out, by rw [← HL6.out]; exact HR2.out⟩) (by rw [HNr.out]; omega) (by rw [HNr.out]; exact hkr) hrwN (by rw [HNw.out]; omega)).mono ?_
        rintro e w5 ⟨v5, rfl, ⟨vr5, vk5, rfl, h15, h25⟩, hb5⟩
        have h35 := h15.1; have h45 := h25.1
        obtain ⟨-, A7, c7, rfl, -, -, -, -⟩ := h35
        obtain ⟨-, A8, c8, rfl, -, -, -, -⟩ := h45
        obtain ⟨K, hK⟩ : ∃ K : Ref, K = N.erase k 2 0 := ⟨_, rfl⟩
        rw [← hK] at h15 h25 ⊢
        have HM2 : Hid (M.wipeTo (f 0) (k + 1) = K) := by rw [hK, HNN.out]; show Hid ((if wipes (f 0) k M.y then _ else _) = _); rw [if_pos hwip]; exact Lib.hid rfl
        have hx5 : w5.heap[w.heap.size]? = some (.cells (N.vals (.slice A5 n5 c5) (.slice A6 n6 c6)) 31 (0, 0)) := (hb5.block _ (block_lt HXr.out)).trans HXr.out
        have hy5 : w5.heap[w.heap.size + 1]? = some (.cells (zeroRef.vals nilS nilS) 31 (0, 0)) := (hb5.block _ (block_lt HYr.out)).trans HYr.out
        have hbw5 : Below w.heap.size w w5 := below_next HBr.out hb5
        have hs5 : w.heap.size + 2 ≤ w5.heap.size := by have := block_lt hy5; omega
        have p0 : w5.cell? ⟨w.heap.size, 0, none⟩ = some (.int .i64 N.w) := cell_of_row _ _ _ _ _ _ hx5
        have p1 : w5.cell? ⟨w.heap.size, 1, none⟩ = some (.int .i64 N.h) := cell_of_row _ _ _ _ _ _ hx5
        have p2 : w5.cell? ⟨w.heap.size, 2, none⟩ = some (.int .i64 N.most) := cell_of_row _ _ _ _ _ _ hx5
        have p3 : w5.cell? ⟨w.heap.size, 3, none⟩ = some (.slice A5 n5 c5) := cell_of_row _ _ _ _ _ _ hx5
        have p4 : w5.cell? ⟨w.heap.size, 4, none⟩ = some (.slice A6 n6 c6) := cell_of_row _ _ _ _ _ _ hx5
        have p5 : w5.cell? ⟨w.heap.size, 5, none⟩ = some (.int .i64 N.x) := cell_of_row _ _ _ _ _ _ hx5
        have p6 : w5.cell? ⟨w.heap.size, 6, none⟩ = some (.int .i64 N.y) := cell_of_row _ _ _ _ _ _ hx5
        have p7 : w5.cell? ⟨w.heap.size, 7, none⟩ = some (.int .i64 N.begun) := cell_of_row _ _ _ _ _ _ hx5
        have p8 : w5.cell? ⟨w.heap.size, 8, none⟩ = some (.string (bs N.args)) := cell_of_row _ _ _ _ _ _ hx5
        have u0 : w5.frozen? ⟨w.heap.size, 0, none⟩ = false := frozen_of_row _ _ _ _ _ hx5
        have u1 : w5.frozen? ⟨w.heap.size, 1, none⟩ = false := frozen_of_row _ _ _ _ _ hx5
        have u2 : w5.frozen? ⟨w.heap.size, 2, none⟩ = false := frozen_of_row _ _ _ _ _ hx5
        have u3 : w5.frozen? ⟨w.heap.size, 3, none⟩ = false := frozen_of_row _ _ _ _ _ hx5
        have u4 : w5.frozen? ⟨w.heap.size, 4, none⟩ = false := frozen_of_row _ _ _ _ _ hx5
        have u5 : w5.frozen? ⟨w.heap.size, 5, none⟩ = false := frozen_of_row _ _ _ _ _ hx5
        have u6 : w5.frozen? ⟨w.heap.size, 6, none⟩ = false := frozen_of_row _ _ _ _ _ hx5
        have u7 : w5.frozen? ⟨w.heap.size, 7, none⟩ = false := frozen_of_row _ _ _ _ _ hx5
        have u8 : w5.frozen? ⟨w.heap.size, 8, none⟩ = false := frozen_of_row _ _ _ _ _ hx5
        have g1 := grown_setCells w5 w.heap.size 0 (K.vals (.slice A7 K.rows.length c7) (.slice A8 K.kept.length c8)).toList
        have hrel1 := ref_over hx5 K (.slice A7 K.rows.length c7) (.slice A8 K.kept.length c8)
        have hrel2 := h15.ne hx5 (by decide) g1
        have hrel3 := h25.ne hx5 (by decide) g1
        have hrel4 := (g1.block (w.heap.size + 1) (by omega) (fun he => by injection he with he; omega)).trans hy5
        have hrel5 := hbw5.grown g1 (by omega) (fun q hq => by injection hq with hq; omega)
        have Q1 := Lib.hid hrel1; have Q2 := Lib.hid hrel2; have Q3 := Lib.hid hrel3; have Q4 := Lib.hid hrel4; have Q5 := Lib.hid hrel5
        rw [Ref.vals_eq K]
        clear hx5 hy5 hbw5 h15 h25 hb5 hK hrwN g1 hrel1 hrel2 hrel3 hrel4 hrel5
        go_wp2_with fail
        go_roundw
        case rel =>
          refine ⟨k + 1, by omega, by go_num, ?_, Q4.out, Q5.out⟩
          rw [HM2.out]
          exact ⟨_, _, Q1.out, Q2.out, Q3.out⟩
        case measure => simp [intOf]; omega
      · have t2 : ((f 0 : Int) == 2) = false := by rw [h0]; rfl
        have t0 : ((f 0 : Int) == 0) = true := by rw [h0]; rfl
        have t1 : ((f 0 : Int) == 1) = false := by rw [h0]; rfl
        by_cases hky : M.y < k
        · have hwip : wipes (f 0) k M.y = true := by rw [h0]; simp [wipes]; exact hky
          have hdy : decide ((k : Int) > (N.y : Int)) = true := by simp; omega
          clear h0
          go_wp2_with fail
          have hrwN : (N.rows.getD k []).length = N.w := by
            have hm : N.rows.getD k [] ∈ N.rows := by rw [List.getD_eq_getElem?_getD, List.getElem?_eq_getElem (by rw [HNr.out]; exact hkr)]; exact List.getElem_mem _
            rw [HNrw.out _ hm, HNw.out]
          refine (erase_lit (.agg (N.vals (.slice A5 n5 c5) (.slice A6 n6 c6))) N k _ (by exact ⟨_, _, rfl, by rw [← HL5.out]; exact HR1.out, by rw [← HL6.out]; exact HR2.out⟩) (by rw [HNr.out]; omega) (by rw [HNr.out]; exact hkr) hrwN (by rw [HNw.out]; omega)).mono ?_
          rintro e w5 ⟨v5, rfl, ⟨vr5, vk5, rfl, h15, h25⟩, hb5⟩
          have h35 := h15.1; have h45 := h25.1
          obtain ⟨-, A7, c7, rfl, -, -, -, -⟩ := h35
          obtain ⟨-, A8, c8, rfl, -, -, -, -⟩ := h45
          obtain ⟨K, hK⟩ : ∃ K : Ref, K = N.erase k 2 0 := ⟨_, rfl⟩
          rw [← hK] at h15 h25 ⊢
          have HM2 : Hid (M.wipeTo (f 0) (k + 1) = K) := by rw [hK, HNN.out]; show Hid ((if wipes (f 0) k M.y then _ else _) = _); rw [if_pos hwip]; exact Lib.hid rfl
          have hx5 : w5.heap[w.heap.size]? = some (.cells (N.vals (.slice A5 n5 c5) (.slice A6 n6 c6)) 31 (0, 0)) := (hb5.block _ (block_lt HXr.out)).trans HXr.out
          have hy5 : w5.heap[w.heap.size + 1]? = some (.cells (zeroRef.vals nilS nilS) 31 (0, 0)) := (hb5.block _ (block_lt HYr.out)).trans HYr.out
          have hbw5 : Below w.heap.size w w5 := below_next HBr.out hb5
          have hs5 : w.heap.size + 2 ≤ w5.heap.size := by have := block_lt hy5; omega
          have p0 : w5.cell? ⟨w.heap.size, 0, none⟩ = some (.int .i64 N.w) := cell_of_row _ _ _ _ _ _ hx5
          have p1 : w5.cell? ⟨w.heap.size, 1, none⟩ = some (.int .i64 N.h) := cell_of_row _ _ _ _ _ _ hx5
          have p2 : w5.cell? ⟨w.heap.size, 2, none⟩ = some (.int .i64 N.most) := cell_of_row _ _ _ _ _ _ hx5
          have p3 : w5.cell? ⟨w.heap.size, 3, none⟩ = some (.slice A5 n5 c5) := cell_of_row _ _ _ _ _ _ hx5
          have p4 : w5.cell? ⟨w.heap.size, 4, none⟩ = some (.slice A6 n6 c6) := cell_of_row _ _ _ _ _ _ hx5
          have p5 : w5.cell? ⟨w.heap.size, 5, none⟩ = some (.int .i64 N.x) := cell_of_row _ _ _ _ _ _ hx5
          have p6 : w5.cell? ⟨w.heap.size, 6, none⟩ = some (.int .i64 N.y) := cell_of_row _ _ _ _ _ _ hx5
          have p7 : w5.cell? ⟨w.heap.size, 7, none⟩ = some (.int .i64 N.begun) := cell_of_row _ _ _ _ _ _ hx5
          have p8 : w5.cell? ⟨w.heap.size, 8, none⟩ = some (.string (bs N.args)) := cell_of_row _ _ _ _ _ _ hx5
          have u0 : w5.frozen? ⟨w.heap.size, 0, none⟩ = false := frozen_of_row _ _ _ _ _ hx5
          have u1 : w5.frozen? ⟨w.heap.size, 1, none⟩ = false := frozen_of_row _ _ _ _ _ hx5
          have u2 : w5.frozen? ⟨w.heap.size, 2, none⟩ = false := frozen_of_row _ _ _ _ _ hx5
          have u3 : w5.frozen? ⟨w.heap.size, 3, none⟩ = false := frozen_of_row _ _ _ _ _ hx5
          have u4 : w5.frozen? ⟨w.heap.size, 4, none⟩ = false := frozen_of_row _ _ _ _ _ hx5
          have u5 : w5.frozen? ⟨w.heap.size, 5, none⟩ = false := frozen_of_row _ _ _ _ _ hx5
          have u6 : w5.frozen? ⟨w.heap.size, 6, none⟩ = false := frozen_of_row _ _ _ _ _ hx5
          have u7 : w5.frozen? ⟨w.heap.size, 7, none⟩ = false := frozen_of_row _ _ _ _ _ hx5
          have u8 : w5.frozen? ⟨w.heap.size, 8, none⟩ = false := frozen_of_row _ _ _ _ _ hx5
          have g1 := grown_setCells w5 w.heap.size 0 (K.vals (.slice A7 K.rows.length c7) (.slice A8 K.kept.length c8)).toList
          have hrel1 := ref_over hx5 K (.slice A7 K.rows.length c7) (.slice A8 K.kept.length c8)
          have hrel2 := h15.ne hx5 (by decide) g1
          have hrel3 := h25.ne hx5 (by decide) g1
          have hrel4 := (g1.block (w.heap.size + 1) (by omega) (fun he => by injection he with he; omega)).trans hy5
          have hrel5 := hbw5.grown g1 (by omega) (fun q hq => by injection hq with hq; omega)
          have Q1 := Lib.hid hrel1; have Q2 := Lib.hid hrel2; have Q3 := Lib.hid hrel3; have Q4 := Lib.hid hrel4; have Q5 := Lib.hid hrel5
          rw [Ref.vals_eq K]
          clear hx5 hy5 hbw5 h15 h25 hb5 hK hrwN g1 hrel1 hrel2 hrel3 hrel4 hrel5
          go_wp2_with fail
          go_roundw
          case rel =>
            refine ⟨k + 1, by omega, by go_num, ?_, Q4.out, Q5.out⟩
            rw [HM2.out]
            exact ⟨_, _, Q1.out, Q2.out, Q3.out⟩
          case measure => simp [intOf]; omega
        · have hwip : wipes (f 0) k M.y = false := by rw [h0]; simp [wipes]; omega
          have hdy : decide ((k : Int) > (N.y : Int)) = false := by simp; omega
          have hdz : ¬ N.y < k := by omega
          clear h0
          have HM2 : Hid (M.wipeTo (f 0) (k + 1) = N) := by rw [HNN.out]; show Hid ((if wipes (f 0) k M.y then _ else _) = _); rw [if_neg (by rw [hwip]; simp)]; exact Lib.hid rfl
          go_wp2_with fail
          go_roundw
          case rel =>
            refine ⟨k + 1, by omega, by go_num, ?_, HYr.out, HBr.out⟩
            rw [HM2.out]
            exact ⟨_, _, HXr.out, by rw [← HL5.out]; exact HR1.out, by rw [← HL6.out]; exact HR2.out⟩
          case measure => simp [intOf]; omega
      · have t2 : ((f 0 : Int) == 2) = false := by rw [h1]; rfl
        have t0 : ((f 0 : Int) == 0) = false := by rw [h1]; rfl
        have t1 : ((f 0 : Int) == 1) = true := by rw [h1]; rfl
        by_cases hky : k < M.y
        · have hwip : wipes (f 0) k M.y = true := by rw [h1]; simp [wipes]; exact hky
          have hdy : decide ((k : Int) < (N.y : Int)) = true := by simp; omega
          clear h1
          go_wp2_with fail
          have hrwN : (N.rows.getD k []).length = N.w := by
            have hm : N.rows.getD k [] ∈ N.rows := by rw [List.getD_eq_getElem?_getD, List.getElem?_eq_getElem (by rw [HNr.out]; exact hkr)]; exact List.getElem_mem _
            rw [HNrw.out _ hm, HNw.out]
          refine (erase_lit (.agg (N.vals (.slice A5 n5 c5) (.slice A6 n6 c6))) N k _ (by exact ⟨_, _, rfl, by rw [← HL5.out]; exact HR1.out, by rw [← HL6.out]; exact HR2.out⟩) (by rw [HNr.out]; omega) (by rw [HNr.out]; exact hkr) hrwN (by rw [HNw.out]; omega)).mono ?_
          rintro e w5 ⟨v5, rfl, ⟨vr5, vk5, rfl, h15, h25⟩, hb5⟩
          have h35 := h15.1; have h45 := h25.1
          obtain ⟨-, A7, c7, rfl, -, -, -, -⟩ := h35
          obtain ⟨-, A8, c8, rfl, -, -, -, -⟩ := h45
          obtain ⟨K, hK⟩ : ∃ K : Ref, K = N.erase k 2 0 := ⟨_, rfl⟩
          rw [← hK] at h15 h25 ⊢
          have HM2 : Hid (M.wipeTo (f 0) (k + 1) = K) := by rw [hK, HNN.out]; show Hid ((if wipes (f 0) k M.y then _ else _) = _); rw [if_pos hwip]; exact Lib.hid rfl
          have hx5 : w5.heap[w.heap.size]? = some (.cells (N.vals (.slice A5 n5 c5) (.slice A6 n6 c6)) 31 (0, 0)) := (hb5.block _ (block_lt HXr.out)).trans HXr.out
          have hy5 : w5.heap[w.heap.size + 1]? = some (.cells (zeroRef.vals nilS nilS) 31 (0, 0)) := (hb5.block _ (block_lt HYr.out)).trans HYr.out
          have hbw5 : Below w.heap.size w w5 := below_next HBr.out hb5
          have hs5 : w.heap.size + 2 ≤ w5.heap.size := by have := block_lt hy5; omega
          have p0 : w5.cell? ⟨w.heap.size, 0, none⟩ = some (.int .i64 N.w) := cell_of_row _ _ _ _ _ _ hx5
          have p1 : w5.cell? ⟨w.heap.size, 1, none⟩ = some (.int .i64 N.h) := cell_of_row _ _ _ _ _ _ hx5
          have p2 : w5.cell? ⟨w.heap.size, 2, none⟩ = some (.int .i64 N.most) := cell_of_row _ _ _ _ _ _ hx5
          have p3 : w5.cell? ⟨w.heap.size, 3, none⟩ = some (.slice A5 n5 c5) := cell_of_row _ _ _ _ _ _ hx5
          have p4 : w5.cell? ⟨w.heap.size, 4, none⟩ = some (.slice A6 n6 c6) := cell_of_row _ _ _ _ _ _ hx5
          have p5 : w5.cell? ⟨w.heap.size, 5, none⟩ = some (.int .i64 N.x) := cell_of_row _ _ _ _ _ _ hx5
          have p6 : w5.cell? ⟨w.heap.size, 6, none⟩ = some (.int .i64 N.y) := cell_of_row _ _ _ _ _ _ hx5
          have p7 : w5.cell? ⟨w.heap.size, 7, none⟩ = some (.int .i64 N.begun) := cell_of_row _ _ _ _ _ _ hx5
          have p8 : w5.cell? ⟨w.heap.size, 8, none⟩ = some (.string (bs N.args)) := cell_of_row _ _ _ _ _ _ hx5
          have u0 : w5.frozen? ⟨w.heap.size, 0, none⟩ = false := frozen_of_row _ _ _ _ _ hx5
          have u1 : w5.frozen? ⟨w.heap.size, 1, none⟩ = false := frozen_of_row _ _ _ _ _ hx5
          have u2 : w5.frozen? ⟨w.heap.size, 2, none⟩ = false := frozen_of_row _ _ _ _ _ hx5
          have u3 : w5.frozen? ⟨w.heap.size, 3, none⟩ = false := frozen_of_row _ _ _ _ _ hx5
          have u4 : w5.frozen? ⟨w.heap.size, 4, none⟩ = false := frozen_of_row _ _ _ _ _ hx5
          have u5 : w5.frozen? ⟨w.heap.size, 5, none⟩ = false := frozen_of_row _ _ _ _ _ hx5
          have u6 : w5.frozen? ⟨w.heap.size, 6, none⟩ = false := frozen_of_row _ _ _ _ _ hx5
          have u7 : w5.frozen? ⟨w.heap.size, 7, none⟩ = false := frozen_of_row _ _ _ _ _ hx5
          have u8 : w5.frozen? ⟨w.heap.size, 8, none⟩ = false := frozen_of_row _ _ _ _ _ hx5
          have g1 := grown_setCells w5 w.heap.size 0 (K.vals (.slice A7 K.rows.length c7) (.slice A8 K.kept.length c8)).toList
          have hrel1 := ref_over hx5 K (.slice A7 K.rows.length c7) (.slice A8 K.kept.length c8)
          have hrel2 := h15.ne hx5 (by decide) g1
          have hrel3 := h25.ne hx5 (by decide) g1
          have hrel4 := (g1.block (w.heap.size + 1) (by omega) (fun he => by injection he with he; omega)).trans hy5
          have hrel5 := hbw5.grown g1 (by omega) (fun q hq => by injection hq with hq; omega)
          have Q1 := Lib.hid hrel1; have Q2 := Lib.hid hrel2; have Q3 := Lib.hid hrel3; have Q4 := Lib.hid hrel4; have Q5 := Lib.hid hrel5
          rw [Ref.vals_eq K]
          clear hx5 hy5 hbw5 h15 h25 hb5 hK hrwN g1 hrel1 hrel2 hrel3 hrel4 hrel5
          go_wp2_with fail
          go_roundw
          case rel =>
            refine ⟨k + 1, by omega, by go_num, ?_, Q4.out, Q5.out⟩
            rw [HM2.out]
            exact ⟨_, _, Q1.out, Q2.out, Q3.out⟩
          case measure => simp [intOf]; omega
        · have hwip : wipes (f 0) k M.y = false := by rw [h1]; simp [wipes]; omega
          have hdy : decide ((k : Int) < (N.y : Int)) = false := by simp; omega
          have hdz : ¬ k < N.y := by omega
          clear h1
          have HM2 : Hid (M.wipeTo (f 0) (k + 1) = N) := by rw [HNN.out]; show Hid ((if wipes (f 0) k M.y then _ else _) = _); rw [if_neg (by rw [hwip]; simp)]; exact Lib.hid rfl
          go_wp2_with fail
          go_roundw
          case rel =>
            refine ⟨k + 1, by omega, by go_num, ?_, HYr.out, HBr.out⟩
            rw [HM2.out]
            exact ⟨_, _, HXr.out, by rw [← HL5.out]; exact HR1.out, by rw [← HL6.out]; exact HR2.out⟩
          case measure => simp [intOf]; omega
    · obtain rfl : k = M.h := by omega
      have HMf : Hid (M.command 74 = N.erase N.y (f 0) q) := by rw [HMf0.out, HNN.out, (wipeTo_w M (f 0) M.h).2.2.1]; exact Lib.hid rfl
      have hd : decide (((M.h : Nat) : Int) < (N.h : Int)) = false := by simp; omega
      have hdz : ¬ M.h < N.h := by omega
      go_wp2_with fail
      have hyr : N.y < M.rows.length := by omega
      have hrwN : (N.rows.getD N.y []).length = N.w := by
        have hm : N.rows.getD N.y [] ∈ N.rows := by rw [List.getD_eq_getElem?_getD, List.getElem?_eq_getElem (by rw [HNr.out]; exact hyr)]; exact List.getElem_mem _
        rw [HNrw.out _ hm, HNw.out]
      refine (erase_walk (.agg (N.vals (.slice A5 n5 c5) (.slice A6 n6 c6))) N N.y (f 0) q _ (by exact ⟨_, _, rfl, by rw [← HL5.out]; exact HR1.out, by rw [← HL6.out]; exact HR2.out⟩) (by rw [HNr.out]; omega) (by rw [HNr.out]; exact hyr) hrwN (by rw [HNw.out]; omega) (by rw [HNw.out]; omega)).mono ?_
      rintro e w5 ⟨v5, rfl, ⟨vr5, vk5, rfl, h15, h25⟩, hb5⟩
      have h35 := h15.1; have h45 := h25.1
      obtain ⟨-, A7, c7, rfl, -, -, -, -⟩ := h35
      obtain ⟨-, A8, c8, rfl, -, -, -, -⟩ := h45
      obtain ⟨K, hK⟩ : ∃ K : Ref, K = N.erase N.y (f 0) q := ⟨_, rfl⟩
      rw [← hK] at h15 h25 ⊢
      have HM2 : Hid (M.command 74 = K) := by rw [hK]; exact HMf.out
      have hx5 : w5.heap[w.heap.size]? = some (.cells (N.vals (.slice A5 n5 c5) (.slice A6 n6 c6)) 31 (0, 0)) := (hb5.block _ (block_lt HXr.out)).trans HXr.out
      have hy5 : w5.heap[w.heap.size + 1]? = some (.cells (zeroRef.vals nilS nilS) 31 (0, 0)) := (hb5.block _ (block_lt HYr.out)).trans HYr.out
      have hbw5 : Below w.heap.size w w5 := below_next HBr.out hb5
      have hs5 : w.heap.size + 2 ≤ w5.heap.size := by have := block_lt hy5; omega
      have p0 : w5.cell? ⟨w.heap.size, 0, none⟩ = some (.int .i64 N.w) := cell_of_row _ _ _ _ _ _ hx5
      have p1 : w5.cell? ⟨w.heap.size, 1, none⟩ = some (.int .i64 N.h) := cell_of_row _ _ _ _ _ _ hx5
      have p2 : w5.cell? ⟨w.heap.size, 2, none⟩ = some (.int .i64 N.most) := cell_of_row _ _ _ _ _ _ hx5
      have p3 : w5.cell? ⟨w.heap.size, 3, none⟩ = some (.slice A5 n5 c5) := cell_of_row _ _ _ _ _ _ hx5
      have p4 : w5.cell? ⟨w.heap.size, 4, none⟩ = some (.slice A6 n6 c6) := cell_of_row _ _ _ _ _ _ hx5
      have p5 : w5.cell? ⟨w.heap.size, 5, none⟩ = some (.int .i64 N.x) := cell_of_row _ _ _ _ _ _ hx5
      have p6 : w5.cell? ⟨w.heap.size, 6, none⟩ = some (.int .i64 N.y) := cell_of_row _ _ _ _ _ _ hx5
      have p7 : w5.cell? ⟨w.heap.size, 7, none⟩ = some (.int .i64 N.begun) := cell_of_row _ _ _ _ _ _ hx5
      have p8 : w5.cell? ⟨w.heap.size, 8, none⟩ = some (.string (bs N.args)) := cell_of_row _ _ _ _ _ _ hx5
      have u0 : w5.frozen? ⟨w.heap.size, 0, none⟩ = false := frozen_of_row _ _ _ _ _ hx5
      have u1 : w5.frozen? ⟨w.heap.size, 1, none⟩ = false := frozen_of_row _ _ _ _ _ hx5
      have u2 : w5.frozen? ⟨w.heap.size, 2, none⟩ = false := frozen_of_row _ _ _ _ _ hx5
      have u3 : w5.frozen? ⟨w.heap.size, 3, none⟩ = false := frozen_of_row _ _ _ _ _ hx5
      have u4 : w5.frozen? ⟨w.heap.size, 4, none⟩ = false := frozen_of_row _ _ _ _ _ hx5
      have u5 : w5.frozen? ⟨w.heap.size, 5, none⟩ = false := frozen_of_row _ _ _ _ _ hx5
      have u6 : w5.frozen? ⟨w.heap.size, 6, none⟩ = false := frozen_of_row _ _ _ _ _ hx5
      have u7 : w5.frozen? ⟨w.heap.size, 7, none⟩ = false := frozen_of_row _ _ _ _ _ hx5
      have u8 : w5.frozen? ⟨w.heap.size, 8, none⟩ = false := frozen_of_row _ _ _ _ _ hx5
      have dd0 : w5.cell? ⟨w.heap.size + 1, 0, none⟩ = some (.int .i64 0) := cell_of_row _ _ _ _ _ _ hy5
      have dd1 : w5.cell? ⟨w.heap.size + 1, 1, none⟩ = some (.int .i64 0) := cell_of_row _ _ _ _ _ _ hy5
      have dd2 : w5.cell? ⟨w.heap.size + 1, 2, none⟩ = some (.int .i64 0) := cell_of_row _ _ _ _ _ _ hy5
      have dd3 : w5.cell? ⟨w.heap.size + 1, 3, none⟩ = some (.slice none 0 0) := cell_of_row _ _ _ _ _ _ hy5
      have dd4 : w5.cell? ⟨w.heap.size + 1, 4, none⟩ = some (.slice none 0 0) := cell_of_row _ _ _ _ _ _ hy5
      have dd5 : w5.cell? ⟨w.heap.size + 1, 5, none⟩ = some (.int .i64 0) := cell_of_row _ _ _ _ _ _ hy5
      have dd6 : w5.cell? ⟨w.heap.size + 1, 6, none⟩ = some (.int .i64 0) := cell_of_row _ _ _ _ _ _ hy5
      have dd7 : w5.cell? ⟨w.heap.size + 1, 7, none⟩ = some (.int .i64 0) := cell_of_row _ _ _ _ _ _ hy5
      have dd8 : w5.cell? ⟨w.heap.size + 1, 8, none⟩ = some (.string ⟨#[]⟩) := cell_of_row _ _ _ _ _ _ hy5
      have zz0 : w5.frozen? ⟨w.heap.size + 1, 0, none⟩ = false := frozen_of_row _ _ _ _ _ hy5
      have zz1 : w5.frozen? ⟨w.heap.size + 1, 1, none⟩ = false := frozen_of_row _ _ _ _ _ hy5
      have zz2 : w5.frozen? ⟨w.heap.size + 1, 2, none⟩ = false := frozen_of_row _ _ _ _ _ hy5
      have zz3 : w5.frozen? ⟨w.heap.size + 1, 3, none⟩ = false := frozen_of_row _ _ _ _ _ hy5
      have zz4 : w5.frozen? ⟨w.heap.size + 1, 4, none⟩ = false := frozen_of_row _ _ _ _ _ hy5
      have zz5 : w5.frozen? ⟨w.heap.size + 1, 5, none⟩ = false := frozen_of_row _ _ _ _ _ hy5
      have zz6 : w5.frozen? ⟨w.heap.size + 1, 6, none⟩ = false := frozen_of_row _ _ _ _ _ hy5
      have zz7 : w5.frozen? ⟨w.heap.size + 1, 7, none⟩ = false := frozen_of_row _ _ _ _ _ hy5
      have zz8 : w5.frozen? ⟨w.heap.size + 1, 8, none⟩ = false := frozen_of_row _ _ _ _ _ hy5
      have HX5 := Lib.hid hx5; have HY5 := Lib.hid hy5; have HB5 := Lib.hid hbw5; have HR15 := Lib.hid h15; have HR25 := Lib.hid h25
      rw [Ref.vals_eq K]
      clear hx5 hy5 hbw5 h15 h25 hb5 hK hrwN
      go_wp2_with fail
      rw [HM2.out]
      have g1 := grown_setCells w5 w.heap.size 0 (K.vals (.slice A7 K.rows.length c7) (.slice A8 K.kept.length c8)).toList
      have g2 := grown_setCells (w5.setCells w.heap.size 0 (K.vals (.slice A7 K.rows.length c7) (.slice A8 K.kept.length c8)).toList) (w.heap.size + 1) 0 (K.vals (.slice A7 K.rows.length c7) (.slice A8 K.kept.length c8)).toList
      have hy6 := (g1.block (w.heap.size + 1) (by omega) (fun he => by injection he with he; omega)).trans HY5.out
      have h3 := (HB5.out.grown g1 (by omega) (fun q hq => by injection hq with hq; omega)).grown g2 (by rw [size_setCells]; omega) (fun q hq => by injection hq with hq; omega)
      refine bodyPost_ret (v := .agg (K.vals (.slice A7 K.rows.length c7) (.slice A8 K.kept.length c8))) (by simp [results, Tryd.results48, go_sem, Ref.vals, dd0, dd1, dd2, dd3, dd4, dd5, dd6, dd7, dd8]) rfl ⟨_, rfl, ⟨_, _, rfl, ?_, ?_⟩, h3⟩
      · exact (HR15.out.ne HX5.out (by decide) g1).ne hy6 (by decide) g2
      · exact (HR25.out.ne HX5.out (by decide) g1).ne hy6 (by decide) g2

theorem command_walk (v : Value) (M : Ref) (e : Nat) (w : World) (h : RV w v M) (ok : M.Ok) (ha : M.args.length ≤ 100000) :
    Calls Tryd.prog 48 #[v, .int .u8 e] w (RVPost w (M.command e)) := by
  by_cases x65 : e = 65
  · rw [x65]; exact rcmd_65 v M w h ok ha
  by_cases x66 : e = 66
  · rw [x66]; exact rcmd_66 v M w h ok ha
  by_cases x67 : e = 67
  · rw [x67]; exact rcmd_67 v M w h ok ha
  by_cases x68 : e = 68
  · rw [x68]; exact rcmd_68 v M w h ok ha
  by_cases x72 : e = 72
  · rw [x72]; exact rcmd_72 v M w h ok ha
  by_cases x74 : e = 74
  · rw [x74]
    by_cases hb : 2 < numL M.args 0
    · exact rcmd_big74 v M w h ok ha hb
    · exact rcmd_74 v M w h ok ha hb
  by_cases x75 : e = 75
  · rw [x75]
    by_cases hb : 2 < numL M.args 0
    · exact rcmd_big75 v M w h ok ha hb
    · exact rcmd_75 v M w h ok ha hb
  exact rcmd_none v M e w h ok ha x65 x66 x67 x68 x72 x74 x75
end Go.Proofs.YtiefpodmdpnppaaDoor
