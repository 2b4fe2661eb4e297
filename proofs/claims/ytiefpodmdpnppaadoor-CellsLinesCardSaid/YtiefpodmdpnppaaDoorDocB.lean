/-
  WALKS of layer 56's document: Byte: a letter; a form feed; all bytes.
-/
import Derived.Test.YtiefpodmdpnppaaDoorDocA
namespace Go.Proofs.YtiefpodmdpnppaaDoor
open Go.RowKit

set_option maxRecDepth 100000 in
set_option maxHeartbeats 1600000 in
theorem rbyte_put (v : Value) (M : Ref) (v0 : UInt8) (w : World) (h : RV w v M) (ok : M.Ok) (hb1 : ¬ M.begun = 1) (hb2 : ¬ M.begun = 2) (hc1 : 32 ≤ v0.toNat) (hc2 : v0.toNat ≤ 126) (hxw : M.x < M.w) :
    Calls Tryd.prog 34 #[v, .int .u8 (v0.toNat : Int)] w (RVPost w { M.lay M.y M.x [v0] with x := M.x + 1 }) := by
  have tb1 : ((M.begun : Int) == 1) = false := by simp; omega
  have tb2 : ((M.begun : Int) == 2) = false := by simp; omega
  clear hb1 hb2
  have HOk := Lib.hid ok
  obtain ⟨vr, vk, rfl, h1, h2⟩ := h
  have H1 := Lib.hid h1; have H2 := Lib.hid h2
  obtain ⟨-, A4, c4, rfl, -, -, -, -⟩ := h2.1
  obtain ⟨-, A3, c3, rfl, -, -, -, -⟩ := h1.1
  clear h1 h2
  have hw1 := ok.w1; have hw2 := ok.w2; have hh1 := ok.h1; have hh2 := ok.h2; have hx := ok.x; have hy := ok.y
  have hw0 : ((M.w : Int) == 0) = false := by simp; omega
  obtain ⟨n3, hn3⟩ : ∃ n : Nat, n = M.rows.length := ⟨_, rfl⟩
  obtain ⟨n4, hn4⟩ : ∃ n : Nat, n = M.kept.length := ⟨_, rfl⟩
  rw [← hn3] at H1 ⊢
  rw [← hn4] at H2 ⊢
  obtain ⟨W, hW⟩ : ∃ W, W = (w.alloc (.cells (M.vals (.slice A3 n3 c3) (.slice A4 n4 c4)) 31)).alloc (.cells #[.int .i64 0, .int .i64 0, .int .i64 0, .slice none 0 0, .slice none 0 0, .int .i64 0, .int .i64 0, .int .i64 0, .string ⟨#[]⟩] 31) := ⟨_, rfl⟩
  have hWx : W.heap[w.heap.size]? = some (.cells (M.vals (.slice A3 n3 c3) (.slice A4 n4 c4)) 31 (0, 0)) := by rw [hW]; exact alloc2_fst _ _ _
  have hWy : W.heap[w.heap.size + 1]? = some (.cells (zeroRef.vals nilS nilS) 31 (0, 0)) := by rw [hW]; exact alloc2_snd _ _ _
  have hWb : Below w.heap.size w W := by rw [hW]; exact below_alloc2 _ _ _
  have hWs : W.heap.size = w.heap.size + 2 := by rw [hW]; simp
  have e0 : W.cell? ⟨w.heap.size, 0, none⟩ = some (.int .i64 M.w) := cell_of_row _ _ _ _ _ _ hWx
  have e1 : W.cell? ⟨w.heap.size, 1, none⟩ = some (.int .i64 M.h) := cell_of_row _ _ _ _ _ _ hWx
  have e2 : W.cell? ⟨w.heap.size, 2, none⟩ = some (.int .i64 M.most) := cell_of_row _ _ _ _ _ _ hWx
  have e3 : W.cell? ⟨w.heap.size, 3, none⟩ = some (.slice A3 n3 c3) := cell_of_row _ _ _ _ _ _ hWx
  have e4 : W.cell? ⟨w.heap.size, 4, none⟩ = some (.slice A4 n4 c4) := cell_of_row _ _ _ _ _ _ hWx
  have e5 : W.cell? ⟨w.heap.size, 5, none⟩ = some (.int .i64 M.x) := cell_of_row _ _ _ _ _ _ hWx
  have e6 : W.cell? ⟨w.heap.size, 6, none⟩ = some (.int .i64 M.y) := cell_of_row _ _ _ _ _ _ hWx
  have e7 : W.cell? ⟨w.heap.size, 7, none⟩ = some (.int .i64 M.begun) := cell_of_row _ _ _ _ _ _ hWx
  have e8 : W.cell? ⟨w.heap.size, 8, none⟩ = some (.string (bs M.args)) := cell_of_row _ _ _ _ _ _ hWx
  have f0 : W.frozen? ⟨w.heap.size, 0, none⟩ = false := frozen_of_row _ _ _ _ _ hWx
  have f1 : W.frozen? ⟨w.heap.size, 1, none⟩ = false := frozen_of_row _ _ _ _ _ hWx
  have f2 : W.frozen? ⟨w.heap.size, 2, none⟩ = false := frozen_of_row _ _ _ _ _ hWx
  have f3 : W.frozen? ⟨w.heap.size, 3, none⟩ = false := frozen_of_row _ _ _ _ _ hWx
  have f4 : W.frozen? ⟨w.heap.size, 4, none⟩ = false := frozen_of_row _ _ _ _ _ hWx
  have f5 : W.frozen? ⟨w.heap.size, 5, none⟩ = false := frozen_of_row _ _ _ _ _ hWx
  have f6 : W.frozen? ⟨w.heap.size, 6, none⟩ = false := frozen_of_row _ _ _ _ _ hWx
  have f7 : W.frozen? ⟨w.heap.size, 7, none⟩ = false := frozen_of_row _ _ _ _ _ hWx
  have f8 : W.frozen? ⟨w.heap.size, 8, none⟩ = false := frozen_of_row _ _ _ _ _ hWx
  have d0 : W.cell? ⟨w.heap.size + 1, 0, none⟩ = some (.int .i64 0) := cell_of_row _ _ _ _ _ _ hWy
  have d1 : W.cell? ⟨w.heap.size + 1, 1, none⟩ = some (.int .i64 0) := cell_of_row _ _ _ _ _ _ hWy
  have d2 : W.cell? ⟨w.heap.size + 1, 2, none⟩ = some (.int .i64 0) := cell_of_row _ _ _ _ _ _ hWy
  have d3 : W.cell? ⟨w.heap.size + 1, 3, none⟩ = some (.slice none 0 0) := cell_of_row _ _ _ _ _ _ hWy
  have d4 : W.cell? ⟨w.heap.size + 1, 4, none⟩ = some (.slice none 0 0) := cell_of_row _ _ _ _ _ _ hWy
  have d5 : W.cell? ⟨w.heap.size + 1, 5, none⟩ = some (.int .i64 0) := cell_of_row _ _ _ _ _ _ hWy
  have d6 : W.cell? ⟨w.heap.size + 1, 6, none⟩ = some (.int .i64 0) := cell_of_row _ _ _ _ _ _ hWy
  have d7 : W.cell? ⟨w.heap.size + 1, 7, none⟩ = some (.int .i64 0) := cell_of_row _ _ _ _ _ _ hWy
  have d8 : W.cell? ⟨w.heap.size + 1, 8, none⟩ = some (.string ⟨#[]⟩) := cell_of_row _ _ _ _ _ _ hWy
  have z0 : W.frozen? ⟨w.heap.size + 1, 0, none⟩ = false := frozen_of_row _ _ _ _ _ hWy
  have z1 : W.frozen? ⟨w.heap.size + 1, 1, none⟩ = false := frozen_of_row _ _ _ _ _ hWy
  have z2 : W.frozen? ⟨w.heap.size + 1, 2, none⟩ = false := frozen_of_row _ _ _ _ _ hWy
  have z3 : W.frozen? ⟨w.heap.size + 1, 3, none⟩ = false := frozen_of_row _ _ _ _ _ hWy
  have z4 : W.frozen? ⟨w.heap.size + 1, 4, none⟩ = false := frozen_of_row _ _ _ _ _ hWy
  have z5 : W.frozen? ⟨w.heap.size + 1, 5, none⟩ = false := frozen_of_row _ _ _ _ _ hWy
  have z6 : W.frozen? ⟨w.heap.size + 1, 6, none⟩ = false := frozen_of_row _ _ _ _ _ hWy
  have z7 : W.frozen? ⟨w.heap.size + 1, 7, none⟩ = false := frozen_of_row _ _ _ _ _ hWy
  have z8 : W.frozen? ⟨w.heap.size + 1, 8, none⟩ = false := frozen_of_row _ _ _ _ _ hWy
  have HW := Lib.hid hW; have HX := Lib.hid hWx; have HY := Lib.hid hWy; have HB := Lib.hid hWb; have HS := Lib.hid hWs; have HN3 := Lib.hid hn3; have HN4 := Lib.hid hn4
  clear hW hWx hWy hWb hWs hn3 hn4
  go_enter Tryd.func34, Tryd.ntmps34
  go_upto_region 1 with fail
  rw [← HW.out]
  clear HW
  have hge : decide ((M.x : Int) ≥ (M.w : Int)) = false := by simp; omega
  have hgeN : ¬ M.w ≤ M.x := by omega
  have lbW : w.heap.size < W.heap.size := by have := HS.out; omega
  have lbW1 : w.heap.size + 1 < W.heap.size := by have := HS.out; omega
  have hcv := conv_one W v0
  have hRs : (bs [v0]).size = 1 := bs_size [v0]
  have hRl : (bs [v0]).data.toList = [v0] := bs_list [v0]
  have hrwN : (M.rows.getD M.y []).length = M.w := by
    have hm : M.rows.getD M.y [] ∈ M.rows := by rw [List.getD_eq_getElem?_getD, List.getElem?_eq_getElem (by rw [HOk.out.r]; exact HOk.out.y)]; exact List.getElem_mem _
    rw [HOk.out.rw _ hm]
  go_wp2_with fail
  have HXr : Hid ((W.alloc (.cells #[.int .u8 (v0.toNat : Int)] 5)).heap[w.heap.size]? = some (.cells (Ref.vals M (.slice A3 n3 c3) (.slice A4 n4 c4)) 31 (0, 0))) := (Below.heap_alloc _ _ _ lbW).trans HX.out
  have HYr : Hid ((W.alloc (.cells #[.int .u8 (v0.toNat : Int)] 5)).heap[w.heap.size + 1]? = some (.cells (zeroRef.vals nilS nilS) 31 (0, 0))) := (Below.heap_alloc _ _ _ lbW1).trans HY.out
  have HBr : Hid (Below w.heap.size w (W.alloc (.cells #[.int .u8 (v0.toNat : Int)] 5))) := HB.out.alloc (by omega) _
  refine (lay_walk (.agg (Ref.vals M (.slice A3 n3 c3) (.slice A4 n4 c4))) M M.y M.x (bs [v0]) _ (by exact ⟨_, _, rfl, by rw [← HN3.out]; exact H1.out.next HBr.out, by rw [← HN4.out]; exact H2.out.next HBr.out⟩) (by rw [HOk.out.r]; omega) (by rw [HOk.out.r]; exact hy) (by rw [hRs, hrwN]; omega) (by rw [hrwN]; omega)).mono ?_
  rw [hRl]
  rintro e w5 ⟨v5, rfl, ⟨vr5, vk5, rfl, h15, h25⟩, hb5⟩
  skip
  have h35 := h15.1; have h45 := h25.1
  obtain ⟨-, A7, c7, rfl, -, -, -, -⟩ := h35
  obtain ⟨-, A8, c8, rfl, -, -, -, -⟩ := h45
  obtain ⟨K, hK⟩ : ∃ K : Ref, K = (M.lay M.y M.x [v0]) := ⟨_, rfl⟩
  rw [← hK] at h15 h25
  have hv : Ref.vals (M.lay M.y M.x [v0]) (.slice A7 (Ref.rows (M.lay M.y M.x [v0])).length c7) (.slice A8 (Ref.kept (M.lay M.y M.x [v0])).length c8) = #[.int .i64 K.w, .int .i64 K.h, .int .i64 K.most, .slice A7 K.rows.length c7, .slice A8 K.kept.length c8, .int .i64 K.x, .int .i64 K.y, .int .i64 K.begun, .string (bs K.args)] := by rw [← hK]; rfl
  rw [hv]
  clear hv
  have HKK := Lib.hid hK
  have hx5 : w5.heap[w.heap.size]? = some (.cells (Ref.vals M (.slice A3 n3 c3) (.slice A4 n4 c4)) 31 (0, 0)) := (hb5.block _ (block_lt HXr.out)).trans HXr.out
  have hy5 : w5.heap[w.heap.size + 1]? = some (.cells (zeroRef.vals nilS nilS) 31 (0, 0)) := (hb5.block _ (block_lt HYr.out)).trans HYr.out
  have hbw5 : Below w.heap.size w w5 := below_next HBr.out hb5
  have hs5 : w.heap.size + 2 ≤ w5.heap.size := by have := block_lt hy5; omega
  have p0 : w5.cell? ⟨w.heap.size, 0, none⟩ = some (.int .i64 (M).w) := cell_of_row _ _ _ _ _ _ hx5
  have p1 : w5.cell? ⟨w.heap.size, 1, none⟩ = some (.int .i64 (M).h) := cell_of_row _ _ _ _ _ _ hx5
  have p2 : w5.cell? ⟨w.heap.size, 2, none⟩ = some (.int .i64 (M).most) := cell_of_row _ _ _ _ _ _ hx5
  have p3 : w5.cell? ⟨w.heap.size, 3, none⟩ = some (.slice A3 n3 c3) := cell_of_row _ _ _ _ _ _ hx5
  have p4 : w5.cell? ⟨w.heap.size, 4, none⟩ = some (.slice A4 n4 c4) := cell_of_row _ _ _ _ _ _ hx5
  have p5 : w5.cell? ⟨w.heap.size, 5, none⟩ = some (.int .i64 (M).x) := cell_of_row _ _ _ _ _ _ hx5
  have p6 : w5.cell? ⟨w.heap.size, 6, none⟩ = some (.int .i64 (M).y) := cell_of_row _ _ _ _ _ _ hx5
  have p7 : w5.cell? ⟨w.heap.size, 7, none⟩ = some (.int .i64 (M).begun) := cell_of_row _ _ _ _ _ _ hx5
  have p8 : w5.cell? ⟨w.heap.size, 8, none⟩ = some (.string (bs (M).args)) := cell_of_row _ _ _ _ _ _ hx5
  have u0 : w5.frozen? ⟨w.heap.size, 0, none⟩ = false := frozen_of_row _ _ _ _ _ hx5
  have u1 : w5.frozen? ⟨w.heap.size, 1, none⟩ = false := frozen_of_row _ _ _ _ _ hx5
  have u2 : w5.frozen? ⟨w.heap.size, 2, none⟩ = false := frozen_of_row _ _ _ _ _ hx5
  have u3 : w5.frozen? ⟨w.heap.size, 3, none⟩ = false := frozen_of_row _ _ _ _ _ hx5
  have u4 : w5.frozen? ⟨w.heap.size, 4, none⟩ = false := frozen_of_row _ _ _ _ _ hx5
  have u5 : w5.frozen? ⟨w.heap.size, 5, none⟩ = false := frozen_of_row _ _ _ _ _ hx5
  have u6 : w5.frozen? ⟨w.heap.size, 6, none⟩ = false := frozen_of_row _ _ _ _ _ hx5
  have u7 : w5.frozen? ⟨w.heap.size, 7, none⟩ = false := frozen_of_row _ _ _ _ _ hx5
  have u8 : w5.frozen? ⟨w.heap.size, 8, none⟩ = false := frozen_of_row _ _ _ _ _ hx5
  have dd0 : w5.cell? ⟨w.heap.size + 1, 0, none⟩ = some (.int .i64 0) := cell_of_row _ _ _ _ _ _ hy5
  have dd1 : w5.cell? ⟨w.heap.size + 1, 1, none⟩ = some (.int .i64 0) := cell_of_row _ _ _ _ _ _ hy5
  have dd2 : w5.cell? ⟨w.heap.size + 1, 2, none⟩ = some (.int .i64 0) := cell_of_row _ _ _ _ _ _ hy5
  have dd3 : w5.cell? ⟨w.heap.size + 1, 3, none⟩ = some (.slice none 0 0) := cell_of_row _ _ _ _ _ _ hy5
  have dd4 : w5.cell? ⟨w.heap.size + 1, 4, none⟩ = some (.slice none 0 0) := cell_of_row _ _ _ _ _ _ hy5
  have dd5 : w5.cell? ⟨w.heap.size + 1, 5, none⟩ = some (.int .i64 0) := cell_of_row _ _ _ _ _ _ hy5
  have dd6 : w5.cell? ⟨w.heap.size + 1, 6, none⟩ = some (.int .i64 0) := cell_of_row _ _ _ _ _ _ hy5
  have dd7 : w5.cell? ⟨w.heap.size + 1, 7, none⟩ = some (.int .i64 0) := cell_of_row _ _ _ _ _ _ hy5
  have dd8 : w5.cell? ⟨w.heap.size + 1, 8, none⟩ = some (.string ⟨#[]⟩) := cell_of_row _ _ _ _ _ _ hy5
  have zz0 : w5.frozen? ⟨w.heap.size + 1, 0, none⟩ = false := frozen_of_row _ _ _ _ _ hy5
  have zz1 : w5.frozen? ⟨w.heap.size + 1, 1, none⟩ = false := frozen_of_row _ _ _ _ _ hy5
  have zz2 : w5.frozen? ⟨w.heap.size + 1, 2, none⟩ = false := frozen_of_row _ _ _ _ _ hy5
  have zz3 : w5.frozen? ⟨w.heap.size + 1, 3, none⟩ = false := frozen_of_row _ _ _ _ _ hy5
  have zz4 : w5.frozen? ⟨w.heap.size + 1, 4, none⟩ = false := frozen_of_row _ _ _ _ _ hy5
  have zz5 : w5.frozen? ⟨w.heap.size + 1, 5, none⟩ = false := frozen_of_row _ _ _ _ _ hy5
  have zz6 : w5.frozen? ⟨w.heap.size + 1, 6, none⟩ = false := frozen_of_row _ _ _ _ _ hy5
  have zz7 : w5.frozen? ⟨w.heap.size + 1, 7, none⟩ = false := frozen_of_row _ _ _ _ _ hy5
  have zz8 : w5.frozen? ⟨w.heap.size + 1, 8, none⟩ = false := frozen_of_row _ _ _ _ _ hy5
  have HX5 := Lib.hid hx5; have HY5 := Lib.hid hy5; have HB5 := Lib.hid hbw5; have HR15 := Lib.hid h15; have HR25 := Lib.hid h25
  clear hx5 hy5 hbw5 h15 h25 hb5 hK e0 f0 d0 z0 e1 f1 d1 z1 e2 f2 d2 z2 e3 f3 d3 z3 e4 f4 d4 z4 e5 f5 d5 z5 e6 f6 d6 z6 e7 f7 d7 z7 e8 f8 d8 z8
  clear hcv hRs hRl hrwN
  go_upto_region 21 with fail
  change Code.wp _ _ _ _ (w5.setCells w.heap.size 0 (K.vals (.slice A7 K.rows.length c7) (.slice A8 K.kept.length c8)).toList)
  obtain ⟨w6, hw6⟩ : ∃ w6, w6 = w5.setCells w.heap.size 0 (K.vals (.slice A7 K.rows.length c7) (.slice A8 K.kept.length c8)).toList := ⟨_, rfl⟩
  rw [← hw6]
  have hx6 : w6.heap[w.heap.size]? = some (.cells (K.vals (.slice A7 K.rows.length c7) (.slice A8 K.kept.length c8)) 31 (0, 0)) := by rw [hw6]; exact ref_over HX5.out _ _ _
  have hy6 : w6.heap[w.heap.size + 1]? = some (.cells (zeroRef.vals nilS nilS) 31 (0, 0)) := by rw [hw6]; exact ((grown_setCells w5 w.heap.size 0 _).block _ (by omega) (fun he => by injection he with he; omega)).trans HY5.out
  have hbw6 : Below w.heap.size w w6 := by rw [hw6]; exact below_cells HB5.out _ _ _ (Nat.le_refl _) (by omega)
  have hr16 : RdT w6 9 (.slice A7 K.rows.length c7) K.rows.length (K.rows.map strV) := by rw [hw6]; exact HR15.out.ne HX5.out (by decide) (grown_setCells w5 w.heap.size 0 _)
  have hr26 : RdT w6 9 (.slice A8 K.kept.length c8) K.kept.length (K.kept.map strV) := by rw [hw6]; exact HR25.out.ne HX5.out (by decide) (grown_setCells w5 w.heap.size 0 _)
  clear hw6 HX5 HY5 HB5 HR15 HR25 hs5 p0 u0 dd0 zz0 p1 u1 dd1 zz1 p2 u2 dd2 zz2 p3 u3 dd3 zz3 p4 u4 dd4 zz4 p5 u5 dd5 zz5 p6 u6 dd6 zz6 p7 u7 dd7 zz7 p8 u8 dd8 zz8
  have hs5 : w.heap.size + 2 ≤ w6.heap.size := by have := block_lt hy6; omega
  have p0 : w6.cell? ⟨w.heap.size, 0, none⟩ = some (.int .i64 K.w) := cell_of_row _ _ _ _ _ _ hx6
  have p1 : w6.cell? ⟨w.heap.size, 1, none⟩ = some (.int .i64 K.h) := cell_of_row _ _ _ _ _ _ hx6
  have p2 : w6.cell? ⟨w.heap.size, 2, none⟩ = some (.int .i64 K.most) := cell_of_row _ _ _ _ _ _ hx6
  have p3 : w6.cell? ⟨w.heap.size, 3, none⟩ = some (.slice A7 K.rows.length c7) := cell_of_row _ _ _ _ _ _ hx6
  have p4 : w6.cell? ⟨w.heap.size, 4, none⟩ = some (.slice A8 K.kept.length c8) := cell_of_row _ _ _ _ _ _ hx6
  have p5 : w6.cell? ⟨w.heap.size, 5, none⟩ = some (.int .i64 K.x) := cell_of_row _ _ _ _ _ _ hx6
  have p6 : w6.cell? ⟨w.heap.size, 6, none⟩ = some (.int .i64 K.y) := cell_of_row _ _ _ _ _ _ hx6
  have p7 : w6.cell? ⟨w.heap.size, 7, none⟩ = some (.int .i64 K.begun) := cell_of_row _ _ _ _ _ _ hx6
  have p8 : w6.cell? ⟨w.heap.size, 8, none⟩ = some (.string (bs K.args)) := cell_of_row _ _ _ _ _ _ hx6
  have u0 : w6.frozen? ⟨w.heap.size, 0, none⟩ = false := frozen_of_row _ _ _ _ _ hx6
  have u1 : w6.frozen? ⟨w.heap.size, 1, none⟩ = false := frozen_of_row _ _ _ _ _ hx6
  have u2 : w6.frozen? ⟨w.heap.size, 2, none⟩ = false := frozen_of_row _ _ _ _ _ hx6
  have u3 : w6.frozen? ⟨w.heap.size, 3, none⟩ = false := frozen_of_row _ _ _ _ _ hx6
  have u4 : w6.frozen? ⟨w.heap.size, 4, none⟩ = false := frozen_of_row _ _ _ _ _ hx6
  have u5 : w6.frozen? ⟨w.heap.size, 5, none⟩ = false := frozen_of_row _ _ _ _ _ hx6
  have u6 : w6.frozen? ⟨w.heap.size, 6, none⟩ = false := frozen_of_row _ _ _ _ _ hx6
  have u7 : w6.frozen? ⟨w.heap.size, 7, none⟩ = false := frozen_of_row _ _ _ _ _ hx6
  have u8 : w6.frozen? ⟨w.heap.size, 8, none⟩ = false := frozen_of_row _ _ _ _ _ hx6
  have dd0 : w6.cell? ⟨w.heap.size + 1, 0, none⟩ = some (.int .i64 0) := cell_of_row _ _ _ _ _ _ hy6
  have dd1 : w6.cell? ⟨w.heap.size + 1, 1, none⟩ = some (.int .i64 0) := cell_of_row _ _ _ _ _ _ hy6
  have dd2 : w6.cell? ⟨w.heap.size + 1, 2, none⟩ = some (.int .i64 0) := cell_of_row _ _ _ _ _ _ hy6
  have dd3 : w6.cell? ⟨w.heap.size + 1, 3, none⟩ = some (.slice none 0 0) := cell_of_row _ _ _ _ _ _ hy6
  have dd4 : w6.cell? ⟨w.heap.size + 1, 4, none⟩ = some (.slice none 0 0) := cell_of_row _ _ _ _ _ _ hy6
  have dd5 : w6.cell? ⟨w.heap.size + 1, 5, none⟩ = some (.int .i64 0) := cell_of_row _ _ _ _ _ _ hy6
  have dd6 : w6.cell? ⟨w.heap.size + 1, 6, none⟩ = some (.int .i64 0) := cell_of_row _ _ _ _ _ _ hy6
  have dd7 : w6.cell? ⟨w.heap.size + 1, 7, none⟩ = some (.int .i64 0) := cell_of_row _ _ _ _ _ _ hy6
  have dd8 : w6.cell? ⟨w.heap.size + 1, 8, none⟩ = some (.string ⟨#[]⟩) := cell_of_row _ _ _ _ _ _ hy6
  have zz0 : w6.frozen? ⟨w.heap.size + 1, 0, none⟩ = false := frozen_of_row _ _ _ _ _ hy6
  have zz1 : w6.frozen? ⟨w.heap.size + 1, 1, none⟩ = false := frozen_of_row _ _ _ _ _ hy6
  have zz2 : w6.frozen? ⟨w.heap.size + 1, 2, none⟩ = false := frozen_of_row _ _ _ _ _ hy6
  have zz3 : w6.frozen? ⟨w.heap.size + 1, 3, none⟩ = false := frozen_of_row _ _ _ _ _ hy6
  have zz4 : w6.frozen? ⟨w.heap.size + 1, 4, none⟩ = false := frozen_of_row _ _ _ _ _ hy6
  have zz5 : w6.frozen? ⟨w.heap.size + 1, 5, none⟩ = false := frozen_of_row _ _ _ _ _ hy6
  have zz6 : w6.frozen? ⟨w.heap.size + 1, 6, none⟩ = false := frozen_of_row _ _ _ _ _ hy6
  have zz7 : w6.frozen? ⟨w.heap.size + 1, 7, none⟩ = false := frozen_of_row _ _ _ _ _ hy6
  have zz8 : w6.frozen? ⟨w.heap.size + 1, 8, none⟩ = false := frozen_of_row _ _ _ _ _ hy6
  have HX5 := Lib.hid hx6; have HY5 := Lib.hid hy6; have HB5 := Lib.hid hbw6; have HR15 := Lib.hid hr16; have HR25 := Lib.hid hr26
  clear hx6 hy6 hbw6 hr16 hr26
  have hKx : Hid (K.x = M.x) := by rw [HKK.out]; exact Lib.hid rfl
  have hxb : K.x ≤ 128 := by rw [hKx.out]; omega
  go_wp2_with fail
  rw [show ({ M.lay M.y M.x [v0] with x := M.x + 1 } : Ref) = { K with x := K.x + 1 } from by rw [HKK.out]; rfl]
  refine bodyPost_ret (v := .agg (Ref.vals ({ K with x := K.x + 1 }) (.slice A7 K.rows.length c7) (.slice A8 K.kept.length c8))) (by simp [results, Tryd.results34, go_sem, Ref.vals, dd0, dd1, dd2, dd3, dd4, dd5, dd6, dd7, dd8]) rfl ⟨_, rfl, ⟨_, _, rfl, ?_, ?_⟩, ?_⟩
  · exact HR15.out.two HX5.out HY5.out (by decide) (by repeat (first | with_reducible exact Two.refl _ _ | with_reducible refine Two.setA ?_ _ _ | with_reducible refine Two.setC ?_ _ _))
  · exact HR25.out.two HX5.out HY5.out (by decide) (by repeat (first | with_reducible exact Two.refl _ _ | with_reducible refine Two.setA ?_ _ _ | with_reducible refine Two.setC ?_ _ _))
  · exact (by repeat (first | with_reducible exact HB5.out | with_reducible refine below_setG ?_ _ (by omega) _ _))

theorem leave_kept (M : Ref) (hk : M.kept.length ≤ M.most) : M.leave.kept.length ≤ M.most := by
  unfold Ref.leave
  show (if M.most < M.kept.length + 1 then _ else _ : List (List UInt8)).length ≤ M.most
  split
  · rw [List.length_drop, List.length_append]; simp; omega
  · rw [List.length_append]; simp; omega
theorem Ref.Ok.down {M : Ref} (ok : M.Ok) : M.down.Ok := by
  have hy := ok.y
  unfold Ref.down
  split
  · exact { ok with x := Nat.zero_le _, y := (by show M.y + 1 < M.h; assumption) }
  · refine ⟨ok.w1, ok.w2, ok.h1, ok.h2, ok.m, ?_, ?_, ?_, Nat.zero_le _, ok.y, ok.b, ok.a⟩
    · show (M.rows.tail ++ [List.replicate M.w 32]).length = M.h
      have := ok.r
      have := ok.h1
      rw [List.length_append, List.length_tail]; simp; omega
    · intro r hr
      rcases List.mem_append.1 hr with h | h
      · exact ok.rw r (List.mem_of_mem_tail h)
      · simp at h; rw [h]; exact List.length_replicate
    · exact leave_kept { M with x := 0 } ok.k
theorem down_fields (M : Ref) : M.down.x = 0 ∧ M.down.w = M.w ∧ M.down.h = M.h := by
  unfold Ref.down
  split <;> exact ⟨rfl, rfl, rfl⟩

set_option maxRecDepth 100000 in
set_option maxHeartbeats 1600000 in
theorem rbyte_wrap (v : Value) (M : Ref) (v0 : UInt8) (w : World) (h : RV w v M) (ok : M.Ok) (hb1 : ¬ M.begun = 1) (hb2 : ¬ M.begun = 2) (hc1 : 32 ≤ v0.toNat) (hc2 : v0.toNat ≤ 126) (hxw : M.w ≤ M.x) :
    Calls Tryd.prog 34 #[v, .int .u8 (v0.toNat : Int)] w (RVPost w (M.letter v0)) := by
  have tb1 : ((M.begun : Int) == 1) = false := by simp; omega
  have tb2 : ((M.begun : Int) == 2) = false := by simp; omega
  clear hb1 hb2
  have HO := Lib.hid ok
  have HLet : Hid (M.letter v0 = { M.down.lay M.down.y M.down.x [v0] with x := M.down.x + 1 }) := by unfold Ref.letter; rw [if_pos hxw]; exact Lib.hid rfl
  obtain ⟨vr, vk, rfl, h1, h2⟩ := h
  have H1 := Lib.hid h1; have H2 := Lib.hid h2
  obtain ⟨-, A4, c4, rfl, -, -, -, -⟩ := h2.1
  obtain ⟨-, A3, c3, rfl, -, -, -, -⟩ := h1.1
  clear h1 h2
  have hw1 := ok.w1; have hw2 := ok.w2; have hh1 := ok.h1; have hh2 := ok.h2; have hx := ok.x; have hy := ok.y
  have hw0 : ((M.w : Int) == 0) = false := by simp; omega
  obtain ⟨n3, hn3⟩ : ∃ n : Nat, n = M.rows.length := ⟨_, rfl⟩
  obtain ⟨n4, hn4⟩ : ∃ n : Nat, n = M.kept.length := ⟨_, rfl⟩
  rw [← hn3] at H1 ⊢
  rw [← hn4] at H2 ⊢
  obtain ⟨W, hW⟩ : ∃ W, W = (w.alloc (.cells (M.vals (.slice A3 n3 c3) (.slice A4 n4 c4)) 31)).alloc (.cells #[.int .i64 0, .int .i64 0, .int .i64 0, .slice none 0 0, .slice none 0 0, .int .i64 0, .int .i64 0, .int .i64 0, .string ⟨#[]⟩] 31) := ⟨_, rfl⟩
  have hWx : W.heap[w.heap.size]? = some (.cells (M.vals (.slice A3 n3 c3) (.slice A4 n4 c4)) 31 (0, 0)) := by rw [hW]; exact alloc2_fst _ _ _
  have hWy : W.heap[w.heap.size + 1]? = some (.cells (zeroRef.vals nilS nilS) 31 (0, 0)) := by rw [hW]; exact alloc2_snd _ _ _
  have hWb : Below w.heap.size w W := by rw [hW]; exact below_alloc2 _ _ _
  have hWs : W.heap.size = w.heap.size + 2 := by rw [hW]; simp
  have e0 : W.cell? ⟨w.heap.size, 0, none⟩ = some (.int .i64 M.w) := cell_of_row _ _ _ _ _ _ hWx
  have e1 : W.cell? ⟨w.heap.size, 1, none⟩ = some (.int .i64 M.h) := cell_of_row _ _ _ _ _ _ hWx
  have e2 : W.cell? ⟨w.heap.size, 2, none⟩ = some (.int .i64 M.most) := cell_of_row _ _ _ _ _ _ hWx
  have e3 : W.cell? ⟨w.heap.size, 3, none⟩ = some (.slice A3 n3 c3) := cell_of_row _ _ _ _ _ _ hWx
  have e4 : W.cell? ⟨w.heap.size, 4, none⟩ = some (.slice A4 n4 c4) := cell_of_row _ _ _ _ _ _ hWx
  have e5 : W.cell? ⟨w.heap.size, 5, none⟩ = some (.int .i64 M.x) := cell_of_row _ _ _ _ _ _ hWx
  have e6 : W.cell? ⟨w.heap.size, 6, none⟩ = some (.int .i64 M.y) := cell_of_row _ _ _ _ _ _ hWx
  have e7 : W.cell? ⟨w.heap.size, 7, none⟩ = some (.int .i64 M.begun) := cell_of_row _ _ _ _ _ _ hWx
  have e8 : W.cell? ⟨w.heap.size, 8, none⟩ = some (.string (bs M.args)) := cell_of_row _ _ _ _ _ _ hWx
  have f0 : W.frozen? ⟨w.heap.size, 0, none⟩ = false := frozen_of_row _ _ _ _ _ hWx
  have f1 : W.frozen? ⟨w.heap.size, 1, none⟩ = false := frozen_of_row _ _ _ _ _ hWx
  have f2 : W.frozen? ⟨w.heap.size, 2, none⟩ = false := frozen_of_row _ _ _ _ _ hWx
  have f3 : W.frozen? ⟨w.heap.size, 3, none⟩ = false := frozen_of_row _ _ _ _ _ hWx
  have f4 : W.frozen? ⟨w.heap.size, 4, none⟩ = false := frozen_of_row _ _ _ _ _ hWx
  have f5 : W.frozen? ⟨w.heap.size, 5, none⟩ = false := frozen_of_row _ _ _ _ _ hWx
  have f6 : W.frozen? ⟨w.heap.size, 6, none⟩ = false := frozen_of_row _ _ _ _ _ hWx
  have f7 : W.frozen? ⟨w.heap.size, 7, none⟩ = false := frozen_of_row _ _ _ _ _ hWx
  have f8 : W.frozen? ⟨w.heap.size, 8, none⟩ = false := frozen_of_row _ _ _ _ _ hWx
  have d0 : W.cell? ⟨w.heap.size + 1, 0, none⟩ = some (.int .i64 0) := cell_of_row _ _ _ _ _ _ hWy
  have d1 : W.cell? ⟨w.heap.size + 1, 1, none⟩ = some (.int .i64 0) := cell_of_row _ _ _ _ _ _ hWy
  have d2 : W.cell? ⟨w.heap.size + 1, 2, none⟩ = some (.int .i64 0) := cell_of_row _ _ _ _ _ _ hWy
  have d3 : W.cell? ⟨w.heap.size + 1, 3, none⟩ = some (.slice none 0 0) := cell_of_row _ _ _ _ _ _ hWy
  have d4 : W.cell? ⟨w.heap.size + 1, 4, none⟩ = some (.slice none 0 0) := cell_of_row _ _ _ _ _ _ hWy
  have d5 : W.cell? ⟨w.heap.size + 1, 5, none⟩ = some (.int .i64 0) := cell_of_row _ _ _ _ _ _ hWy
  have d6 : W.cell? ⟨w.heap.size + 1, 6, none⟩ = some (.int .i64 0) := cell_of_row _ _ _ _ _ _ hWy
  have d7 : W.cell? ⟨w.heap.size + 1, 7, none⟩ = some (.int .i64 0) := cell_of_row _ _ _ _ _ _ hWy
  have d8 : W.cell? ⟨w.heap.size + 1, 8, none⟩ = some (.string ⟨#[]⟩) := cell_of_row _ _ _ _ _ _ hWy
  have z0 : W.frozen? ⟨w.heap.size + 1, 0, none⟩ = false := frozen_of_row _ _ _ _ _ hWy
  have z1 : W.frozen? ⟨w.heap.size + 1, 1, none⟩ = false := frozen_of_row _ _ _ _ _ hWy
  have z2 : W.frozen? ⟨w.heap.size + 1, 2, none⟩ = false := frozen_of_row _ _ _ _ _ hWy
  have z3 : W.frozen? ⟨w.heap.size + 1, 3, none⟩ = false := frozen_of_row _ _ _ _ _ hWy
  have z4 : W.frozen? ⟨w.heap.size + 1, 4, none⟩ = false := frozen_of_row _ _ _ _ _ hWy
  have z5 : W.frozen? ⟨w.heap.size + 1, 5, none⟩ = false := frozen_of_row _ _ _ _ _ hWy
  have z6 : W.frozen? ⟨w.heap.size + 1, 6, none⟩ = false := frozen_of_row _ _ _ _ _ hWy
  have z7 : W.frozen? ⟨w.heap.size + 1, 7, none⟩ = false := frozen_of_row _ _ _ _ _ hWy
  have z8 : W.frozen? ⟨w.heap.size + 1, 8, none⟩ = false := frozen_of_row _ _ _ _ _ hWy
  have HW := Lib.hid hW; have HX := Lib.hid hWx; have HY := Lib.hid hWy; have HB := Lib.hid hWb; have HS := Lib.hid hWs; have HN3 := Lib.hid hn3; have HN4 := Lib.hid hn4
  clear hW hWx hWy hWb hWs hn3 hn4
  go_enter Tryd.func34, Tryd.ntmps34
  go_upto_region 1 with fail
  rw [← HW.out]
  clear HW
  have hge : decide ((M.x : Int) ≥ (M.w : Int)) = true := by simp; omega
  go_wp2_with fail
  have HXr := HX; have HYr := HY; have HBr := HB
  refine (down_walk (.agg (Ref.vals M (.slice A3 n3 c3) (.slice A4 n4 c4))) M _ (by exact ⟨_, _, rfl, by rw [← HN3.out]; exact H1.out.next HBr.out, by rw [← HN4.out]; exact H2.out.next HBr.out⟩) HO.out.r hh1 hh2 hy hw2 (by have := HO.out.k; have := HO.out.m; omega) (by have := HO.out.m; omega)).mono ?_
  rintro e w5 ⟨v5, rfl, ⟨vr5, vk5, rfl, h15, h25⟩, hb5⟩
  skip
  have h35 := h15.1; have h45 := h25.1
  obtain ⟨-, A7, c7, rfl, -, -, -, -⟩ := h35
  obtain ⟨-, A8, c8, rfl, -, -, -, -⟩ := h45
  obtain ⟨K, hK⟩ : ∃ K : Ref, K = M.down := ⟨_, rfl⟩
  rw [← hK] at h15 h25
  have hv : Ref.vals M.down (.slice A7 (Ref.rows M.down).length c7) (.slice A8 (Ref.kept M.down).length c8) = #[.int .i64 K.w, .int .i64 K.h, .int .i64 K.most, .slice A7 K.rows.length c7, .slice A8 K.kept.length c8, .int .i64 K.x, .int .i64 K.y, .int .i64 K.begun, .string (bs K.args)] := by rw [← hK]; rfl
  rw [hv]
  clear hv
  have HKK := Lib.hid hK
  have hx5 : w5.heap[w.heap.size]? = some (.cells (Ref.vals M (.slice A3 n3 c3) (.slice A4 n4 c4)) 31 (0, 0)) := (hb5.block _ (block_lt HXr.out)).trans HXr.out
  have hy5 : w5.heap[w.heap.size + 1]? = some (.cells (zeroRef.vals nilS nilS) 31 (0, 0)) := (hb5.block _ (block_lt HYr.out)).trans HYr.out
  have hbw5 : Below w.heap.size w w5 := below_next HBr.out hb5
  have hs5 : w.heap.size + 2 ≤ w5.heap.size := by have := block_lt hy5; omega
  have p0 : w5.cell? ⟨w.heap.size, 0, none⟩ = some (.int .i64 (M).w) := cell_of_row _ _ _ _ _ _ hx5
  have p1 : w5.cell? ⟨w.heap.size, 1, none⟩ = some (.int .i64 (M).h) := cell_of_row _ _ _ _ _ _ hx5
  have p2 : w5.cell? ⟨w.heap.size, 2, none⟩ = some (.int .i64 (M).most) := cell_of_row _ _ _ _ _ _ hx5
  have p3 : w5.cell? ⟨w.heap.size, 3, none⟩ = some (.slice A3 n3 c3) := cell_of_row _ _ _ _ _ _ hx5
  have p4 : w5.cell? ⟨w.heap.size, 4, none⟩ = some (.slice A4 n4 c4) := cell_of_row _ _ _ _ _ _ hx5
  have p5 : w5.cell? ⟨w.heap.size, 5, none⟩ = some (.int .i64 (M).x) := cell_of_row _ _ _ _ _ _ hx5
  have p6 : w5.cell? ⟨w.heap.size, 6, none⟩ = some (.int .i64 (M).y) := cell_of_row _ _ _ _ _ _ hx5
  have p7 : w5.cell? ⟨w.heap.size, 7, none⟩ = some (.int .i64 (M).begun) := cell_of_row _ _ _ _ _ _ hx5
  have p8 : w5.cell? ⟨w.heap.size, 8, none⟩ = some (.string (bs (M).args)) := cell_of_row _ _ _ _ _ _ hx5
  have u0 : w5.frozen? ⟨w.heap.size, 0, none⟩ = false := frozen_of_row _ _ _ _ _ hx5
  have u1 : w5.frozen? ⟨w.heap.size, 1, none⟩ = false := frozen_of_row _ _ _ _ _ hx5
  have u2 : w5.frozen? ⟨w.heap.size, 2, none⟩ = false := frozen_of_row _ _ _ _ _ hx5
  have u3 : w5.frozen? ⟨w.heap.size, 3, none⟩ = false := frozen_of_row _ _ _ _ _ hx5
  have u4 : w5.frozen? ⟨w.heap.size, 4, none⟩ = false := frozen_of_row _ _ _ _ _ hx5
  have u5 : w5.frozen? ⟨w.heap.size, 5, none⟩ = false := frozen_of_row _ _ _ _ _ hx5
  have u6 : w5.frozen? ⟨w.heap.size, 6, none⟩ = false := frozen_of_row _ _ _ _ _ hx5
  have u7 : w5.frozen? ⟨w.heap.size, 7, none⟩ = false := frozen_of_row _ _ _ _ _ hx5
  have u8 : w5.frozen? ⟨w.heap.size, 8, none⟩ = false := frozen_of_row _ _ _ _ _ hx5
  have dd0 : w5.cell? ⟨w.heap.size + 1, 0, none⟩ = some (.int .i64 0) := cell_of_row _ _ _ _ _ _ hy5
  have dd1 : w5.cell? ⟨w.heap.size + 1, 1, none⟩ = some (.int .i64 0) := cell_of_row _ _ _ _ _ _ hy5
  have dd2 : w5.cell? ⟨w.heap.size + 1, 2, none⟩ = some (.int .i64 0) := cell_of_row _ _ _ _ _ _ hy5
  have dd3 : w5.cell? ⟨w.heap.size + 1, 3, none⟩ = some (.slice none 0 0) := cell_of_row _ _ _ _ _ _ hy5
  have dd4 : w5.cell? ⟨w.heap.size + 1, 4, none⟩ = some (.slice none 0 0) := cell_of_row _ _ _ _ _ _ hy5
  have dd5 : w5.cell? ⟨w.heap.size + 1, 5, none⟩ = some (.int .i64 0) := cell_of_row _ _ _ _ _ _ hy5
  have dd6 : w5.cell? ⟨w.heap.size + 1, 6, none⟩ = some (.int .i64 0) := cell_of_row _ _ _ _ _ _ hy5
  have dd7 : w5.cell? ⟨w.heap.size + 1, 7, none⟩ = some (.int .i64 0) := cell_of_row _ _ _ _ _ _ hy5
  have dd8 : w5.cell? ⟨w.heap.size + 1, 8, none⟩ = some (.string ⟨#[]⟩) := cell_of_row _ _ _ _ _ _ hy5
  have zz0 : w5.frozen? ⟨w.heap.size + 1, 0, none⟩ = false := frozen_of_row _ _ _ _ _ hy5
  have zz1 : w5.frozen? ⟨w.heap.size + 1, 1, none⟩ = false := frozen_of_row _ _ _ _ _ hy5
  have zz2 : w5.frozen? ⟨w.heap.size + 1, 2, none⟩ = false := frozen_of_row _ _ _ _ _ hy5
  have zz3 : w5.frozen? ⟨w.heap.size + 1, 3, none⟩ = false := frozen_of_row _ _ _ _ _ hy5
  have zz4 : w5.frozen? ⟨w.heap.size + 1, 4, none⟩ = false := frozen_of_row _ _ _ _ _ hy5
  have zz5 : w5.frozen? ⟨w.heap.size + 1, 5, none⟩ = false := frozen_of_row _ _ _ _ _ hy5
  have zz6 : w5.frozen? ⟨w.heap.size + 1, 6, none⟩ = false := frozen_of_row _ _ _ _ _ hy5
  have zz7 : w5.frozen? ⟨w.heap.size + 1, 7, none⟩ = false := frozen_of_row _ _ _ _ _ hy5
  have zz8 : w5.frozen? ⟨w.heap.size + 1, 8, none⟩ = false := frozen_of_row _ _ _ _ _ hy5
  have HX5 := Lib.hid hx5; have HY5 := Lib.hid hy5; have HB5 := Lib.hid hbw5; have HR15 := Lib.hid h15; have HR25 := Lib.hid h25
  clear hx5 hy5 hbw5 h15 h25 hb5 hK e0 f0 d0 z0 e1 f1 d1 z1 e2 f2 d2 z2 e3 f3 d3 z3 e4 f4 d4 z4 e5 f5 d5 z5 e6 f6 d6 z6 e7 f7 d7 z7 e8 f8 d8 z8
  go_upto_region 20 with fail
  change Code.wp _ _ _ _ (w5.setCells w.heap.size 0 (K.vals (.slice A7 K.rows.length c7) (.slice A8 K.kept.length c8)).toList)
  obtain ⟨w6, hw6⟩ : ∃ w6, w6 = w5.setCells w.heap.size 0 (K.vals (.slice A7 K.rows.length c7) (.slice A8 K.kept.length c8)).toList := ⟨_, rfl⟩
  rw [← hw6]
  have hx6 : w6.heap[w.heap.size]? = some (.cells (K.vals (.slice A7 K.rows.length c7) (.slice A8 K.kept.length c8)) 31 (0, 0)) := by rw [hw6]; exact ref_over HX5.out _ _ _
  have hy6 : w6.heap[w.heap.size + 1]? = some (.cells (zeroRef.vals nilS nilS) 31 (0, 0)) := by rw [hw6]; exact ((grown_setCells w5 w.heap.size 0 _).block _ (by omega) (fun he => by injection he with he; omega)).trans HY5.out
  have hbw6 : Below w.heap.size w w6 := by rw [hw6]; exact below_cells HB5.out _ _ _ (Nat.le_refl _) (by omega)
  have hr16 : RdT w6 9 (.slice A7 K.rows.length c7) K.rows.length (K.rows.map strV) := by rw [hw6]; exact HR15.out.ne HX5.out (by decide) (grown_setCells w5 w.heap.size 0 _)
  have hr26 : RdT w6 9 (.slice A8 K.kept.length c8) K.kept.length (K.kept.map strV) := by rw [hw6]; exact HR25.out.ne HX5.out (by decide) (grown_setCells w5 w.heap.size 0 _)
  clear hw6 HX5 HY5 HB5 HR15 HR25 hs5 p0 u0 dd0 zz0 p1 u1 dd1 zz1 p2 u2 dd2 zz2 p3 u3 dd3 zz3 p4 u4 dd4 zz4 p5 u5 dd5 zz5 p6 u6 dd6 zz6 p7 u7 dd7 zz7 p8 u8 dd8 zz8
  have hs5 : w.heap.size + 2 ≤ w6.heap.size := by have := block_lt hy6; omega
  have p0 : w6.cell? ⟨w.heap.size, 0, none⟩ = some (.int .i64 K.w) := cell_of_row _ _ _ _ _ _ hx6
  have p1 : w6.cell? ⟨w.heap.size, 1, none⟩ = some (.int .i64 K.h) := cell_of_row _ _ _ _ _ _ hx6
  have p2 : w6.cell? ⟨w.heap.size, 2, none⟩ = some (.int .i64 K.most) := cell_of_row _ _ _ _ _ _ hx6
  have p3 : w6.cell? ⟨w.heap.size, 3, none⟩ = some (.slice A7 K.rows.length c7) := cell_of_row _ _ _ _ _ _ hx6
  have p4 : w6.cell? ⟨w.heap.size, 4, none⟩ = some (.slice A8 K.kept.length c8) := cell_of_row _ _ _ _ _ _ hx6
  have p5 : w6.cell? ⟨w.heap.size, 5, none⟩ = some (.int .i64 K.x) := cell_of_row _ _ _ _ _ _ hx6
  have p6 : w6.cell? ⟨w.heap.size, 6, none⟩ = some (.int .i64 K.y) := cell_of_row _ _ _ _ _ _ hx6
  have p7 : w6.cell? ⟨w.heap.size, 7, none⟩ = some (.int .i64 K.begun) := cell_of_row _ _ _ _ _ _ hx6
  have p8 : w6.cell? ⟨w.heap.size, 8, none⟩ = some (.string (bs K.args)) := cell_of_row _ _ _ _ _ _ hx6
  have u0 : w6.frozen? ⟨w.heap.size, 0, none⟩ = false := frozen_of_row _ _ _ _ _ hx6
  have u1 : w6.frozen? ⟨w.heap.size, 1, none⟩ = false := frozen_of_row _ _ _ _ _ hx6
  have u2 : w6.frozen? ⟨w.heap.size, 2, none⟩ = false := frozen_of_row _ _ _ _ _ hx6
  have u3 : w6.frozen? ⟨w.heap.size, 3, none⟩ = false := frozen_of_row _ _ _ _ _ hx6
  have u4 : w6.frozen? ⟨w.heap.size, 4, none⟩ = false := frozen_of_row _ _ _ _ _ hx6
  have u5 : w6.frozen? ⟨w.heap.size, 5, none⟩ = false := frozen_of_row _ _ _ _ _ hx6
  have u6 : w6.frozen? ⟨w.heap.size, 6, none⟩ = false := frozen_of_row _ _ _ _ _ hx6
  have u7 : w6.frozen? ⟨w.heap.size, 7, none⟩ = false := frozen_of_row _ _ _ _ _ hx6
  have u8 : w6.frozen? ⟨w.heap.size, 8, none⟩ = false := frozen_of_row _ _ _ _ _ hx6
  have dd0 : w6.cell? ⟨w.heap.size + 1, 0, none⟩ = some (.int .i64 0) := cell_of_row _ _ _ _ _ _ hy6
  have dd1 : w6.cell? ⟨w.heap.size + 1, 1, none⟩ = some (.int .i64 0) := cell_of_row _ _ _ _ _ _ hy6
  have dd2 : w6.cell? ⟨w.heap.size + 1, 2, none⟩ = some (.int .i64 0) := cell_of_row _ _ _ _ _ _ hy6
  have dd3 : w6.cell? ⟨w.heap.size + 1, 3, none⟩ = some (.slice none 0 0) := cell_of_row _ _ _ _ _ _ hy6
  have dd4 : w6.cell? ⟨w.heap.size + 1, 4, none⟩ = some (.slice none 0 0) := cell_of_row _ _ _ _ _ _ hy6
  have dd5 : w6.cell? ⟨w.heap.size + 1, 5, none⟩ = some (.int .i64 0) := cell_of_row _ _ _ _ _ _ hy6
  have dd6 : w6.cell? ⟨w.heap.size + 1, 6, none⟩ = some (.int .i64 0) := cell_of_row _ _ _ _ _ _ hy6
  have dd7 : w6.cell? ⟨w.heap.size + 1, 7, none⟩ = some (.int .i64 0) := cell_of_row _ _ _ _ _ _ hy6
  have dd8 : w6.cell? ⟨w.heap.size + 1, 8, none⟩ = some (.string ⟨#[]⟩) := cell_of_row _ _ _ _ _ _ hy6
  have zz0 : w6.frozen? ⟨w.heap.size + 1, 0, none⟩ = false := frozen_of_row _ _ _ _ _ hy6
  have zz1 : w6.frozen? ⟨w.heap.size + 1, 1, none⟩ = false := frozen_of_row _ _ _ _ _ hy6
  have zz2 : w6.frozen? ⟨w.heap.size + 1, 2, none⟩ = false := frozen_of_row _ _ _ _ _ hy6
  have zz3 : w6.frozen? ⟨w.heap.size + 1, 3, none⟩ = false := frozen_of_row _ _ _ _ _ hy6
  have zz4 : w6.frozen? ⟨w.heap.size + 1, 4, none⟩ = false := frozen_of_row _ _ _ _ _ hy6
  have zz5 : w6.frozen? ⟨w.heap.size + 1, 5, none⟩ = false := frozen_of_row _ _ _ _ _ hy6
  have zz6 : w6.frozen? ⟨w.heap.size + 1, 6, none⟩ = false := frozen_of_row _ _ _ _ _ hy6
  have zz7 : w6.frozen? ⟨w.heap.size + 1, 7, none⟩ = false := frozen_of_row _ _ _ _ _ hy6
  have zz8 : w6.frozen? ⟨w.heap.size + 1, 8, none⟩ = false := frozen_of_row _ _ _ _ _ hy6
  have HX5 := Lib.hid hx6; have HY5 := Lib.hid hy6; have HB5 := Lib.hid hbw6; have HR15 := Lib.hid hr16; have HR25 := Lib.hid hr26
  clear hx6 hy6 hbw6 hr16 hr26
  have HOk : Hid K.Ok := by rw [HKK.out]; exact HO.out.down
  have hKf := down_fields M
  rw [← HKK.out] at hKf HLet
  obtain ⟨kx0, kw, kh⟩ := hKf
  have hKw1 := HOk.out.w1; have hKw2 := HOk.out.w2; have hKh2 := HOk.out.h2; have hKy := HOk.out.y
  have hxK : K.x < K.w := by omega
  have lbW : w.heap.size < w6.heap.size := by omega
  have lbW1 : w.heap.size + 1 < w6.heap.size := by omega
  clear kx0 kw kh HKK
  have hcv := conv_one w6 v0
  have hRs : (bs [v0]).size = 1 := bs_size [v0]
  have hRl : (bs [v0]).data.toList = [v0] := bs_list [v0]
  have hrwN : (K.rows.getD K.y []).length = K.w := by
    have hm : K.rows.getD K.y [] ∈ K.rows := by rw [List.getD_eq_getElem?_getD, List.getElem?_eq_getElem (by rw [HOk.out.r]; exact HOk.out.y)]; exact List.getElem_mem _
    rw [HOk.out.rw _ hm]
  go_wp2_with fail
  have HXr : Hid ((w6.alloc (.cells #[.int .u8 (v0.toNat : Int)] 5)).heap[w.heap.size]? = some (.cells (Ref.vals K (.slice A7 K.rows.length c7) (.slice A8 K.kept.length c8)) 31 (0, 0))) := (Below.heap_alloc _ _ _ lbW).trans HX5.out
  have HYr : Hid ((w6.alloc (.cells #[.int .u8 (v0.toNat : Int)] 5)).heap[w.heap.size + 1]? = some (.cells (zeroRef.vals nilS nilS) 31 (0, 0))) := (Below.heap_alloc _ _ _ lbW1).trans HY5.out
  have HBr : Hid (Below w.heap.size w (w6.alloc (.cells #[.int .u8 (v0.toNat : Int)] 5))) := HB5.out.alloc (by omega) _
  refine (lay_walk (.agg (Ref.vals K (.slice A7 K.rows.length c7) (.slice A8 K.kept.length c8))) K K.y K.x (bs [v0]) _ (by exact ⟨_, _, rfl, HR15.out.next ((Below.refl _ _).alloc (Nat.le_refl _) _), HR25.out.next ((Below.refl _ _).alloc (Nat.le_refl _) _)⟩) (by rw [HOk.out.r]; omega) (by rw [HOk.out.r]; exact hKy) (by rw [hRs, hrwN]; omega) (by rw [hrwN]; omega)).mono ?_
  rw [hRl]
  clear hs5
  rintro e w7 ⟨v5, rfl, ⟨vr5, vk5, rfl, h15, h25⟩, hb5⟩
  skip
  have h35 := h15.1; have h45 := h25.1
  obtain ⟨-, B7, b7, rfl, -, -, -, -⟩ := h35
  obtain ⟨-, B8, b8, rfl, -, -, -, -⟩ := h45
  obtain ⟨L, hK⟩ : ∃ L : Ref, L = (K.lay K.y K.x [v0]) := ⟨_, rfl⟩
  rw [← hK] at h15 h25
  have hv : Ref.vals (K.lay K.y K.x [v0]) (.slice B7 (Ref.rows (K.lay K.y K.x [v0])).length b7) (.slice B8 (Ref.kept (K.lay K.y K.x [v0])).length b8) = #[.int .i64 L.w, .int .i64 L.h, .int .i64 L.most, .slice B7 L.rows.length b7, .slice B8 L.kept.length b8, .int .i64 L.x, .int .i64 L.y, .int .i64 L.begun, .string (bs L.args)] := by rw [← hK]; rfl
  rw [hv]
  clear hv
  have HLL := Lib.hid hK
  have hx5 : w7.heap[w.heap.size]? = some (.cells (Ref.vals K (.slice A7 K.rows.length c7) (.slice A8 K.kept.length c8)) 31 (0, 0)) := (hb5.block _ (block_lt HXr.out)).trans HXr.out
  have hy5 : w7.heap[w.heap.size + 1]? = some (.cells (zeroRef.vals nilS nilS) 31 (0, 0)) := (hb5.block _ (block_lt HYr.out)).trans HYr.out
  have hbw5 : Below w.heap.size w w7 := below_next HBr.out hb5
  have hs5 : w.heap.size + 2 ≤ w7.heap.size := by have := block_lt hy5; omega
  have p0b : w7.cell? ⟨w.heap.size, 0, none⟩ = some (.int .i64 (K).w) := cell_of_row _ _ _ _ _ _ hx5
  have p1b : w7.cell? ⟨w.heap.size, 1, none⟩ = some (.int .i64 (K).h) := cell_of_row _ _ _ _ _ _ hx5
  have p2b : w7.cell? ⟨w.heap.size, 2, none⟩ = some (.int .i64 (K).most) := cell_of_row _ _ _ _ _ _ hx5
  have p3b : w7.cell? ⟨w.heap.size, 3, none⟩ = some (.slice A7 K.rows.length c7) := cell_of_row _ _ _ _ _ _ hx5
  have p4b : w7.cell? ⟨w.heap.size, 4, none⟩ = some (.slice A8 K.kept.length c8) := cell_of_row _ _ _ _ _ _ hx5
  have p5b : w7.cell? ⟨w.heap.size, 5, none⟩ = some (.int .i64 (K).x) := cell_of_row _ _ _ _ _ _ hx5
  have p6b : w7.cell? ⟨w.heap.size, 6, none⟩ = some (.int .i64 (K).y) := cell_of_row _ _ _ _ _ _ hx5
  have p7b : w7.cell? ⟨w.heap.size, 7, none⟩ = some (.int .i64 (K).begun) := cell_of_row _ _ _ _ _ _ hx5
  have p8b : w7.cell? ⟨w.heap.size, 8, none⟩ = some (.string (bs (K).args)) := cell_of_row _ _ _ _ _ _ hx5
  have u0b : w7.frozen? ⟨w.heap.size, 0, none⟩ = false := frozen_of_row _ _ _ _ _ hx5
  have u1b : w7.frozen? ⟨w.heap.size, 1, none⟩ = false := frozen_of_row _ _ _ _ _ hx5
  have u2b : w7.frozen? ⟨w.heap.size, 2, none⟩ = false := frozen_of_row _ _ _ _ _ hx5
  have u3b : w7.frozen? ⟨w.heap.size, 3, none⟩ = false := frozen_of_row _ _ _ _ _ hx5
  have u4b : w7.frozen? ⟨w.heap.size, 4, none⟩ = false := frozen_of_row _ _ _ _ _ hx5
  have u5b : w7.frozen? ⟨w.heap.size, 5, none⟩ = false := frozen_of_row _ _ _ _ _ hx5
  have u6b : w7.frozen? ⟨w.heap.size, 6, none⟩ = false := frozen_of_row _ _ _ _ _ hx5
  have u7b : w7.frozen? ⟨w.heap.size, 7, none⟩ = false := frozen_of_row _ _ _ _ _ hx5
  have u8b : w7.frozen? ⟨w.heap.size, 8, none⟩ = false := frozen_of_row _ _ _ _ _ hx5
  have dd0b : w7.cell? ⟨w.heap.size + 1, 0, none⟩ = some (.int .i64 0) := cell_of_row _ _ _ _ _ _ hy5
  have dd1b : w7.cell? ⟨w.heap.size + 1, 1, none⟩ = some (.int .i64 0) := cell_of_row _ _ _ _ _ _ hy5
  have dd2b : w7.cell? ⟨w.heap.size + 1, 2, none⟩ = some (.int .i64 0) := cell_of_row _ _ _ _ _ _ hy5
  have dd3b : w7.cell? ⟨w.heap.size + 1, 3, none⟩ = some (.slice none 0 0) := cell_of_row _ _ _ _ _ _ hy5
  have dd4b : w7.cell? ⟨w.heap.size + 1, 4, none⟩ = some (.slice none 0 0) := cell_of_row _ _ _ _ _ _ hy5
  have dd5b : w7.cell? ⟨w.heap.size + 1, 5, none⟩ = some (.int .i64 0) := cell_of_row _ _ _ _ _ _ hy5
  have dd6b : w7.cell? ⟨w.heap.size + 1, 6, none⟩ = some (.int .i64 0) := cell_of_row _ _ _ _ _ _ hy5
  have dd7b : w7.cell? ⟨w.heap.size + 1, 7, none⟩ = some (.int .i64 0) := cell_of_row _ _ _ _ _ _ hy5
  have dd8b : w7.cell? ⟨w.heap.size + 1, 8, none⟩ = some (.string ⟨#[]⟩) := cell_of_row _ _ _ _ _ _ hy5
  have zz0b : w7.frozen? ⟨w.heap.size + 1, 0, none⟩ = false := frozen_of_row _ _ _ _ _ hy5
  have zz1b : w7.frozen? ⟨w.heap.size + 1, 1, none⟩ = false := frozen_of_row _ _ _ _ _ hy5
  have zz2b : w7.frozen? ⟨w.heap.size + 1, 2, none⟩ = false := frozen_of_row _ _ _ _ _ hy5
  have zz3b : w7.frozen? ⟨w.heap.size + 1, 3, none⟩ = false := frozen_of_row _ _ _ _ _ hy5
  have zz4b : w7.frozen? ⟨w.heap.size + 1, 4, none⟩ = false := frozen_of_row _ _ _ _ _ hy5
  have zz5b : w7.frozen? ⟨w.heap.size + 1, 5, none⟩ = false := frozen_of_row _ _ _ _ _ hy5
  have zz6b : w7.frozen? ⟨w.heap.size + 1, 6, none⟩ = false := frozen_of_row _ _ _ _ _ hy5
  have zz7b : w7.frozen? ⟨w.heap.size + 1, 7, none⟩ = false := frozen_of_row _ _ _ _ _ hy5
  have zz8b : w7.frozen? ⟨w.heap.size + 1, 8, none⟩ = false := frozen_of_row _ _ _ _ _ hy5
  have HX5b := Lib.hid hx5; have HY5b := Lib.hid hy5; have HB5b := Lib.hid hbw5; have HR15b := Lib.hid h15; have HR25b := Lib.hid h25
  clear hx5 hy5 hbw5 h15 h25 hb5 hK p0 u0 dd0 zz0 p1 u1 dd1 zz1 p2 u2 dd2 zz2 p3 u3 dd3 zz3 p4 u4 dd4 zz4 p5 u5 dd5 zz5 p6 u6 dd6 zz6 p7 u7 dd7 zz7 p8 u8 dd8 zz8
  clear hcv hRs hRl hrwN
  go_upto_region 21 with fail
  change Code.wp _ _ _ _ (w7.setCells w.heap.size 0 (L.vals (.slice B7 L.rows.length b7) (.slice B8 L.kept.length b8)).toList)
  obtain ⟨w8, hw8⟩ : ∃ w8, w8 = w7.setCells w.heap.size 0 (L.vals (.slice B7 L.rows.length b7) (.slice B8 L.kept.length b8)).toList := ⟨_, rfl⟩
  rw [← hw8]
  have hx6 : w8.heap[w.heap.size]? = some (.cells (L.vals (.slice B7 L.rows.length b7) (.slice B8 L.kept.length b8)) 31 (0, 0)) := by rw [hw8]; exact ref_over HX5b.out _ _ _
  have hy6 : w8.heap[w.heap.size + 1]? = some (.cells (zeroRef.vals nilS nilS) 31 (0, 0)) := by rw [hw8]; exact ((grown_setCells w7 w.heap.size 0 _).block _ (by omega) (fun he => by injection he with he; omega)).trans HY5b.out
  have hbw6 : Below w.heap.size w w8 := by rw [hw8]; exact below_cells HB5b.out _ _ _ (Nat.le_refl _) (by omega)
  have hr16 : RdT w8 9 (.slice B7 L.rows.length b7) L.rows.length (L.rows.map strV) := by rw [hw8]; exact HR15b.out.ne HX5b.out (by decide) (grown_setCells w7 w.heap.size 0 _)
  have hr26 : RdT w8 9 (.slice B8 L.kept.length b8) L.kept.length (L.kept.map strV) := by rw [hw8]; exact HR25b.out.ne HX5b.out (by decide) (grown_setCells w7 w.heap.size 0 _)
  clear hw8 HX5b HY5b HB5b HR15b HR25b hs5 p0b u0b dd0b zz0b p1b u1b dd1b zz1b p2b u2b dd2b zz2b p3b u3b dd3b zz3b p4b u4b dd4b zz4b p5b u5b dd5b zz5b p6b u6b dd6b zz6b p7b u7b dd7b zz7b p8b u8b dd8b zz8b
  have hs5 : w.heap.size + 2 ≤ w8.heap.size := by have := block_lt hy6; omega
  have p0b : w8.cell? ⟨w.heap.size, 0, none⟩ = some (.int .i64 L.w) := cell_of_row _ _ _ _ _ _ hx6
  have p1b : w8.cell? ⟨w.heap.size, 1, none⟩ = some (.int .i64 L.h) := cell_of_row _ _ _ _ _ _ hx6
  have p2b : w8.cell? ⟨w.heap.size, 2, none⟩ = some (.int .i64 L.most) := cell_of_row _ _ _ _ _ _ hx6
  have p3b : w8.cell? ⟨w.heap.size, 3, none⟩ = some (.slice B7 L.rows.length b7) := cell_of_row _ _ _ _ _ _ hx6
  have p4b : w8.cell? ⟨w.heap.size, 4, none⟩ = some (.slice B8 L.kept.length b8) := cell_of_row _ _ _ _ _ _ hx6
  have p5b : w8.cell? ⟨w.heap.size, 5, none⟩ = some (.int .i64 L.x) := cell_of_row _ _ _ _ _ _ hx6
  have p6b : w8.cell? ⟨w.heap.size, 6, none⟩ = some (.int .i64 L.y) := cell_of_row _ _ _ _ _ _ hx6
  have p7b : w8.cell? ⟨w.heap.size, 7, none⟩ = some (.int .i64 L.begun) := cell_of_row _ _ _ _ _ _ hx6
  have p8b : w8.cell? ⟨w.heap.size, 8, none⟩ = some (.string (bs L.args)) := cell_of_row _ _ _ _ _ _ hx6
  have u0b : w8.frozen? ⟨w.heap.size, 0, none⟩ = false := frozen_of_row _ _ _ _ _ hx6
  have u1b : w8.frozen? ⟨w.heap.size, 1, none⟩ = false := frozen_of_row _ _ _ _ _ hx6
  have u2b : w8.frozen? ⟨w.heap.size, 2, none⟩ = false := frozen_of_row _ _ _ _ _ hx6
  have u3b : w8.frozen? ⟨w.heap.size, 3, none⟩ = false := frozen_of_row _ _ _ _ _ hx6
  have u4b : w8.frozen? ⟨w.heap.size, 4, none⟩ = false := frozen_of_row _ _ _ _ _ hx6
  have u5b : w8.frozen? ⟨w.heap.size, 5, none⟩ = false := frozen_of_row _ _ _ _ _ hx6
  have u6b : w8.frozen? ⟨w.heap.size, 6, none⟩ = false := frozen_of_row _ _ _ _ _ hx6
  have u7b : w8.frozen? ⟨w.heap.size, 7, none⟩ = false := frozen_of_row _ _ _ _ _ hx6
  have u8b : w8.frozen? ⟨w.heap.size, 8, none⟩ = false := frozen_of_row _ _ _ _ _ hx6
  have dd0b : w8.cell? ⟨w.heap.size + 1, 0, none⟩ = some (.int .i64 0) := cell_of_row _ _ _ _ _ _ hy6
  have dd1b : w8.cell? ⟨w.heap.size + 1, 1, none⟩ = some (.int .i64 0) := cell_of_row _ _ _ _ _ _ hy6
  have dd2b : w8.cell? ⟨w.heap.size + 1, 2, none⟩ = some (.int .i64 0) := cell_of_row _ _ _ _ _ _ hy6
  have dd3b : w8.cell? ⟨w.heap.size + 1, 3, none⟩ = some (.slice none 0 0) := cell_of_row _ _ _ _ _ _ hy6
  have dd4b : w8.cell? ⟨w.heap.size + 1, 4, none⟩ = some (.slice none 0 0) := cell_of_row _ _ _ _ _ _ hy6
  have dd5b : w8.cell? ⟨w.heap.size + 1, 5, none⟩ = some (.int .i64 0) := cell_of_row _ _ _ _ _ _ hy6
  have dd6b : w8.cell? ⟨w.heap.size + 1, 6, none⟩ = some (.int .i64 0) := cell_of_row _ _ _ _ _ _ hy6
  have dd7b : w8.cell? ⟨w.heap.size + 1, 7, none⟩ = some (.int .i64 0) := cell_of_row _ _ _ _ _ _ hy6
  have dd8b : w8.cell? ⟨w.heap.size + 1, 8, none⟩ = some (.string ⟨#[]⟩) := cell_of_row _ _ _ _ _ _ hy6
  have zz0b : w8.frozen? ⟨w.heap.size + 1, 0, none⟩ = false := frozen_of_row _ _ _ _ _ hy6
  have zz1b : w8.frozen? ⟨w.heap.size + 1, 1, none⟩ = false := frozen_of_row _ _ _ _ _ hy6
  have zz2b : w8.frozen? ⟨w.heap.size + 1, 2, none⟩ = false := frozen_of_row _ _ _ _ _ hy6
  have zz3b : w8.frozen? ⟨w.heap.size + 1, 3, none⟩ = false := frozen_of_row _ _ _ _ _ hy6
  have zz4b : w8.frozen? ⟨w.heap.size + 1, 4, none⟩ = false := frozen_of_row _ _ _ _ _ hy6
  have zz5b : w8.frozen? ⟨w.heap.size + 1, 5, none⟩ = false := frozen_of_row _ _ _ _ _ hy6
  have zz6b : w8.frozen? ⟨w.heap.size + 1, 6, none⟩ = false := frozen_of_row _ _ _ _ _ hy6
  have zz7b : w8.frozen? ⟨w.heap.size + 1, 7, none⟩ = false := frozen_of_row _ _ _ _ _ hy6
  have zz8b : w8.frozen? ⟨w.heap.size + 1, 8, none⟩ = false := frozen_of_row _ _ _ _ _ hy6
  have HX5b := Lib.hid hx6; have HY5b := Lib.hid hy6; have HB5b := Lib.hid hbw6; have HR15b := Lib.hid hr16; have HR25b := Lib.hid hr26
  clear hx6 hy6 hbw6 hr16 hr26
  have hKx : Hid (L.x = K.x) := by rw [HLL.out]; exact Lib.hid rfl
  have hxb : L.x ≤ 128 := by rw [hKx.out]; omega
  go_wp2_with fail
  rw [show M.letter v0 = { L with x := L.x + 1 } from by rw [HLet.out, HLL.out]; rfl]
  refine bodyPost_ret (v := .agg (Ref.vals ({ L with x := L.x + 1 }) (.slice B7 L.rows.length b7) (.slice B8 L.kept.length b8))) (by simp [results, Tryd.results34, go_sem, Ref.vals, dd0b, dd1b, dd2b, dd3b, dd4b, dd5b, dd6b, dd7b, dd8b]) rfl ⟨_, rfl, ⟨_, _, rfl, ?_, ?_⟩, ?_⟩
  · exact HR15b.out.two HX5b.out HY5b.out (by decide) (by repeat (first | with_reducible exact Two.refl _ _ | with_reducible refine Two.setA ?_ _ _ | with_reducible refine Two.setC ?_ _ _))
  · exact HR25b.out.two HX5b.out HY5b.out (by decide) (by repeat (first | with_reducible exact Two.refl _ _ | with_reducible refine Two.setA ?_ _ _ | with_reducible refine Two.setC ?_ _ _))
  · exact (by repeat (first | with_reducible exact HB5b.out | with_reducible refine below_setG ?_ _ (by omega) _ _))
theorem wipeAll_w (M : Ref) (k : Nat) : (M.wipeAll k).w = M.w ∧ (M.wipeAll k).h = M.h ∧ (M.wipeAll k).y = M.y ∧ (M.wipeAll k).x = M.x ∧ (M.wipeAll k).rows.length = M.rows.length := by
  induction k with
  | zero => simp [Ref.wipeAll]
  | succ k ih =>
    unfold Ref.wipeAll
    have := erase_w (M.wipeAll k) k 2 0
    simp_all
theorem wipeAll_rows (M : Ref) (k : Nat) (hr : ∀ r ∈ M.rows, r.length = M.w) (hk : k ≤ M.rows.length) : ∀ r ∈ (M.wipeAll k).rows, r.length = M.w := by
  induction k with
  | zero => exact hr
  | succ k ih =>
    unfold Ref.wipeAll
    have hw := wipeAll_w M k
    have := erase_rows (M.wipeAll k) k 2 0 (by rw [hw.1]; exact ih (by omega)) (by rw [hw.2.2.2.2]; omega) (by omega)
    rw [hw.1] at this
    exact this
set_option maxRecDepth 100000 in
set_option maxHeartbeats 1600000 in
theorem rbyte_12 (v : Value) (M : Ref) (w : World) (h : RV w v M) (ok : M.Ok) (hb1 : ¬ M.begun = 1) (hb2 : ¬ M.begun = 2) :
    Calls Tryd.prog 34 #[v, .int .u8 12] w (RVPost w { M.wipeAll M.h with x := 0, y := 0 }) := by
  have tb1 : ((M.begun : Int) == 1) = false := by simp; omega
  have tb2 : ((M.begun : Int) == 2) = false := by simp; omega
  clear hb1 hb2
  obtain ⟨P, hP⟩ : ∃ P : Ref, P = { M.wipeAll M.h with x := 0, y := 0 } := ⟨_, rfl⟩
  rw [← hP]
  have HP := Lib.hid hP
  have HRH := Lib.hid ok.r
  have HRW := Lib.hid ok.rw
  have hrl : M.rows.length ≤ 64 := by rw [ok.r]; exact ok.h2
  clear hP
  obtain ⟨vr, vk, rfl, h1, h2⟩ := h
  have H1 := Lib.hid h1; have H2 := Lib.hid h2
  obtain ⟨-, A4, c4, rfl, -, -, -, -⟩ := h2.1
  obtain ⟨-, A3, c3, rfl, -, -, -, -⟩ := h1.1
  clear h1 h2
  have hw1 := ok.w1; have hw2 := ok.w2; have hh1 := ok.h1; have hh2 := ok.h2; have hx := ok.x; have hy := ok.y
  have hw0 : ((M.w : Int) == 0) = false := by simp; omega
  obtain ⟨n3, hn3⟩ : ∃ n : Nat, n = M.rows.length := ⟨_, rfl⟩
  obtain ⟨n4, hn4⟩ : ∃ n : Nat, n = M.kept.length := ⟨_, rfl⟩
  rw [← hn3] at H1 ⊢
  rw [← hn4] at H2 ⊢
  obtain ⟨W, hW⟩ : ∃ W, W = (w.alloc (.cells (M.vals (.slice A3 n3 c3) (.slice A4 n4 c4)) 31)).alloc (.cells #[.int .i64 0, .int .i64 0, .int .i64 0, .slice none 0 0, .slice none 0 0, .int .i64 0, .int .i64 0, .int .i64 0, .string ⟨#[]⟩] 31) := ⟨_, rfl⟩
  have hWx : W.heap[w.heap.size]? = some (.cells (M.vals (.slice A3 n3 c3) (.slice A4 n4 c4)) 31 (0, 0)) := by rw [hW]; exact alloc2_fst _ _ _
  have hWy : W.heap[w.heap.size + 1]? = some (.cells (zeroRef.vals nilS nilS) 31 (0, 0)) := by rw [hW]; exact alloc2_snd _ _ _
  have hWb : Below w.heap.size w W := by rw [hW]; exact below_alloc2 _ _ _
  have hWs : W.heap.size = w.heap.size + 2 := by rw [hW]; simp
  have e0 : W.cell? ⟨w.heap.size, 0, none⟩ = some (.int .i64 M.w) := cell_of_row _ _ _ _ _ _ hWx
  have e1 : W.cell? ⟨w.heap.size, 1, none⟩ = some (.int .i64 M.h) := cell_of_row _ _ _ _ _ _ hWx
  have e2 : W.cell? ⟨w.heap.size, 2, none⟩ = some (.int .i64 M.most) := cell_of_row _ _ _ _ _ _ hWx
  have e3 : W.cell? ⟨w.heap.size, 3, none⟩ = some (.slice A3 n3 c3) := cell_of_row _ _ _ _ _ _ hWx
  have e4 : W.cell? ⟨w.heap.size, 4, none⟩ = some (.slice A4 n4 c4) := cell_of_row _ _ _ _ _ _ hWx
  have e5 : W.cell? ⟨w.heap.size, 5, none⟩ = some (.int .i64 M.x) := cell_of_row _ _ _ _ _ _ hWx
  have e6 : W.cell? ⟨w.heap.size, 6, none⟩ = some (.int .i64 M.y) := cell_of_row _ _ _ _ _ _ hWx
  have e7 : W.cell? ⟨w.heap.size, 7, none⟩ = some (.int .i64 M.begun) := cell_of_row _ _ _ _ _ _ hWx
  have e8 : W.cell? ⟨w.heap.size, 8, none⟩ = some (.string (bs M.args)) := cell_of_row _ _ _ _ _ _ hWx
  have f0 : W.frozen? ⟨w.heap.size, 0, none⟩ = false := frozen_of_row _ _ _ _ _ hWx
  have f1 : W.frozen? ⟨w.heap.size, 1, none⟩ = false := frozen_of_row _ _ _ _ _ hWx
  have f2 : W.frozen? ⟨w.heap.size, 2, none⟩ = false := frozen_of_row _ _ _ _ _ hWx
  have f3 : W.frozen? ⟨w.heap.size, 3, none⟩ = false := frozen_of_row _ _ _ _ _ hWx
  have f4 : W.frozen? ⟨w.heap.size, 4, none⟩ = false := frozen_of_row _ _ _ _ _ hWx
  have f5 : W.frozen? ⟨w.heap.size, 5, none⟩ = false := frozen_of_row _ _ _ _ _ hWx
  have f6 : W.frozen? ⟨w.heap.size, 6, none⟩ = false := frozen_of_row _ _ _ _ _ hWx
  have f7 : W.frozen? ⟨w.heap.size, 7, none⟩ = false := frozen_of_row _ _ _ _ _ hWx
  have f8 : W.frozen? ⟨w.heap.size, 8, none⟩ = false := frozen_of_row _ _ _ _ _ hWx
  have d0 : W.cell? ⟨w.heap.size + 1, 0, none⟩ = some (.int .i64 0) := cell_of_row _ _ _ _ _ _ hWy
  have d1 : W.cell? ⟨w.heap.size + 1, 1, none⟩ = some (.int .i64 0) := cell_of_row _ _ _ _ _ _ hWy
  have d2 : W.cell? ⟨w.heap.size + 1, 2, none⟩ = some (.int .i64 0) := cell_of_row _ _ _ _ _ _ hWy
  have d3 : W.cell? ⟨w.heap.size + 1, 3, none⟩ = some (.slice none 0 0) := cell_of_row _ _ _ _ _ _ hWy
  have d4 : W.cell? ⟨w.heap.size + 1, 4, none⟩ = some (.slice none 0 0) := cell_of_row _ _ _ _ _ _ hWy
  have d5 : W.cell? ⟨w.heap.size + 1, 5, none⟩ = some (.int .i64 0) := cell_of_row _ _ _ _ _ _ hWy
  have d6 : W.cell? ⟨w.heap.size + 1, 6, none⟩ = some (.int .i64 0) := cell_of_row _ _ _ _ _ _ hWy
  have d7 : W.cell? ⟨w.heap.size + 1, 7, none⟩ = some (.int .i64 0) := cell_of_row _ _ _ _ _ _ hWy
  have d8 : W.cell? ⟨w.heap.size + 1, 8, none⟩ = some (.string ⟨#[]⟩) := cell_of_row _ _ _ _ _ _ hWy
  have z0 : W.frozen? ⟨w.heap.size + 1, 0, none⟩ = false := frozen_of_row _ _ _ _ _ hWy
  have z1 : W.frozen? ⟨w.heap.size + 1, 1, none⟩ = false := frozen_of_row _ _ _ _ _ hWy
  have z2 : W.frozen? ⟨w.heap.size + 1, 2, none⟩ = false := frozen_of_row _ _ _ _ _ hWy
  have z3 : W.frozen? ⟨w.heap.size + 1, 3, none⟩ = false := frozen_of_row _ _ _ _ _ hWy
  have z4 : W.frozen? ⟨w.heap.size + 1, 4, none⟩ = false := frozen_of_row _ _ _ _ _ hWy
  have z5 : W.frozen? ⟨w.heap.size + 1, 5, none⟩ = false := frozen_of_row _ _ _ _ _ hWy
  have z6 : W.frozen? ⟨w.heap.size + 1, 6, none⟩ = false := frozen_of_row _ _ _ _ _ hWy
  have z7 : W.frozen? ⟨w.heap.size + 1, 7, none⟩ = false := frozen_of_row _ _ _ _ _ hWy
  have z8 : W.frozen? ⟨w.heap.size + 1, 8, none⟩ = false := frozen_of_row _ _ _ _ _ hWy
  have HW := Lib.hid hW; have HX := Lib.hid hWx; have HY := Lib.hid hWy; have HB := Lib.hid hWb; have HS := Lib.hid hWs; have HN3 := Lib.hid hn3; have HN4 := Lib.hid hn4
  clear hW hWx hWy hWb hWs hn3 hn4
  go_enter Tryd.func34, Tryd.ntmps34
  go_upto_region 1 with fail
  rw [← HW.out]
  clear HW
  go_wp2_with fail
  go_loopw [5] (fun iv wr => ∃ k : Nat, k ≤ M.h ∧ iv = .int .i64 k ∧ Hid (RB wr w.heap.size (M.wipeAll k)) ∧ Hid (wr.heap[w.heap.size + 1]? = some (.cells (zeroRef.vals nilS nilS) 31 (0, 0))) ∧ Hid (Below w.heap.size w wr)) (fun iv _ => M.h - (intOf iv).toNat)
  case atStart => exact ⟨0, Nat.zero_le _, rfl, ⟨_, _, HX.out, by rw [show M.wipeAll 0 = M from rfl, ← HN3.out]; exact H1.out.next HB.out, by rw [show M.wipeAll 0 = M from rfl, ← HN4.out]; exact H2.out.next HB.out⟩, HY.out, HB.out⟩
  case round =>
    clear e0 f0 d0 z0 e1 f1 d1 z1 e2 f2 d2 z2 e3 f3 d3 z3 e4 f4 d4 z4 e5 f5 d5 z5 e6 f6 d6 z6 e7 f7 d7 z7 e8 f8 d8 z8
    obtain ⟨k, hk, rfl, hRB, HYr, HBr⟩ := hrel
    obtain ⟨vr, vk, hxr, hr1, hr2⟩ := hRB.out
    have hNw := wipeAll_w M k
    have hNrw := wipeAll_rows M k HRW.out (by rw [HRH.out]; exact hk)
    obtain ⟨N, hN⟩ : ∃ N : Ref, N = M.wipeAll k := ⟨_, rfl⟩
    have HNN := Lib.hid hN
    rw [← hN] at hxr hr1 hr2 hNw hNrw
    clear hN hRB
    obtain ⟨w1', w2', w3', w4', w5'⟩ := hNw
    have HNw := Lib.hid w1'; have HNr := Lib.hid w5'; have HNrw := Lib.hid hNrw
    obtain ⟨n5, hn5⟩ : ∃ n : Nat, n = N.rows.length := ⟨_, rfl⟩
    obtain ⟨n6, hn6⟩ : ∃ n : Nat, n = N.kept.length := ⟨_, rfl⟩
    rw [← hn5] at hr1
    rw [← hn6] at hr2
    have h31 := hr1.1; have h41 := hr2.1
    obtain ⟨-, A5, c5, rfl, -, -, -, -⟩ := h31
    obtain ⟨-, A6, c6, rfl, -, -, -, -⟩ := h41
    have HL5 := Lib.hid hn5; have HL6 := Lib.hid hn6
    have o0 : wr.cell? ⟨w.heap.size, 0, none⟩ = some (.int .i64 N.w) := cell_of_row _ _ _ _ _ _ hxr
    have o1 : wr.cell? ⟨w.heap.size, 1, none⟩ = some (.int .i64 N.h) := cell_of_row _ _ _ _ _ _ hxr
    have o2 : wr.cell? ⟨w.heap.size, 2, none⟩ = some (.int .i64 N.most) := cell_of_row _ _ _ _ _ _ hxr
    have o3 : wr.cell? ⟨w.heap.size, 3, none⟩ = some (.slice A5 n5 c5) := cell_of_row _ _ _ _ _ _ hxr
    have o4 : wr.cell? ⟨w.heap.size, 4, none⟩ = some (.slice A6 n6 c6) := cell_of_row _ _ _ _ _ _ hxr
    have o5 : wr.cell? ⟨w.heap.size, 5, none⟩ = some (.int .i64 N.x) := cell_of_row _ _ _ _ _ _ hxr
    have o6 : wr.cell? ⟨w.heap.size, 6, none⟩ = some (.int .i64 N.y) := cell_of_row _ _ _ _ _ _ hxr
    have o7 : wr.cell? ⟨w.heap.size, 7, none⟩ = some (.int .i64 N.begun) := cell_of_row _ _ _ _ _ _ hxr
    have o8 : wr.cell? ⟨w.heap.size, 8, none⟩ = some (.string (bs N.args)) := cell_of_row _ _ _ _ _ _ hxr
    have of5 : wr.frozen? ⟨w.heap.size, 5, none⟩ = false := frozen_of_row _ _ _ _ _ hxr
    have of6 : wr.frozen? ⟨w.heap.size, 6, none⟩ = false := frozen_of_row _ _ _ _ _ hxr
    have HXr := Lib.hid hxr; have HR1 := Lib.hid hr1; have HR2 := Lib.hid hr2
    have hNhM : N.h ≤ M.h := Nat.le_of_eq w2'
    have hMNh : M.h ≤ N.h := Nat.le_of_eq w2'.symm
    clear w1' w2' w3' w4' w5' hNrw hn5 hn6 hxr hr1 hr2
    by_cases hlt : k < M.h
    · have hkr : k < M.rows.length := by rw [HRH.out]; exact hlt
      have hlt' : k < N.h := by omega
      have hd : decide ((k : Int) < (N.h : Int)) = true := by simp; omega
      go_wp2_with fail
      have hrwN : (N.rows.getD k []).length = N.w := by
        have hm : N.rows.getD k [] ∈ N.rows := by rw [List.getD_eq_getElem?_getD, List.getElem?_eq_getElem (by rw [HNr.out]; exact hkr)]; exact List.getElem_mem _
        rw [HNrw.out _ hm, HNw.out]
      refine (erase_lit (.agg (N.vals (.slice A5 n5 c5) (.slice A6 n6 c6))) N k _ (by exact ⟨_, _, rfl, by rw [← HL5.out]; exact HR1.out, by rw [← HL6.out]; exact HR2.out⟩) (by rw [HNr.out]; omega) (by rw [HNr.out]; exact hkr) hrwN (by rw [HNw.out]; omega)).mono ?_
      rintro e w5 ⟨v5, rfl, ⟨vr5, vk5, rfl, h15, h25⟩, hb5⟩
      have h35 := h15.1; have h45 := h25.1
      obtain ⟨-, A7, c7, rfl, -, -, -, -⟩ := h35
      obtain ⟨-, A8, c8, rfl, -, -, -, -⟩ := h45
      obtain ⟨K, hK⟩ : ∃ K : Ref, K = N.erase k 2 0 := ⟨_, rfl⟩
      rw [← hK] at h15 h25 ⊢
      have HM2 : Hid (M.wipeAll (k + 1) = K) := by rw [hK, HNN.out]; exact Lib.hid rfl
      have hx5 : w5.heap[w.heap.size]? = some (.cells (N.vals (.slice A5 n5 c5) (.slice A6 n6 c6)) 31 (0, 0)) := (hb5.block _ (block_lt HXr.out)).trans HXr.out
      have hy5 : w5.heap[w.heap.size + 1]? = some (.cells (zeroRef.vals nilS nilS) 31 (0, 0)) := (hb5.block _ (block_lt HYr.out)).trans HYr.out
      have hbw5 : Below w.heap.size w w5 := below_next HBr.out hb5
      have hs5 : w.heap.size + 2 ≤ w5.heap.size := by have := block_lt hy5; omega
      have p0 : w5.cell? ⟨w.heap.size, 0, none⟩ = some (.int .i64 N.w) := cell_of_row _ _ _ _ _ _ hx5
      have p1 : w5.cell? ⟨w.heap.size, 1, none⟩ = some (.int .i64 N.h) := cell_of_row _ _ _ _ _ _ hx5
      have p2 : w5.cell? ⟨w.heap.size, 2, none⟩ = some (.int .i64 N.most) := cell_of_row _ _ _ _ _ _ hx5
      have p3 : w5.cell? ⟨w.heap.size, 3, none⟩ = some (.slice A5 n5 c5) := cell_of_row _ _ _ _ _ _ hx5
      have p4 : w5.cell? ⟨w.heap.size, 4, none⟩ = some (.slice A6 n6 c6) := cell_of_row _ _ _ _ _ _ hx5
      have p5 : w5.cell? ⟨w.heap.size, 5, none⟩ = some (.int .i64 N.x) := cell_of_row _ _ _ _ _ _ hx5
      have p6 : w5.cell? ⟨w.heap.size, 6, none⟩ = some (.int .i64 N.y) := cell_of_row _ _ _ _ _ _ hx5
      have p7 : w5.cell? ⟨w.heap.size, 7, none⟩ = some (.int .i64 N.begun) := cell_of_row _ _ _ _ _ _ hx5
      have p8 : w5.cell? ⟨w.heap.size, 8, none⟩ = some (.string (bs N.args)) := cell_of_row _ _ _ _ _ _ hx5
      have u0 : w5.frozen? ⟨w.heap.size, 0, none⟩ = false := frozen_of_row _ _ _ _ _ hx5
      have u1 : w5.frozen? ⟨w.heap.size, 1, none⟩ = false := frozen_of_row _ _ _ _ _ hx5
      have u2 : w5.frozen? ⟨w.heap.size, 2, none⟩ = false := frozen_of_row _ _ _ _ _ hx5
      have u3 : w5.frozen? ⟨w.heap.size, 3, none⟩ = false := frozen_of_row _ _ _ _ _ hx5
      have u4 : w5.frozen? ⟨w.heap.size, 4, none⟩ = false := frozen_of_row _ _ _ _ _ hx5
      have u5 : w5.frozen? ⟨w.heap.size, 5, none⟩ = false := frozen_of_row _ _ _ _ _ hx5
      have u6 : w5.frozen? ⟨w.heap.size, 6, none⟩ = false := frozen_of_row _ _ _ _ _ hx5
      have u7 : w5.frozen? ⟨w.heap.size, 7, none⟩ = false := frozen_of_row _ _ _ _ _ hx5
      have u8 : w5.frozen? ⟨w.heap.size, 8, none⟩ = false := frozen_of_row _ _ _ _ _ hx5
      have g1 := grown_setCells w5 w.heap.size 0 (K.vals (.slice A7 K.rows.length c7) (.slice A8 K.kept.length c8)).toList
      have hrel1 := ref_over hx5 K (.slice A7 K.rows.length c7) (.slice A8 K.kept.length c8)
      have hrel2 := h15.ne hx5 (by decide) g1
      have hrel3 := h25.ne hx5 (by decide) g1
      have hrel4 := (g1.block (w.heap.size + 1) (by omega) (fun he => by injection he with he; omega)).trans hy5
      have hrel5 := hbw5.grown g1 (by omega) (fun q hq => by injection hq with hq; omega)
      have Q1 := Lib.hid hrel1; have Q2 := Lib.hid hrel2; have Q3 := Lib.hid hrel3; have Q4 := Lib.hid hrel4; have Q5 := Lib.hid hrel5
      rw [Ref.vals_eq K]
      clear hx5 hy5 hbw5 h15 h25 hb5 hK hrwN g1 hrel1 hrel2 hrel3 hrel4 hrel5
      go_wp2_with fail
      go_roundw
      case rel =>
        refine ⟨k + 1, by omega, by go_num, ?_, Q4.out, Q5.out⟩
        rw [HM2.out]
        exact ⟨_, _, Q1.out, Q2.out, Q3.out⟩
      case measure => simp [intOf]; omega
    · obtain rfl : k = M.h := by omega
      have hd : decide (((M.h : Nat) : Int) < (N.h : Int)) = false := by simp; omega
      have hdz : ¬ M.h < N.h := by omega
      have hs5 : w.heap.size + 2 ≤ wr.heap.size := by have := block_lt HYr.out; omega
      have dd0 : wr.cell? ⟨w.heap.size + 1, 0, none⟩ = some (.int .i64 0) := cell_of_row _ _ _ _ _ _ HYr.out
      have dd1 : wr.cell? ⟨w.heap.size + 1, 1, none⟩ = some (.int .i64 0) := cell_of_row _ _ _ _ _ _ HYr.out
      have dd2 : wr.cell? ⟨w.heap.size + 1, 2, none⟩ = some (.int .i64 0) := cell_of_row _ _ _ _ _ _ HYr.out
      have dd3 : wr.cell? ⟨w.heap.size + 1, 3, none⟩ = some (.slice none 0 0) := cell_of_row _ _ _ _ _ _ HYr.out
      have dd4 : wr.cell? ⟨w.heap.size + 1, 4, none⟩ = some (.slice none 0 0) := cell_of_row _ _ _ _ _ _ HYr.out
      have dd5 : wr.cell? ⟨w.heap.size + 1, 5, none⟩ = some (.int .i64 0) := cell_of_row _ _ _ _ _ _ HYr.out
      have dd6 : wr.cell? ⟨w.heap.size + 1, 6, none⟩ = some (.int .i64 0) := cell_of_row _ _ _ _ _ _ HYr.out
      have dd7 : wr.cell? ⟨w.heap.size + 1, 7, none⟩ = some (.int .i64 0) := cell_of_row _ _ _ _ _ _ HYr.out
      have dd8 : wr.cell? ⟨w.heap.size + 1, 8, none⟩ = some (.string ⟨#[]⟩) := cell_of_row _ _ _ _ _ _ HYr.out
      have zz0 : wr.frozen? ⟨w.heap.size + 1, 0, none⟩ = false := frozen_of_row _ _ _ _ _ HYr.out
      have zz1 : wr.frozen? ⟨w.heap.size + 1, 1, none⟩ = false := frozen_of_row _ _ _ _ _ HYr.out
      have zz2 : wr.frozen? ⟨w.heap.size + 1, 2, none⟩ = false := frozen_of_row _ _ _ _ _ HYr.out
      have zz3 : wr.frozen? ⟨w.heap.size + 1, 3, none⟩ = false := frozen_of_row _ _ _ _ _ HYr.out
      have zz4 : wr.frozen? ⟨w.heap.size + 1, 4, none⟩ = false := frozen_of_row _ _ _ _ _ HYr.out
      have zz5 : wr.frozen? ⟨w.heap.size + 1, 5, none⟩ = false := frozen_of_row _ _ _ _ _ HYr.out
      have zz6 : wr.frozen? ⟨w.heap.size + 1, 6, none⟩ = false := frozen_of_row _ _ _ _ _ HYr.out
      have zz7 : wr.frozen? ⟨w.heap.size + 1, 7, none⟩ = false := frozen_of_row _ _ _ _ _ HYr.out
      have zz8 : wr.frozen? ⟨w.heap.size + 1, 8, none⟩ = false := frozen_of_row _ _ _ _ _ HYr.out
      go_wp2_with fail
      rw [show P = { N with x := 0, y := 0 } from by rw [HP.out, HNN.out]]
      refine bodyPost_ret (v := .agg (Ref.vals { N with x := 0, y := 0 } (.slice A5 n5 c5) (.slice A6 n6 c6))) (by simp [results, Tryd.results34, go_sem, Ref.vals, dd0, dd1, dd2, dd3, dd4, dd5, dd6, dd7, dd8]) rfl ⟨_, rfl, ⟨_, _, rfl, ?_, ?_⟩, ?_⟩
      · show RdT _ _ _ N.rows.length (N.rows.map strV)
        rw [← HL5.out]
        exact HR1.out.two HXr.out HYr.out (by decide) (by repeat (first | with_reducible exact Two.refl _ _ | with_reducible refine Two.setA ?_ _ _ | with_reducible refine Two.setC ?_ _ _))
      · show RdT _ _ _ N.kept.length (N.kept.map strV)
        rw [← HL6.out]
        exact HR2.out.two HXr.out HYr.out (by decide) (by repeat (first | with_reducible exact Two.refl _ _ | with_reducible refine Two.setA ?_ _ _ | with_reducible refine Two.setC ?_ _ _))
      · exact (by repeat (first | with_reducible exact HBr.out | with_reducible refine below_setG ?_ _ (by omega) _ _))
end Go.Proofs.YtiefpodmdpnppaaDoor
