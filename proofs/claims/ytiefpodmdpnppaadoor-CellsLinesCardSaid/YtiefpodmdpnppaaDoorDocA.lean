/-
  WALKS of layer 56's document: Byte, where another one is called.
-/
import Derived.Test.YtiefpodmdpnppaaDoorCelZ
namespace Go.Proofs.YtiefpodmdpnppaaDoor
open Go.RowKit


def Ref.told (M : Ref) (c : Nat) : Ref := { ({ M with begun := 0 } : Ref).command c with args := [] }
set_option maxRecDepth 100000 in
set_option maxHeartbeats 1600000 in
theorem rbyte_cmd (v : Value) (M : Ref)(c : Nat) (w : World) (h : RV w v M) (ok : M.Ok)(hb1 : M.begun = 2) (hc2 : 64 ≤ c ∧ c ≤ 126) (ha : M.args.length ≤ 100000) :
    Calls Tryd.prog 34 #[v, .int .u8 c] w (RVPost w (M.told c)) := by
  have tb1 : ((M.begun : Int) == 1) = false := by rw [hb1]; rfl
  have tb2 : ((M.begun : Int) == 2) = true := by rw [hb1]; rfl
  have t59 : ((c : Int) == 59) = false := by simp; omega
  have ok0 : ({ M with begun := 0 } : Ref).Ok := { ok with b := (by show 0 ≤ 2; omega) }
  have HO := Lib.hid ok0
  clear hb1 ok0
  obtain ⟨vr, vk, rfl, h1, h2⟩ := h
  have H1 := Lib.hid h1; have H2 := Lib.hid h2
  obtain ⟨-, A4, c4, rfl, -, -, -, -⟩ := h2.1
  obtain ⟨-, A3, c3, rfl, -, -, -, -⟩ := h1.1
  clear h1 h2
  have hw1 := ok.w1; have hw2 := ok.w2; have hh1 := ok.h1; have hh2 := ok.h2; have hx := ok.x; have hy := ok.y
  have hw0 : ((M.w : Int) == 0) = false := by simp; omega
  obtain ⟨n3, hn3⟩ : ∃ n : Nat, n = M.rows.length := ⟨_, rfl⟩
  obtain ⟨n4, hn4⟩ : ∃ n : Nat, n = M.kept.length := ⟨_, rfl⟩
  rw [← hn3] at H1 ⊢
  rw [← hn4] at H2 ⊢
  obtain ⟨W, hW⟩ : ∃ W, W = (w.alloc (.cells (M.vals (.slice A3 n3 c3) (.slice A4 n4 c4)) 31)).alloc (.cells #[.int .i64 0, .int .i64 0, .int .i64 0, .slice none 0 0, .slice none 0 0, .int .i64 0, .int .i64 0, .int .i64 0, .string ⟨#[]⟩] 31) := ⟨_, rfl⟩
  have hWx : W.heap[w.heap.size]? = some (.cells (M.vals (.slice A3 n3 c3) (.slice A4 n4 c4)) 31 (0, 0)) := by rw [hW]; exact alloc2_fst _ _ _
  have hWy : W.heap[w.heap.size + 1]? = some (.cells (zeroRef.vals nilS nilS) 31 (0, 0)) := by rw [hW]; exact alloc2_snd _ _ _
  have hWb : Below w.heap.size w W := by rw [hW]; exact below_alloc2 _ _ _
  have hWs : W.heap.size = w.heap.size + 2 := by rw [hW]; simp
  have e0 : W.cell? ⟨w.heap.size, 0, none⟩ = some (.int .i64 M.w) := cell_of_row _ _ _ _ _ _ hWx
  have e1 : W.cell? ⟨w.heap.size, 1, none⟩ = some (.int .i64 M.h) := cell_of_row _ _ _ _ _ _ hWx
  have e2 : W.cell? ⟨w.heap.size, 2, none⟩ = some (.int .i64 M.most) := cell_of_row _ _ _ _ _ _ hWx
  have e3 : W.cell? ⟨w.heap.size, 3, none⟩ = some (.slice A3 n3 c3) := cell_of_row _ _ _ _ _ _ hWx
  have e4 : W.cell? ⟨w.heap.size, 4, none⟩ = some (.slice A4 n4 c4) := cell_of_row _ _ _ _ _ _ hWx
  have e5 : W.cell? ⟨w.heap.size, 5, none⟩ = some (.int .i64 M.x) := cell_of_row _ _ _ _ _ _ hWx
  have e6 : W.cell? ⟨w.heap.size, 6, none⟩ = some (.int .i64 M.y) := cell_of_row _ _ _ _ _ _ hWx
  have e7 : W.cell? ⟨w.heap.size, 7, none⟩ = some (.int .i64 M.begun) := cell_of_row _ _ _ _ _ _ hWx
  have e8 : W.cell? ⟨w.heap.size, 8, none⟩ = some (.string (bs M.args)) := cell_of_row _ _ _ _ _ _ hWx
  have f0 : W.frozen? ⟨w.heap.size, 0, none⟩ = false := frozen_of_row _ _ _ _ _ hWx
  have f1 : W.frozen? ⟨w.heap.size, 1, none⟩ = false := frozen_of_row _ _ _ _ _ hWx
  have f2 : W.frozen? ⟨w.heap.size, 2, none⟩ = false := frozen_of_row _ _ _ _ _ hWx
  have f3 : W.frozen? ⟨w.heap.size, 3, none⟩ = false := frozen_of_row _ _ _ _ _ hWx
  have f4 : W.frozen? ⟨w.heap.size, 4, none⟩ = false := frozen_of_row _ _ _ _ _ hWx
  have f5 : W.frozen? ⟨w.heap.size, 5, none⟩ = false := frozen_of_row _ _ _ _ _ hWx
  have f6 : W.frozen? ⟨w.heap.size, 6, none⟩ = false := frozen_of_row _ _ _ _ _ hWx
  have f7 : W.frozen? ⟨w.heap.size, 7, none⟩ = false := frozen_of_row _ _ _ _ _ hWx
  have f8 : W.frozen? ⟨w.heap.size, 8, none⟩ = false := frozen_of_row _ _ _ _ _ hWx
  have d0 : W.cell? ⟨w.heap.size + 1, 0, none⟩ = some (.int .i64 0) := cell_of_row _ _ _ _ _ _ hWy
  have d1 : W.cell? ⟨w.heap.size + 1, 1, none⟩ = some (.int .i64 0) := cell_of_row _ _ _ _ _ _ hWy
  have d2 : W.cell? ⟨w.heap.size + 1, 2, none⟩ = some (.int .i64 0) := cell_of_row _ _ _ _ _ _ hWy
  have d3 : W.cell? ⟨w.heap.size + 1, 3, none⟩ = some (.slice none 0 0) := cell_of_row _ _ _ _ _ _ hWy
  have d4 : W.cell? ⟨w.heap.size + 1, 4, none⟩ = some (.slice none 0 0) := cell_of_row _ _ _ _ _ _ hWy
  have d5 : W.cell? ⟨w.heap.size + 1, 5, none⟩ = some (.int .i64 0) := cell_of_row _ _ _ _ _ _ hWy
  have d6 : W.cell? ⟨w.heap.size + 1, 6, none⟩ = some (.int .i64 0) := cell_of_row _ _ _ _ _ _ hWy
  have d7 : W.cell? ⟨w.heap.size + 1, 7, none⟩ = some (.int .i64 0) := cell_of_row _ _ _ _ _ _ hWy
  have d8 : W.cell? ⟨w.heap.size + 1, 8, none⟩ = some (.string ⟨#[]⟩) := cell_of_row _ _ _ _ _ _ hWy
  have z0 : W.frozen? ⟨w.heap.size + 1, 0, none⟩ = false := frozen_of_row _ _ _ _ _ hWy
  have z1 : W.frozen? ⟨w.heap.size + 1, 1, none⟩ = false := frozen_of_row _ _ _ _ _ hWy
  have z2 : W.frozen? ⟨w.heap.size + 1, 2, none⟩ = false := frozen_of_row _ _ _ _ _ hWy
  have z3 : W.frozen? ⟨w.heap.size + 1, 3, none⟩ = false := frozen_of_row _ _ _ _ _ hWy
  have z4 : W.frozen? ⟨w.heap.size + 1, 4, none⟩ = false := frozen_of_row _ _ _ _ _ hWy
  have z5 : W.frozen? ⟨w.heap.size + 1, 5, none⟩ = false := frozen_of_row _ _ _ _ _ hWy
  have z6 : W.frozen? ⟨w.heap.size + 1, 6, none⟩ = false := frozen_of_row _ _ _ _ _ hWy
  have z7 : W.frozen? ⟨w.heap.size + 1, 7, none⟩ = false := frozen_of_row _ _ _ _ _ hWy
  have z8 : W.frozen? ⟨w.heap.size + 1, 8, none⟩ = false := frozen_of_row _ _ _ _ _ hWy
  have HW := Lib.hid hW; have HX := Lib.hid hWx; have HY := Lib.hid hWy; have HB := Lib.hid hWb; have HS := Lib.hid hWs; have HN3 := Lib.hid hn3; have HN4 := Lib.hid hn4
  clear hW hWx hWy hWb hWs hn3 hn4
  go_enter Tryd.func34, Tryd.ntmps34
  go_upto_region 1 with fail
  rw [← HW.out]
  clear HW
  have hd1 : 48 ≤ c := by omega
  have hd2 : ¬ c ≤ 57 := by omega
  obtain ⟨hd3, hd4⟩ := hc2
  go_wp2_with fail
  have HXr : Hid ((W.setCell ⟨w.heap.size, 7, none⟩ (.int .i64 0)).heap[w.heap.size]? = some (.cells (Ref.vals { M with begun := 0 } (.slice A3 n3 c3) (.slice A4 n4 c4)) 31 (0, 0))) := heap_setCell_same W _ 7 _ _ _ HX.out
  have HYr : Hid ((W.setCell ⟨w.heap.size, 7, none⟩ (.int .i64 0)).heap[w.heap.size + 1]? = some (.cells (zeroRef.vals nilS nilS) 31 (0, 0))) := (Below.heap_setCell _ _ _ _ (by show w.heap.size + 1 ≠ w.heap.size; omega)).trans HY.out
  have HBr : Hid (Below w.heap.size w (W.setCell ⟨w.heap.size, 7, none⟩ (.int .i64 0))) := HB.out.setCell (p := ⟨w.heap.size, 7, none⟩) (Nat.le_refl _) _
  refine (command_walk (.agg (Ref.vals { M with begun := 0 } (.slice A3 n3 c3) (.slice A4 n4 c4))) { M with begun := 0 } c _ (by exact ⟨_, _, rfl, by show RdT _ _ _ M.rows.length _; rw [← HN3.out]; exact H1.out.next HBr.out, by show RdT _ _ _ M.kept.length _; rw [← HN4.out]; exact H2.out.next HBr.out⟩) HO.out ha).mono ?_
  obtain ⟨M0, hM0⟩ : ∃ M0 : Ref, M0 = { M with begun := 0 } := ⟨_, rfl⟩
  rw [← hM0] at HXr
  rintro e w5 ⟨v5, rfl, ⟨vr5, vk5, rfl, h15, h25⟩, hb5⟩
  skip
  have h35 := h15.1; have h45 := h25.1
  obtain ⟨-, A7, c7, rfl, -, -, -, -⟩ := h35
  obtain ⟨-, A8, c8, rfl, -, -, -, -⟩ := h45
  obtain ⟨K, hK⟩ : ∃ K : Ref, K = (Ref.command { M with begun := 0 } c) := ⟨_, rfl⟩
  rw [← hK] at h15 h25
  have hv : Ref.vals (Ref.command { M with begun := 0 } c) (.slice A7 (Ref.rows (Ref.command { M with begun := 0 } c)).length c7) (.slice A8 (Ref.kept (Ref.command { M with begun := 0 } c)).length c8) = #[.int .i64 K.w, .int .i64 K.h, .int .i64 K.most, .slice A7 K.rows.length c7, .slice A8 K.kept.length c8, .int .i64 K.x, .int .i64 K.y, .int .i64 K.begun, .string (bs K.args)] := by rw [← hK]; rfl
  rw [hv]
  clear hv
  have HKK := Lib.hid hK
  have hx5 : w5.heap[w.heap.size]? = some (.cells (Ref.vals M0 (.slice A3 n3 c3) (.slice A4 n4 c4)) 31 (0, 0)) := (hb5.block _ (block_lt HXr.out)).trans HXr.out
  have hy5 : w5.heap[w.heap.size + 1]? = some (.cells (zeroRef.vals nilS nilS) 31 (0, 0)) := (hb5.block _ (block_lt HYr.out)).trans HYr.out
  have hbw5 : Below w.heap.size w w5 := below_next HBr.out hb5
  have hs5 : w.heap.size + 2 ≤ w5.heap.size := by have := block_lt hy5; omega
  have p0 : w5.cell? ⟨w.heap.size, 0, none⟩ = some (.int .i64 (M0).w) := cell_of_row _ _ _ _ _ _ hx5
  have p1 : w5.cell? ⟨w.heap.size, 1, none⟩ = some (.int .i64 (M0).h) := cell_of_row _ _ _ _ _ _ hx5
  have p2 : w5.cell? ⟨w.heap.size, 2, none⟩ = some (.int .i64 (M0).most) := cell_of_row _ _ _ _ _ _ hx5
  have p3 : w5.cell? ⟨w.heap.size, 3, none⟩ = some (.slice A3 n3 c3) := cell_of_row _ _ _ _ _ _ hx5
  have p4 : w5.cell? ⟨w.heap.size, 4, none⟩ = some (.slice A4 n4 c4) := cell_of_row _ _ _ _ _ _ hx5
  have p5 : w5.cell? ⟨w.heap.size, 5, none⟩ = some (.int .i64 (M0).x) := cell_of_row _ _ _ _ _ _ hx5
  have p6 : w5.cell? ⟨w.heap.size, 6, none⟩ = some (.int .i64 (M0).y) := cell_of_row _ _ _ _ _ _ hx5
  have p7 : w5.cell? ⟨w.heap.size, 7, none⟩ = some (.int .i64 (M0).begun) := cell_of_row _ _ _ _ _ _ hx5
  have p8 : w5.cell? ⟨w.heap.size, 8, none⟩ = some (.string (bs (M0).args)) := cell_of_row _ _ _ _ _ _ hx5
  have u0 : w5.frozen? ⟨w.heap.size, 0, none⟩ = false := frozen_of_row _ _ _ _ _ hx5
  have u1 : w5.frozen? ⟨w.heap.size, 1, none⟩ = false := frozen_of_row _ _ _ _ _ hx5
  have u2 : w5.frozen? ⟨w.heap.size, 2, none⟩ = false := frozen_of_row _ _ _ _ _ hx5
  have u3 : w5.frozen? ⟨w.heap.size, 3, none⟩ = false := frozen_of_row _ _ _ _ _ hx5
  have u4 : w5.frozen? ⟨w.heap.size, 4, none⟩ = false := frozen_of_row _ _ _ _ _ hx5
  have u5 : w5.frozen? ⟨w.heap.size, 5, none⟩ = false := frozen_of_row _ _ _ _ _ hx5
  have u6 : w5.frozen? ⟨w.heap.size, 6, none⟩ = false := frozen_of_row _ _ _ _ _ hx5
  have u7 : w5.frozen? ⟨w.heap.size, 7, none⟩ = false := frozen_of_row _ _ _ _ _ hx5
  have u8 : w5.frozen? ⟨w.heap.size, 8, none⟩ = false := frozen_of_row _ _ _ _ _ hx5
  have dd0 : w5.cell? ⟨w.heap.size + 1, 0, none⟩ = some (.int .i64 0) := cell_of_row _ _ _ _ _ _ hy5
  have dd1 : w5.cell? ⟨w.heap.size + 1, 1, none⟩ = some (.int .i64 0) := cell_of_row _ _ _ _ _ _ hy5
  have dd2 : w5.cell? ⟨w.heap.size + 1, 2, none⟩ = some (.int .i64 0) := cell_of_row _ _ _ _ _ _ hy5
  have dd3 : w5.cell? ⟨w.heap.size + 1, 3, none⟩ = some (.slice none 0 0) := cell_of_row _ _ _ _ _ _ hy5
  have dd4 : w5.cell? ⟨w.heap.size + 1, 4, none⟩ = some (.slice none 0 0) := cell_of_row _ _ _ _ _ _ hy5
  have dd5 : w5.cell? ⟨w.heap.size + 1, 5, none⟩ = some (.int .i64 0) := cell_of_row _ _ _ _ _ _ hy5
  have dd6 : w5.cell? ⟨w.heap.size + 1, 6, none⟩ = some (.int .i64 0) := cell_of_row _ _ _ _ _ _ hy5
  have dd7 : w5.cell? ⟨w.heap.size + 1, 7, none⟩ = some (.int .i64 0) := cell_of_row _ _ _ _ _ _ hy5
  have dd8 : w5.cell? ⟨w.heap.size + 1, 8, none⟩ = some (.string ⟨#[]⟩) := cell_of_row _ _ _ _ _ _ hy5
  have zz0 : w5.frozen? ⟨w.heap.size + 1, 0, none⟩ = false := frozen_of_row _ _ _ _ _ hy5
  have zz1 : w5.frozen? ⟨w.heap.size + 1, 1, none⟩ = false := frozen_of_row _ _ _ _ _ hy5
  have zz2 : w5.frozen? ⟨w.heap.size + 1, 2, none⟩ = false := frozen_of_row _ _ _ _ _ hy5
  have zz3 : w5.frozen? ⟨w.heap.size + 1, 3, none⟩ = false := frozen_of_row _ _ _ _ _ hy5
  have zz4 : w5.frozen? ⟨w.heap.size + 1, 4, none⟩ = false := frozen_of_row _ _ _ _ _ hy5
  have zz5 : w5.frozen? ⟨w.heap.size + 1, 5, none⟩ = false := frozen_of_row _ _ _ _ _ hy5
  have zz6 : w5.frozen? ⟨w.heap.size + 1, 6, none⟩ = false := frozen_of_row _ _ _ _ _ hy5
  have zz7 : w5.frozen? ⟨w.heap.size + 1, 7, none⟩ = false := frozen_of_row _ _ _ _ _ hy5
  have zz8 : w5.frozen? ⟨w.heap.size + 1, 8, none⟩ = false := frozen_of_row _ _ _ _ _ hy5
  have HX5 := Lib.hid hx5; have HY5 := Lib.hid hy5; have HB5 := Lib.hid hbw5; have HR15 := Lib.hid h15; have HR25 := Lib.hid h25
  clear hx5 hy5 hbw5 h15 h25 hb5 hK e0 f0 d0 z0 e1 f1 d1 z1 e2 f2 d2 z2 e3 f3 d3 z3 e4 f4 d4 z4 e5 f5 d5 z5 e6 f6 d6 z6 e7 f7 d7 z7 e8 f8 d8 z8
  have HM0 := Lib.hid hM0
  clear hM0
  go_upto_region 15 with fail
  change Code.wp _ _ _ _ (w5.setCells w.heap.size 0 (K.vals (.slice A7 K.rows.length c7) (.slice A8 K.kept.length c8)).toList)
  obtain ⟨w6, hw6⟩ : ∃ w6, w6 = w5.setCells w.heap.size 0 (K.vals (.slice A7 K.rows.length c7) (.slice A8 K.kept.length c8)).toList := ⟨_, rfl⟩
  rw [← hw6]
  have hx6 : w6.heap[w.heap.size]? = some (.cells (K.vals (.slice A7 K.rows.length c7) (.slice A8 K.kept.length c8)) 31 (0, 0)) := by rw [hw6]; exact ref_over HX5.out _ _ _
  have hy6 : w6.heap[w.heap.size + 1]? = some (.cells (zeroRef.vals nilS nilS) 31 (0, 0)) := by rw [hw6]; exact ((grown_setCells w5 w.heap.size 0 _).block _ (by omega) (fun he => by injection he with he; omega)).trans HY5.out
  have hbw6 : Below w.heap.size w w6 := by rw [hw6]; exact below_cells HB5.out _ _ _ (Nat.le_refl _) (by omega)
  have hr16 : RdT w6 9 (.slice A7 K.rows.length c7) K.rows.length (K.rows.map strV) := by rw [hw6]; exact HR15.out.ne HX5.out (by decide) (grown_setCells w5 w.heap.size 0 _)
  have hr26 : RdT w6 9 (.slice A8 K.kept.length c8) K.kept.length (K.kept.map strV) := by rw [hw6]; exact HR25.out.ne HX5.out (by decide) (grown_setCells w5 w.heap.size 0 _)
  clear hw6 HX5 HY5 HB5 HR15 HR25 hs5 p0 u0 dd0 zz0 p1 u1 dd1 zz1 p2 u2 dd2 zz2 p3 u3 dd3 zz3 p4 u4 dd4 zz4 p5 u5 dd5 zz5 p6 u6 dd6 zz6 p7 u7 dd7 zz7 p8 u8 dd8 zz8
  have hs5 : w.heap.size + 2 ≤ w6.heap.size := by have := block_lt hy6; omega
  have p0 : w6.cell? ⟨w.heap.size, 0, none⟩ = some (.int .i64 K.w) := cell_of_row _ _ _ _ _ _ hx6
  have p1 : w6.cell? ⟨w.heap.size, 1, none⟩ = some (.int .i64 K.h) := cell_of_row _ _ _ _ _ _ hx6
  have p2 : w6.cell? ⟨w.heap.size, 2, none⟩ = some (.int .i64 K.most) := cell_of_row _ _ _ _ _ _ hx6
  have p3 : w6.cell? ⟨w.heap.size, 3, none⟩ = some (.slice A7 K.rows.length c7) := cell_of_row _ _ _ _ _ _ hx6
  have p4 : w6.cell? ⟨w.heap.size, 4, none⟩ = some (.slice A8 K.kept.length c8) := cell_of_row _ _ _ _ _ _ hx6
  have p5 : w6.cell? ⟨w.heap.size, 5, none⟩ = some (.int .i64 K.x) := cell_of_row _ _ _ _ _ _ hx6
  have p6 : w6.cell? ⟨w.heap.size, 6, none⟩ = some (.int .i64 K.y) := cell_of_row _ _ _ _ _ _ hx6
  have p7 : w6.cell? ⟨w.heap.size, 7, none⟩ = some (.int .i64 K.begun) := cell_of_row _ _ _ _ _ _ hx6
  have p8 : w6.cell? ⟨w.heap.size, 8, none⟩ = some (.string (bs K.args)) := cell_of_row _ _ _ _ _ _ hx6
  have u0 : w6.frozen? ⟨w.heap.size, 0, none⟩ = false := frozen_of_row _ _ _ _ _ hx6
  have u1 : w6.frozen? ⟨w.heap.size, 1, none⟩ = false := frozen_of_row _ _ _ _ _ hx6
  have u2 : w6.frozen? ⟨w.heap.size, 2, none⟩ = false := frozen_of_row _ _ _ _ _ hx6
  have u3 : w6.frozen? ⟨w.heap.size, 3, none⟩ = false := frozen_of_row _ _ _ _ _ hx6
  have u4 : w6.frozen? ⟨w.heap.size, 4, none⟩ = false := frozen_of_row _ _ _ _ _ hx6
  have u5 : w6.frozen? ⟨w.heap.size, 5, none⟩ = false := frozen_of_row _ _ _ _ _ hx6
  have u6 : w6.frozen? ⟨w.heap.size, 6, none⟩ = false := frozen_of_row _ _ _ _ _ hx6
  have u7 : w6.frozen? ⟨w.heap.size, 7, none⟩ = false := frozen_of_row _ _ _ _ _ hx6
  have u8 : w6.frozen? ⟨w.heap.size, 8, none⟩ = false := frozen_of_row _ _ _ _ _ hx6
  have dd0 : w6.cell? ⟨w.heap.size + 1, 0, none⟩ = some (.int .i64 0) := cell_of_row _ _ _ _ _ _ hy6
  have dd1 : w6.cell? ⟨w.heap.size + 1, 1, none⟩ = some (.int .i64 0) := cell_of_row _ _ _ _ _ _ hy6
  have dd2 : w6.cell? ⟨w.heap.size + 1, 2, none⟩ = some (.int .i64 0) := cell_of_row _ _ _ _ _ _ hy6
  have dd3 : w6.cell? ⟨w.heap.size + 1, 3, none⟩ = some (.slice none 0 0) := cell_of_row _ _ _ _ _ _ hy6
  have dd4 : w6.cell? ⟨w.heap.size + 1, 4, none⟩ = some (.slice none 0 0) := cell_of_row _ _ _ _ _ _ hy6
  have dd5 : w6.cell? ⟨w.heap.size + 1, 5, none⟩ = some (.int .i64 0) := cell_of_row _ _ _ _ _ _ hy6
  have dd6 : w6.cell? ⟨w.heap.size + 1, 6, none⟩ = some (.int .i64 0) := cell_of_row _ _ _ _ _ _ hy6
  have dd7 : w6.cell? ⟨w.heap.size + 1, 7, none⟩ = some (.int .i64 0) := cell_of_row _ _ _ _ _ _ hy6
  have dd8 : w6.cell? ⟨w.heap.size + 1, 8, none⟩ = some (.string ⟨#[]⟩) := cell_of_row _ _ _ _ _ _ hy6
  have zz0 : w6.frozen? ⟨w.heap.size + 1, 0, none⟩ = false := frozen_of_row _ _ _ _ _ hy6
  have zz1 : w6.frozen? ⟨w.heap.size + 1, 1, none⟩ = false := frozen_of_row _ _ _ _ _ hy6
  have zz2 : w6.frozen? ⟨w.heap.size + 1, 2, none⟩ = false := frozen_of_row _ _ _ _ _ hy6
  have zz3 : w6.frozen? ⟨w.heap.size + 1, 3, none⟩ = false := frozen_of_row _ _ _ _ _ hy6
  have zz4 : w6.frozen? ⟨w.heap.size + 1, 4, none⟩ = false := frozen_of_row _ _ _ _ _ hy6
  have zz5 : w6.frozen? ⟨w.heap.size + 1, 5, none⟩ = false := frozen_of_row _ _ _ _ _ hy6
  have zz6 : w6.frozen? ⟨w.heap.size + 1, 6, none⟩ = false := frozen_of_row _ _ _ _ _ hy6
  have zz7 : w6.frozen? ⟨w.heap.size + 1, 7, none⟩ = false := frozen_of_row _ _ _ _ _ hy6
  have zz8 : w6.frozen? ⟨w.heap.size + 1, 8, none⟩ = false := frozen_of_row _ _ _ _ _ hy6
  have HX5 := Lib.hid hx6; have HY5 := Lib.hid hy6; have HB5 := Lib.hid hbw6; have HR15 := Lib.hid hr16; have HR25 := Lib.hid hr26
  clear hx6 hy6 hbw6 hr16 hr26
  go_wp2_with fail
  rw [show M.told c = { K with args := [] } from by rw [HKK.out]; rfl]
  refine bodyPost_ret (v := .agg (Ref.vals ({ K with args := [] }) (.slice A7 K.rows.length c7) (.slice A8 K.kept.length c8))) (by simp [results, Tryd.results34, go_sem, Ref.vals, dd0, dd1, dd2, dd3, dd4, dd5, dd6, dd7, dd8, bs_nil]) rfl ⟨_, rfl, ⟨_, _, rfl, ?_, ?_⟩, ?_⟩
  · exact HR15.out.two HX5.out HY5.out (by decide) (by repeat (first | with_reducible exact Two.refl _ _ | with_reducible refine Two.setA ?_ _ _ | with_reducible refine Two.setC ?_ _ _))
  · exact HR25.out.two HX5.out HY5.out (by decide) (by repeat (first | with_reducible exact Two.refl _ _ | with_reducible refine Two.setA ?_ _ _ | with_reducible refine Two.setC ?_ _ _))
  · exact (by repeat (first | with_reducible exact HB5.out | with_reducible refine below_setG ?_ _ (by omega) _ _))

set_option maxRecDepth 100000 in
set_option maxHeartbeats 1600000 in
theorem rbyte_10 (v : Value) (M : Ref) (w : World) (h : RV w v M) (ok : M.Ok)(hb1 : ¬ M.begun = 1) (hb2 : ¬ M.begun = 2) :
    Calls Tryd.prog 34 #[v, .int .u8 10] w (RVPost w (M.down)) := by
  have tb1 : ((M.begun : Int) == 1) = false := by simp; omega
  have tb2 : ((M.begun : Int) == 2) = false := by simp; omega
  clear hb1 hb2
  have HO := Lib.hid ok
  obtain ⟨vr, vk, rfl, h1, h2⟩ := h
  have H1 := Lib.hid h1; have H2 := Lib.hid h2
  obtain ⟨-, A4, c4, rfl, -, -, -, -⟩ := h2.1
  obtain ⟨-, A3, c3, rfl, -, -, -, -⟩ := h1.1
  clear h1 h2
  have hw1 := ok.w1; have hw2 := ok.w2; have hh1 := ok.h1; have hh2 := ok.h2; have hx := ok.x; have hy := ok.y
  have hw0 : ((M.w : Int) == 0) = false := by simp; omega
  obtain ⟨n3, hn3⟩ : ∃ n : Nat, n = M.rows.length := ⟨_, rfl⟩
  obtain ⟨n4, hn4⟩ : ∃ n : Nat, n = M.kept.length := ⟨_, rfl⟩
  rw [← hn3] at H1 ⊢
  rw [← hn4] at H2 ⊢
  obtain ⟨W, hW⟩ : ∃ W, W = (w.alloc (.cells (M.vals (.slice A3 n3 c3) (.slice A4 n4 c4)) 31)).alloc (.cells #[.int .i64 0, .int .i64 0, .int .i64 0, .slice none 0 0, .slice none 0 0, .int .i64 0, .int .i64 0, .int .i64 0, .string ⟨#[]⟩] 31) := ⟨_, rfl⟩
  have hWx : W.heap[w.heap.size]? = some (.cells (M.vals (.slice A3 n3 c3) (.slice A4 n4 c4)) 31 (0, 0)) := by rw [hW]; exact alloc2_fst _ _ _
  have hWy : W.heap[w.heap.size + 1]? = some (.cells (zeroRef.vals nilS nilS) 31 (0, 0)) := by rw [hW]; exact alloc2_snd _ _ _
  have hWb : Below w.heap.size w W := by rw [hW]; exact below_alloc2 _ _ _
  have hWs : W.heap.size = w.heap.size + 2 := by rw [hW]; simp
  have e0 : W.cell? ⟨w.heap.size, 0, none⟩ = some (.int .i64 M.w) := cell_of_row _ _ _ _ _ _ hWx
  have e1 : W.cell? ⟨w.heap.size, 1, none⟩ = some (.int .i64 M.h) := cell_of_row _ _ _ _ _ _ hWx
  have e2 : W.cell? ⟨w.heap.size, 2, none⟩ = some (.int .i64 M.most) := cell_of_row _ _ _ _ _ _ hWx
  have e3 : W.cell? ⟨w.heap.size, 3, none⟩ = some (.slice A3 n3 c3) := cell_of_row _ _ _ _ _ _ hWx
  have e4 : W.cell? ⟨w.heap.size, 4, none⟩ = some (.slice A4 n4 c4) := cell_of_row _ _ _ _ _ _ hWx
  have e5 : W.cell? ⟨w.heap.size, 5, none⟩ = some (.int .i64 M.x) := cell_of_row _ _ _ _ _ _ hWx
  have e6 : W.cell? ⟨w.heap.size, 6, none⟩ = some (.int .i64 M.y) := cell_of_row _ _ _ _ _ _ hWx
  have e7 : W.cell? ⟨w.heap.size, 7, none⟩ = some (.int .i64 M.begun) := cell_of_row _ _ _ _ _ _ hWx
  have e8 : W.cell? ⟨w.heap.size, 8, none⟩ = some (.string (bs M.args)) := cell_of_row _ _ _ _ _ _ hWx
  have f0 : W.frozen? ⟨w.heap.size, 0, none⟩ = false := frozen_of_row _ _ _ _ _ hWx
  have f1 : W.frozen? ⟨w.heap.size, 1, none⟩ = false := frozen_of_row _ _ _ _ _ hWx
  have f2 : W.frozen? ⟨w.heap.size, 2, none⟩ = false := frozen_of_row _ _ _ _ _ hWx
  have f3 : W.frozen? ⟨w.heap.size, 3, none⟩ = false := frozen_of_row _ _ _ _ _ hWx
  have f4 : W.frozen? ⟨w.heap.size, 4, none⟩ = false := frozen_of_row _ _ _ _ _ hWx
  have f5 : W.frozen? ⟨w.heap.size, 5, none⟩ = false := frozen_of_row _ _ _ _ _ hWx
  have f6 : W.frozen? ⟨w.heap.size, 6, none⟩ = false := frozen_of_row _ _ _ _ _ hWx
  have f7 : W.frozen? ⟨w.heap.size, 7, none⟩ = false := frozen_of_row _ _ _ _ _ hWx
  have f8 : W.frozen? ⟨w.heap.size, 8, none⟩ = false := frozen_of_row _ _ _ _ _ hWx
  have d0 : W.cell? ⟨w.heap.size + 1, 0, none⟩ = some (.int .i64 0) := cell_of_row _ _ _ _ _ _ hWy
  have d1 : W.cell? ⟨w.heap.size + 1, 1, none⟩ = some (.int .i64 0) := cell_of_row _ _ _ _ _ _ hWy
  have d2 : W.cell? ⟨w.heap.size + 1, 2, none⟩ = some (.int .i64 0) := cell_of_row _ _ _ _ _ _ hWy
  have d3 : W.cell? ⟨w.heap.size + 1, 3, none⟩ = some (.slice none 0 0) := cell_of_row _ _ _ _ _ _ hWy
  have d4 : W.cell? ⟨w.heap.size + 1, 4, none⟩ = some (.slice none 0 0) := cell_of_row _ _ _ _ _ _ hWy
  have d5 : W.cell? ⟨w.heap.size + 1, 5, none⟩ = some (.int .i64 0) := cell_of_row _ _ _ _ _ _ hWy
  have d6 : W.cell? ⟨w.heap.size + 1, 6, none⟩ = some (.int .i64 0) := cell_of_row _ _ _ _ _ _ hWy
  have d7 : W.cell? ⟨w.heap.size + 1, 7, none⟩ = some (.int .i64 0) := cell_of_row _ _ _ _ _ _ hWy
  have d8 : W.cell? ⟨w.heap.size + 1, 8, none⟩ = some (.string ⟨#[]⟩) := cell_of_row _ _ _ _ _ _ hWy
  have z0 : W.frozen? ⟨w.heap.size + 1, 0, none⟩ = false := frozen_of_row _ _ _ _ _ hWy
  have z1 : W.frozen? ⟨w.heap.size + 1, 1, none⟩ = false := frozen_of_row _ _ _ _ _ hWy
  have z2 : W.frozen? ⟨w.heap.size + 1, 2, none⟩ = false := frozen_of_row _ _ _ _ _ hWy
  have z3 : W.frozen? ⟨w.heap.size + 1, 3, none⟩ = false := frozen_of_row _ _ _ _ _ hWy
  have z4 : W.frozen? ⟨w.heap.size + 1, 4, none⟩ = false := frozen_of_row _ _ _ _ _ hWy
  have z5 : W.frozen? ⟨w.heap.size + 1, 5, none⟩ = false := frozen_of_row _ _ _ _ _ hWy
  have z6 : W.frozen? ⟨w.heap.size + 1, 6, none⟩ = false := frozen_of_row _ _ _ _ _ hWy
  have z7 : W.frozen? ⟨w.heap.size + 1, 7, none⟩ = false := frozen_of_row _ _ _ _ _ hWy
  have z8 : W.frozen? ⟨w.heap.size + 1, 8, none⟩ = false := frozen_of_row _ _ _ _ _ hWy
  have HW := Lib.hid hW; have HX := Lib.hid hWx; have HY := Lib.hid hWy; have HB := Lib.hid hWb; have HS := Lib.hid hWs; have HN3 := Lib.hid hn3; have HN4 := Lib.hid hn4
  clear hW hWx hWy hWb hWs hn3 hn4
  go_enter Tryd.func34, Tryd.ntmps34
  go_upto_region 1 with fail
  rw [← HW.out]
  clear HW
  go_wp2_with fail
  have HXr := HX; have HYr := HY; have HBr := HB
  refine (down_walk (.agg (Ref.vals M (.slice A3 n3 c3) (.slice A4 n4 c4))) M _ (by exact ⟨_, _, rfl, by rw [← HN3.out]; exact H1.out.next HBr.out, by rw [← HN4.out]; exact H2.out.next HBr.out⟩) HO.out.r hh1 hh2 hy hw2 (by have := HO.out.k; have := HO.out.m; omega) (by have := HO.out.m; omega)).mono ?_
  rintro e w5 ⟨v5, rfl, ⟨vr5, vk5, rfl, h15, h25⟩, hb5⟩
  skip
  have h35 := h15.1; have h45 := h25.1
  obtain ⟨-, A7, c7, rfl, -, -, -, -⟩ := h35
  obtain ⟨-, A8, c8, rfl, -, -, -, -⟩ := h45
  obtain ⟨K, hK⟩ : ∃ K : Ref, K = M.down := ⟨_, rfl⟩
  rw [← hK] at h15 h25
  have hv : Ref.vals M.down (.slice A7 (Ref.rows M.down).length c7) (.slice A8 (Ref.kept M.down).length c8) = #[.int .i64 K.w, .int .i64 K.h, .int .i64 K.most, .slice A7 K.rows.length c7, .slice A8 K.kept.length c8, .int .i64 K.x, .int .i64 K.y, .int .i64 K.begun, .string (bs K.args)] := by rw [← hK]; rfl
  rw [hv]
  clear hv
  have HKK := Lib.hid hK
  have hx5 : w5.heap[w.heap.size]? = some (.cells (Ref.vals M (.slice A3 n3 c3) (.slice A4 n4 c4)) 31 (0, 0)) := (hb5.block _ (block_lt HXr.out)).trans HXr.out
  have hy5 : w5.heap[w.heap.size + 1]? = some (.cells (zeroRef.vals nilS nilS) 31 (0, 0)) := (hb5.block _ (block_lt HYr.out)).trans HYr.out
  have hbw5 : Below w.heap.size w w5 := below_next HBr.out hb5
  have hs5 : w.heap.size + 2 ≤ w5.heap.size := by have := block_lt hy5; omega
  have p0 : w5.cell? ⟨w.heap.size, 0, none⟩ = some (.int .i64 (M).w) := cell_of_row _ _ _ _ _ _ hx5
  have p1 : w5.cell? ⟨w.heap.size, 1, none⟩ = some (.int .i64 (M).h) := cell_of_row _ _ _ _ _ _ hx5
  have p2 : w5.cell? ⟨w.heap.size, 2, none⟩ = some (.int .i64 (M).most) := cell_of_row _ _ _ _ _ _ hx5
  have p3 : w5.cell? ⟨w.heap.size, 3, none⟩ = some (.slice A3 n3 c3) := cell_of_row _ _ _ _ _ _ hx5
  have p4 : w5.cell? ⟨w.heap.size, 4, none⟩ = some (.slice A4 n4 c4) := cell_of_row _ _ _ _ _ _ hx5
  have p5 : w5.cell? ⟨w.heap.size, 5, none⟩ = some (.int .i64 (M).x) := cell_of_row _ _ _ _ _ _ hx5
  have p6 : w5.cell? ⟨w.heap.size, 6, none⟩ = some (.int .i64 (M).y) := cell_of_row _ _ _ _ _ _ hx5
  have p7 : w5.cell? ⟨w.heap.size, 7, none⟩ = some (.int .i64 (M).begun) := cell_of_row _ _ _ _ _ _ hx5
  have p8 : w5.cell? ⟨w.heap.size, 8, none⟩ = some (.string (bs (M).args)) := cell_of_row _ _ _ _ _ _ hx5
  have u0 : w5.frozen? ⟨w.heap.size, 0, none⟩ = false := frozen_of_row _ _ _ _ _ hx5
  have u1 : w5.frozen? ⟨w.heap.size, 1, none⟩ = false := frozen_of_row _ _ _ _ _ hx5
  have u2 : w5.frozen? ⟨w.heap.size, 2, none⟩ = false := frozen_of_row _ _ _ _ _ hx5
  have u3 : w5.frozen? ⟨w.heap.size, 3, none⟩ = false := frozen_of_row _ _ _ _ _ hx5
  have u4 : w5.frozen? ⟨w.heap.size, 4, none⟩ = false := frozen_of_row _ _ _ _ _ hx5
  have u5 : w5.frozen? ⟨w.heap.size, 5, none⟩ = false := frozen_of_row _ _ _ _ _ hx5
  have u6 : w5.frozen? ⟨w.heap.size, 6, none⟩ = false := frozen_of_row _ _ _ _ _ hx5
  have u7 : w5.frozen? ⟨w.heap.size, 7, none⟩ = false := frozen_of_row _ _ _ _ _ hx5
  have u8 : w5.frozen? ⟨w.heap.size, 8, none⟩ = false := frozen_of_row _ _ _ _ _ hx5
  have dd0 : w5.cell? ⟨w.heap.size + 1, 0, none⟩ = some (.int .i64 0) := cell_of_row _ _ _ _ _ _ hy5
  have dd1 : w5.cell? ⟨w.heap.size + 1, 1, none⟩ = some (.int .i64 0) := cell_of_row _ _ _ _ _ _ hy5
  have dd2 : w5.cell? ⟨w.heap.size + 1, 2, none⟩ = some (.int .i64 0) := cell_of_row _ _ _ _ _ _ hy5
  have dd3 : w5.cell? ⟨w.heap.size + 1, 3, none⟩ = some (.slice none 0 0) := cell_of_row _ _ _ _ _ _ hy5
  have dd4 : w5.cell? ⟨w.heap.size + 1, 4, none⟩ = some (.slice none 0 0) := cell_of_row _ _ _ _ _ _ hy5
  have dd5 : w5.cell? ⟨w.heap.size + 1, 5, none⟩ = some (.int .i64 0) := cell_of_row _ _ _ _ _ _ hy5
  have dd6 : w5.cell? ⟨w.heap.size + 1, 6, none⟩ = some (.int .i64 0) := cell_of_row _ _ _ _ _ _ hy5
  have dd7 : w5.cell? ⟨w.heap.size + 1, 7, none⟩ = some (.int .i64 0) := cell_of_row _ _ _ _ _ _ hy5
  have dd8 : w5.cell? ⟨w.heap.size + 1, 8, none⟩ = some (.string ⟨#[]⟩) := cell_of_row _ _ _ _ _ _ hy5
  have zz0 : w5.frozen? ⟨w.heap.size + 1, 0, none⟩ = false := frozen_of_row _ _ _ _ _ hy5
  have zz1 : w5.frozen? ⟨w.heap.size + 1, 1, none⟩ = false := frozen_of_row _ _ _ _ _ hy5
  have zz2 : w5.frozen? ⟨w.heap.size + 1, 2, none⟩ = false := frozen_of_row _ _ _ _ _ hy5
  have zz3 : w5.frozen? ⟨w.heap.size + 1, 3, none⟩ = false := frozen_of_row _ _ _ _ _ hy5
  have zz4 : w5.frozen? ⟨w.heap.size + 1, 4, none⟩ = false := frozen_of_row _ _ _ _ _ hy5
  have zz5 : w5.frozen? ⟨w.heap.size + 1, 5, none⟩ = false := frozen_of_row _ _ _ _ _ hy5
  have zz6 : w5.frozen? ⟨w.heap.size + 1, 6, none⟩ = false := frozen_of_row _ _ _ _ _ hy5
  have zz7 : w5.frozen? ⟨w.heap.size + 1, 7, none⟩ = false := frozen_of_row _ _ _ _ _ hy5
  have zz8 : w5.frozen? ⟨w.heap.size + 1, 8, none⟩ = false := frozen_of_row _ _ _ _ _ hy5
  have HX5 := Lib.hid hx5; have HY5 := Lib.hid hy5; have HB5 := Lib.hid hbw5; have HR15 := Lib.hid h15; have HR25 := Lib.hid h25
  clear hx5 hy5 hbw5 h15 h25 hb5 hK e0 f0 d0 z0 e1 f1 d1 z1 e2 f2 d2 z2 e3 f3 d3 z3 e4 f4 d4 z4 e5 f5 d5 z5 e6 f6 d6 z6 e7 f7 d7 z7 e8 f8 d8 z8
  go_wp2_with fail
  rw [← HKK.out]
  refine bodyPost_ret (v := .agg (Ref.vals (K) (.slice A7 K.rows.length c7) (.slice A8 K.kept.length c8))) (by simp [results, Tryd.results34, go_sem, Ref.vals, dd0, dd1, dd2, dd3, dd4, dd5, dd6, dd7, dd8]) rfl ⟨_, rfl, ⟨_, _, rfl, ?_, ?_⟩, ?_⟩
  · exact HR15.out.two HX5.out HY5.out (by decide) (by repeat (first | with_reducible exact Two.refl _ _ | with_reducible refine Two.setA ?_ _ _ | with_reducible refine Two.setC ?_ _ _))
  · exact HR25.out.two HX5.out HY5.out (by decide) (by repeat (first | with_reducible exact Two.refl _ _ | with_reducible refine Two.setA ?_ _ _ | with_reducible refine Two.setC ?_ _ _))
  · exact (by repeat (first | with_reducible exact HB5.out | with_reducible refine below_setG ?_ _ (by omega) _ _))
end Go.Proofs.YtiefpodmdpnppaaDoor
