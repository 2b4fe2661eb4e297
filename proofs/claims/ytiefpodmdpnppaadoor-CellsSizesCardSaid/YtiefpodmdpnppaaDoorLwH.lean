/-
  WALKS: the document's Resize; the plain law of Resize; the law CellsSizes.
-/
import Derived.Test.YtiefpodmdpnppaaDoorPlD
import Derived.Test.YtiefpodmdpnppaaDoorLwS
import Derived.StillTail
namespace Go.Proofs.YtiefpodmdpnppaaDoor
open Go.RowKit
attribute [local go_sem ↓] Go.wp_at_zero Go.wp_at_succ

def Ref.leaveY (M : Ref) : Ref := { M.leave with y := M.y - 1 }
def Ref.leaves : Nat → Ref → Ref
  | 0, M => M
  | n + 1, M => Ref.leaves n M.leaveY
theorem rleaves_succ (n : Nat) (M : Ref) : Ref.leaves (n + 1) M = (Ref.leaves n M).leaveY := by
  induction n generalizing M with
  | zero => rfl
  | succ n ih => exact ih M.leaveY
def fitR (c : Nat) (l : List UInt8) : List UInt8 := l.take c ++ List.replicate (c - (l.take c).length) 32
def rowsK (N : Ref) (c n : Nat) : List (List UInt8) := (List.range n).map fun y => fitR c (N.rows.getD y [])
theorem rowsK_succ (N : Ref) (c n : Nat) : rowsK N c (n + 1) = rowsK N c n ++ [fitR c (N.rows.getD n [])] := by
  unfold rowsK; rw [List.range_succ, List.map_append]; rfl
def Ref.sized (N : Ref) (c r : Nat) : Ref := { N with rows := rowsK N c r, w := c, h := r, x := min N.x c }
def Ref.resize (M : Ref) (c r : Nat) : Ref := (Ref.leaves (M.y + 1 - r) M).sized c r
theorem rleft_kept (M : Ref) (h : M.kept.length ≤ M.most) : M.leave.kept.length ≤ M.most := by
  unfold Ref.leave
  simp only
  split
  · rw [List.length_drop, List.length_append, List.length_singleton]; omega
  · rw [List.length_append, List.length_singleton]; omega
structure LeftAs (M N : Ref) (k : Nat) : Prop where
  w : N.w = M.w
  h : N.h = M.h
  m : N.most = M.most
  x : N.x = M.x
  y : N.y = M.y - k
  b : N.begun = M.begun
  a : N.args = M.args
  r : N.rows = M.rows.drop k
  k : N.kept.length ≤ N.most
theorem rleaves_as (M : Ref) (hk : M.kept.length ≤ M.most) (k : Nat) : LeftAs M (Ref.leaves k M) k := by
  induction k with
  | zero => exact ⟨rfl, rfl, rfl, rfl, rfl, rfl, rfl, rfl, hk⟩
  | succ k ih =>
    rw [rleaves_succ]
    refine ⟨ih.w, ih.h, ih.m, ih.x, ?_, ih.b, ih.a, ?_, rleft_kept _ ih.k⟩
    · show (Ref.leaves k M).y - 1 = _; rw [ih.y]; omega
    · show (Ref.leaves k M).rows.tail = _; rw [ih.r, List.tail_drop]
theorem getD_len (l : List (List UInt8)) (n w : Nat) (h : ∀ r ∈ l, r.length = w) : (l.getD n []).length ≤ w := by
  rw [List.getD_eq_getElem?_getD]
  rcases Nat.lt_or_ge n l.length with hn | hn
  · rw [List.getElem?_eq_getElem hn]; exact Nat.le_of_eq (h _ (List.getElem_mem hn))
  · rw [List.getElem?_eq_none hn]; exact Nat.zero_le _
theorem fit_cut (l : List UInt8) (c : Nat) (h : c ≤ l.length) : (bs l).extract 0 c ++ bs (List.replicate 0 32) = bs (fitR c l) := by
  have e : (bs l).extract 0 c = bs (l.take c) := by apply ba_ext; rw [extract_list, bs_list, bs_list]
  unfold fitR
  rw [e, bs_append, List.length_take, Nat.min_eq_left h, Nat.sub_self]
theorem fit_wide (l : List UInt8) (c : Nat) (h : l.length ≤ c) : bs l ++ bs (List.replicate (c - l.length) 32) = bs (fitR c l) := by
  unfold fitR
  rw [bs_append, List.take_of_length_le h]
theorem fit_nil (c : Nat) : (⟨#[]⟩ : ByteArray) ++ bs (List.replicate c 32) = bs (fitR c []) := by
  rw [show (⟨#[]⟩ : ByteArray) = bs [] from rfl, bs_append]; unfold fitR; simp
def cellR (w : World) (b : Nat) : Nat := (intOf ((w.cell? ⟨b, 6, none⟩).getD undef)).toNat
theorem cellR_of {w : World} {b y : Nat} (h : w.cell? ⟨b, 6, none⟩ = some (.int .i64 y)) : cellR w b = y := by
  unfold cellR; rw [h]; simp [intOf]


set_option maxRecDepth 100000 in
set_option maxHeartbeats 1600000 in
theorem rresize_walk (v : Value) (M : Ref) (c r : Nat) (w : World) (h : RV w v M) (ok : M.Ok) (q1 : 1 ≤ c) (q2 : c ≤ 128) (q3 : 1 ≤ r) (q4 : r ≤ 64) :
    Calls Tryd.prog 21 #[v, .int .i64 c, .int .i64 r] w (RVPost w (M.resize c r)) := by
  obtain ⟨vr, vk, rfl, h1, h2⟩ := h
  obtain ⟨i0, hi, hz0, hz1, hz2⟩ := info_parts infoS
  have HI := Lib.hid hi; have HZ0 := Lib.hid hz0; have HZ1 := Lib.hid hz1; have HZ2 := Lib.hid hz2
  have H1 := Lib.hid h1; have H2 := Lib.hid h2
  have HO := Lib.hid ok
  have hMy : M.y ≤ 63 := by have := ok.y; have := ok.h2; omega
  clear h1 h2 ok hi hz0 hz1 hz2
  obtain ⟨W, hW⟩ : ∃ W, W = (w.alloc (.cells (M.vals vr vk) 31)).alloc (.cells #[.int .i64 0, .int .i64 0, .int .i64 0, .slice none 0 0, .slice none 0 0, .int .i64 0, .int .i64 0, .int .i64 0, .string ⟨#[]⟩] 31) := ⟨_, rfl⟩
  have hWx : W.heap[w.heap.size]? = some (.cells (M.vals vr vk) 31 (0, 0)) := by rw [hW]; exact alloc2_fst _ _ _
  have hWy : W.heap[w.heap.size + 1]? = some (.cells (zeroRef.vals nilS nilS) 31 (0, 0)) := by rw [hW]; exact alloc2_snd _ _ _
  have hWb : Below w.heap.size w W := by rw [hW]; exact below_alloc2 _ _ _
  have HW := Lib.hid hW; have HX := Lib.hid hWx; have HY := Lib.hid hWy; have HB := Lib.hid hWb
  clear hW hWx hWy hWb
  go_enter Tryd.func21, Tryd.ntmps21
  go_upto_region 1 with fail
  rw [← HW.out]
  clear HW
  go_loopw [13] (fun _ wr => ∃ k : Nat, k ≤ M.y + 1 - r ∧ Hid (RB wr w.heap.size (Ref.leaves k M)) ∧ Hid (wr.heap[w.heap.size + 1]? = some (.cells (zeroRef.vals nilS nilS) 31 (0, 0))) ∧ Hid (Below w.heap.size w wr)) (fun _ wr => cellR wr w.heap.size)
  case atStart => exact ⟨0, Nat.zero_le _, ⟨_, _, HX.out, H1.out.next HB.out, H2.out.next HB.out⟩, HY.out, HB.out⟩
  case round =>
    obtain ⟨k, hk, hRB, HYr, HBr⟩ := hrel
    obtain ⟨vr', vk', hxr, hr1, hr2⟩ := hRB.out
    have hAs := rleaves_as M HO.out.k k
    have HSu := Lib.hid (rleaves_succ k M)
    obtain ⟨N, hN⟩ : ∃ N : Ref, N = Ref.leaves k M := ⟨_, rfl⟩
    have HNN := Lib.hid hN
    rw [← hN] at hxr hr1 hr2 hAs HSu
    clear hN hRB
    have hrl : N.rows.length = M.h - k := by rw [hAs.r, List.length_drop, HO.out.r]
    have hrw : ∀ q ∈ N.rows, q.length = M.w := fun q hq => HO.out.rw q (List.mem_of_mem_drop (hAs.r ▸ hq))
    have hMh : M.h ≤ 64 := HO.out.h2
    have hMyh : M.y < M.h := HO.out.y
    have hkm : N.kept.length ≤ 1000 := Nat.le_trans hAs.k (hAs.m ▸ HO.out.m)
    have hmm : N.most ≤ 1000 := hAs.m ▸ HO.out.m
    have hNy := hAs.y
    have hNy63 : N.y ≤ 63 := by omega
    obtain ⟨n5, hn5⟩ : ∃ n : Nat, n = N.rows.length := ⟨_, rfl⟩
    obtain ⟨n6, hn6⟩ : ∃ n : Nat, n = N.kept.length := ⟨_, rfl⟩
    rw [← hn5] at hr1 hrl
    rw [← hn6] at hr2 hkm
    have h31 := hr1.1; have h41 := hr2.1
    obtain ⟨-, A5, c5, rfl, -, -, -, hcr⟩ := h31
    obtain ⟨-, A6, c6, rfl, -, -, -, -⟩ := h41
    have HL5 := Lib.hid hn5; have HL6 := Lib.hid hn6; have HCR := Lib.hid hcr; have HRW := Lib.hid hrw
    have o0 : wr.cell? ⟨w.heap.size, 0, none⟩ = some (.int .i64 N.w) := cell_of_row _ _ _ _ _ _ hxr
    have o1 : wr.cell? ⟨w.heap.size, 1, none⟩ = some (.int .i64 N.h) := cell_of_row _ _ _ _ _ _ hxr
    have o2 : wr.cell? ⟨w.heap.size, 2, none⟩ = some (.int .i64 N.most) := cell_of_row _ _ _ _ _ _ hxr
    have o3 : wr.cell? ⟨w.heap.size, 3, none⟩ = some (.slice A5 n5 c5) := cell_of_row _ _ _ _ _ _ hxr
    have o4 : wr.cell? ⟨w.heap.size, 4, none⟩ = some (.slice A6 n6 c6) := cell_of_row _ _ _ _ _ _ hxr
    have o5 : wr.cell? ⟨w.heap.size, 5, none⟩ = some (.int .i64 N.x) := cell_of_row _ _ _ _ _ _ hxr
    have o6 : wr.cell? ⟨w.heap.size, 6, none⟩ = some (.int .i64 N.y) := cell_of_row _ _ _ _ _ _ hxr
    have o7 : wr.cell? ⟨w.heap.size, 7, none⟩ = some (.int .i64 N.begun) := cell_of_row _ _ _ _ _ _ hxr
    have o8 : wr.cell? ⟨w.heap.size, 8, none⟩ = some (.string (bs N.args)) := cell_of_row _ _ _ _ _ _ hxr
    have hlt0 : w.heap.size < wr.heap.size := block_lt hxr
    have HC6 : Hid (cellR wr w.heap.size = N.y) := cellR_of o6
    have HXr := Lib.hid hxr; have HR1 := Lib.hid hr1; have HR2 := Lib.hid hr2; have HAs := Lib.hid hAs
    have HNy := Lib.hid hNy
    clear hn5 hn6 hxr hr1 hr2 hAs hcr hrw hNy
    by_cases hge : r ≤ N.y
    · have hd : decide ((N.y : Int) ≥ (r : Int)) = true := by simp; omega
      have hn5p : 1 ≤ n5 := by have := HNy.out; omega
      have hn5q : n5 ≤ 64 := by omega
      have hk1 : k + 1 ≤ M.y + 1 - r := by have := HNy.out; omega
      clear hrl
      go_wp2_with fail
      refine (leave_walk (.agg (N.vals (.slice A5 n5 c5) (.slice A6 n6 c6))) N _ (by exact ⟨_, _, rfl, by rw [← HL5.out]; exact HR1.out, by rw [← HL6.out]; exact HR2.out⟩) (by rw [← HL5.out]; exact hn5p) (by rw [← HL5.out]; omega) (by rw [← HL6.out]; omega) (by omega)).mono ?_
      rintro e w5 ⟨v5, rfl, hro5, hb5⟩
      obtain ⟨vr5, vk5, rfl, h15, h25⟩ := hro5.rv
      have h35 := h15.1; have h45 := h25.1
      obtain ⟨-, A7, c7, rfl, -, -, -, -⟩ := h35
      obtain ⟨-, A8, c8, rfl, -, -, -, -⟩ := h45
      obtain ⟨K, hK⟩ : ∃ K : Ref, K = N.leave := ⟨_, rfl⟩
      rw [← hK] at h15 h25
      have hv : Ref.vals N.leave (.slice A7 N.leave.rows.length c7) (.slice A8 N.leave.kept.length c8) = #[.int .i64 K.w, .int .i64 K.h, .int .i64 K.most, .slice A7 K.rows.length c7, .slice A8 K.kept.length c8, .int .i64 K.x, .int .i64 K.y, .int .i64 K.begun, .string (bs K.args)] := by rw [← hK]; rfl
      rw [hv]
      have hKy : K.y = N.y := by rw [hK]; rfl
      have hK1 : 1 ≤ K.y := by omega
      have hK2 : K.y ≤ 63 := by omega
      have HKY := Lib.hid hKy
      clear hKy
      have HKs : Hid (Ref.leaves (k + 1) M = { K with y := K.y - 1 }) := by rw [HSu.out, hK]; exact Lib.hid rfl
      clear hv hro5
      have hx5 : w5.heap[w.heap.size]? = some (.cells (N.vals (.slice A5 n5 c5) (.slice A6 n6 c6)) 31 (0, 0)) := (hb5.block _ (block_lt HXr.out)).trans HXr.out
      have hy5 : w5.heap[w.heap.size + 1]? = some (.cells (zeroRef.vals nilS nilS) 31 (0, 0)) := (hb5.block _ (block_lt HYr.out)).trans HYr.out
      have hbw5 : Below w.heap.size w w5 := below_next HBr.out hb5
      have hs5 : w.heap.size + 2 ≤ w5.heap.size := by have := block_lt hy5; omega
      have p0 : w5.cell? ⟨w.heap.size, 0, none⟩ = some (.int .i64 N.w) := cell_of_row _ _ _ _ _ _ hx5
      have p1 : w5.cell? ⟨w.heap.size, 1, none⟩ = some (.int .i64 N.h) := cell_of_row _ _ _ _ _ _ hx5
      have p2 : w5.cell? ⟨w.heap.size, 2, none⟩ = some (.int .i64 N.most) := cell_of_row _ _ _ _ _ _ hx5
      have p3 : w5.cell? ⟨w.heap.size, 3, none⟩ = some (.slice A5 n5 c5) := cell_of_row _ _ _ _ _ _ hx5
      have p4 : w5.cell? ⟨w.heap.size, 4, none⟩ = some (.slice A6 n6 c6) := cell_of_row _ _ _ _ _ _ hx5
      have p5 : w5.cell? ⟨w.heap.size, 5, none⟩ = some (.int .i64 N.x) := cell_of_row _ _ _ _ _ _ hx5
      have p6 : w5.cell? ⟨w.heap.size, 6, none⟩ = some (.int .i64 N.y) := cell_of_row _ _ _ _ _ _ hx5
      have p7 : w5.cell? ⟨w.heap.size, 7, none⟩ = some (.int .i64 N.begun) := cell_of_row _ _ _ _ _ _ hx5
      have p8 : w5.cell? ⟨w.heap.size, 8, none⟩ = some (.string (bs N.args)) := cell_of_row _ _ _ _ _ _ hx5
      have u0 : w5.frozen? ⟨w.heap.size, 0, none⟩ = false := frozen_of_row _ _ _ _ _ hx5
      have u1 : w5.frozen? ⟨w.heap.size, 1, none⟩ = false := frozen_of_row _ _ _ _ _ hx5
      have u2 : w5.frozen? ⟨w.heap.size, 2, none⟩ = false := frozen_of_row _ _ _ _ _ hx5
      have u3 : w5.frozen? ⟨w.heap.size, 3, none⟩ = false := frozen_of_row _ _ _ _ _ hx5
      have u4 : w5.frozen? ⟨w.heap.size, 4, none⟩ = false := frozen_of_row _ _ _ _ _ hx5
      have u5 : w5.frozen? ⟨w.heap.size, 5, none⟩ = false := frozen_of_row _ _ _ _ _ hx5
      have u6 : w5.frozen? ⟨w.heap.size, 6, none⟩ = false := frozen_of_row _ _ _ _ _ hx5
      have u7 : w5.frozen? ⟨w.heap.size, 7, none⟩ = false := frozen_of_row _ _ _ _ _ hx5
      have u8 : w5.frozen? ⟨w.heap.size, 8, none⟩ = false := frozen_of_row _ _ _ _ _ hx5
      have g1 := grown_setCells w5 w.heap.size 0 (K.vals (.slice A7 K.rows.length c7) (.slice A8 K.kept.length c8)).toList
      have Q1 := Lib.hid (ref_over hx5 K (.slice A7 K.rows.length c7) (.slice A8 K.kept.length c8))
      have Q2 := Lib.hid (h15.ne hx5 (by decide) g1)
      have Q3 := Lib.hid (h25.ne hx5 (by decide) g1)
      have Q4 := Lib.hid ((g1.block (w.heap.size + 1) (by omega) (fun he => by injection he with he; omega)).trans hy5)
      have Q5 := Lib.hid (hbw5.grown g1 (by omega) (fun q hq => by injection hq with hq; omega))
      clear hx5 hy5 hbw5 h15 h25 hb5 hK g1 o0 o1 o2 o3 o4 o5 o6 o7 o8
      go_upto_region 3 with fail
      change Code.wp _ _ _ _ (w5.setCells w.heap.size 0 (K.vals (.slice A7 K.rows.length c7) (.slice A8 K.kept.length c8)).toList)
      obtain ⟨w6, hw6⟩ : ∃ w6, w6 = w5.setCells w.heap.size 0 (K.vals (.slice A7 K.rows.length c7) (.slice A8 K.kept.length c8)).toList := ⟨_, rfl⟩
      rw [← hw6] at Q1 Q2 Q3 Q4 Q5 ⊢
      clear hw6 u0 u1 u2 u3 u4 u5 u6 u7 u8 p0 p1 p2 p3 p4 p5 p6 p7 p8 hs5 w5
      have p6 : w6.cell? ⟨w.heap.size, 6, none⟩ = some (.int .i64 K.y) := cell_of_row _ _ _ _ _ _ Q1.out
      have f6 : w6.frozen? ⟨w.heap.size, 6, none⟩ = false := frozen_of_row _ _ _ _ _ Q1.out
      have hlt6 : w.heap.size < w6.heap.size := block_lt Q1.out
      have g6 := grown_setCell w6 w.heap.size 6 (.int .i64 (K.y - 1 : Nat))
      have R1 : Hid ((w6.setCell ⟨w.heap.size, 6, none⟩ (.int .i64 (K.y - 1 : Nat))).heap[w.heap.size]? = some (.cells (Ref.vals { K with y := K.y - 1 } (.slice A7 K.rows.length c7) (.slice A8 K.kept.length c8)) 31 (0, 0))) := heap_setCell_same w6 _ 6 _ _ _ Q1.out
      have R2 := Lib.hid (Q2.out.ne Q1.out (by decide) g6)
      have R3 := Lib.hid (Q3.out.ne Q1.out (by decide) g6)
      have R4 : Hid ((w6.setCell ⟨w.heap.size, 6, none⟩ (.int .i64 (K.y - 1 : Nat))).heap[w.heap.size + 1]? = some (.cells (zeroRef.vals nilS nilS) 31 (0, 0))) := (Below.heap_setCell _ _ _ _ (by show w.heap.size + 1 ≠ w.heap.size; omega)).trans Q4.out
      have R5 : Hid (Below w.heap.size w (w6.setCell ⟨w.heap.size, 6, none⟩ (.int .i64 (K.y - 1 : Nat)))) := Q5.out.setCell (p := ⟨w.heap.size, 6, none⟩) (Nat.le_refl _) _
      have HC7 : Hid (cellR (w6.setCell ⟨w.heap.size, 6, none⟩ (.int .i64 (K.y - 1 : Nat))) w.heap.size = K.y - 1) := cellR_of (cell_of_row _ _ _ _ _ _ R1.out)
      clear g6 Q1 Q2 Q3 Q4 Q5
      go_wp2_with fail
      rw [show (K.y : Int) - 1 = ((K.y - 1 : Nat) : Int) from by omega]
      go_roundw
      case rel => exact ⟨k + 1, hk1, by rw [HKs.out]; exact ⟨_, _, R1.out, R2.out, R3.out⟩, R4.out, R5.out⟩
      case measure => rw [HC6.out, HC7.out]; have := HKY.out; omega
    · have hd : decide ((N.y : Int) ≥ (r : Int)) = false := by simp; omega
      have hke : k = M.y + 1 - r := by have := HNy.out; omega
      have HF : Hid (M.resize c r = N.sized c r) := by unfold Ref.resize; rw [← hke, ← HNN.out]; exact Lib.hid rfl
      have hM128 : M.w ≤ 128 := HO.out.w2
      have hn5q : n5 ≤ 64 := by omega
      have hs2 : w.heap.size + 2 ≤ wr.heap.size := by have := block_lt HYr.out; omega
      clear hke hrl
      go_wp2_with fail
      obtain ⟨wo, hwo⟩ : ∃ wo : World, wo = wr := ⟨_, rfl⟩
      rw [← hwo] at HXr HR1 HR2 HYr HBr HCR hlt0 hs2 ⊢
      clear o0 o1 o2 o3 o4 o5 o6 o7 o8 HC6
      clear hwo
      go_loopw [7, 8, 9] (fun rv yv _ wq => ∃ y A c', y ≤ r ∧ yv = .int .i64 y ∧ rv = .slice A y c' ∧ Hid (Own wq wo.heap.size 9 1 (.slice A y c') y ((rowsK N c y).map strV)) ∧ Hid (Below wo.heap.size wo wq)) (fun _ yv _ _ => r - (intOf yv).toNat)
      case atStart => exact ⟨0, none, 0, Nat.zero_le _, rfl, rfl, Own.nil _ _ _ _, Below.refl _ _⟩
      case round =>
        obtain ⟨y, A, c', hyr, rfl, rfl, hOw, hBo⟩ := hrel
        have hxq : wr.heap[w.heap.size]? = some (.cells (N.vals (.slice A5 n5 c5) (.slice A6 n6 c6)) 31 (0, 0)) := (hBo.out.block _ hlt0).trans HXr.out
        have hsq := hBo.out.size
        have o0 : wr.cell? ⟨w.heap.size, 0, none⟩ = some (.int .i64 N.w) := cell_of_row _ _ _ _ _ _ hxq
        have o1 : wr.cell? ⟨w.heap.size, 1, none⟩ = some (.int .i64 N.h) := cell_of_row _ _ _ _ _ _ hxq
        have o2 : wr.cell? ⟨w.heap.size, 2, none⟩ = some (.int .i64 N.most) := cell_of_row _ _ _ _ _ _ hxq
        have o3 : wr.cell? ⟨w.heap.size, 3, none⟩ = some (.slice A5 n5 c5) := cell_of_row _ _ _ _ _ _ hxq
        have o4 : wr.cell? ⟨w.heap.size, 4, none⟩ = some (.slice A6 n6 c6) := cell_of_row _ _ _ _ _ _ hxq
        have o5 : wr.cell? ⟨w.heap.size, 5, none⟩ = some (.int .i64 N.x) := cell_of_row _ _ _ _ _ _ hxq
        have o6 : wr.cell? ⟨w.heap.size, 6, none⟩ = some (.int .i64 N.y) := cell_of_row _ _ _ _ _ _ hxq
        have o7 : wr.cell? ⟨w.heap.size, 7, none⟩ = some (.int .i64 N.begun) := cell_of_row _ _ _ _ _ _ hxq
        have o8 : wr.cell? ⟨w.heap.size, 8, none⟩ = some (.string (bs N.args)) := cell_of_row _ _ _ _ _ _ hxq
        by_cases hlt : y < r
        · have hd1 : decide ((y : Int) < (r : Int)) = true := by simp; omega
          have HSn := Lib.hid (rowsK_succ N c y)
          obtain ⟨l, hl⟩ : ∃ l : List UInt8, l = N.rows.getD y [] := ⟨_, rfl⟩
          have hll : l.length ≤ M.w := by rw [hl]; exact getD_len _ _ _ HRW.out
          rw [← hl] at HSn
          have HLq := Lib.hid hl
          clear hxq o0 o1 o2 o4 o5 o6 o7 o8
          by_cases hyl : y < n5
          · have hd2 : decide ((y : Int) < (n5 : Int)) = true := by simp; omega
            obtain ⟨rb, ro, hA5, hrb, hrc⟩ := HCR.out (by omega)
            subst hA5
            have hrow : wr.cell? ⟨rb, ro + y, none⟩ = some (.string (bs l)) := by
              refine (hBo.out.cell (p := ⟨rb, ro + y, none⟩) hrb).trans (hrc y _ ?_)
              have hyl2 : y < N.rows.length := by rw [← HL5.out]; exact hyl
              rw [hl, List.getElem?_map, List.getElem?_eq_getElem hyl2, List.getD_eq_getElem?_getD, List.getElem?_eq_getElem hyl2]; rfl
            have hlen : l.length = M.w := by
              have hyl2 : y < N.rows.length := by rw [← HL5.out]; exact hyl
              rw [hl, List.getD_eq_getElem?_getD, List.getElem?_eq_getElem hyl2]; exact HRW.out _ (List.getElem_mem hyl2)
            have hsz := bs_size l
            obtain ⟨R, hR⟩ : ∃ R : ByteArray, R = bs l := ⟨_, rfl⟩
            rw [← hR] at hrow hsz
            have HR := Lib.hid hR
            clear hrc hR hl
            by_cases hw : c < M.w
            · have hd3 : decide (c < R.size) = true := by simp; omega
              have hcR : (c : Int) ≤ (R.size : Int) := by omega
              have hcR2 : c ≤ R.size := by omega
              have hR128 : R.size ≤ 128 := by omega
              have HSz := Lib.hid hsz
              have HLn := Lib.hid hlen
              clear hsz hlen
              go_wp2_with fail
              rw [show (0 : Int) = ((0 : Nat) : Int) from by omega]
              refine (rblanks_any (0) _ (by omega)).mono ?_
              rintro e w' ⟨rfl, rfl⟩
              obtain ⟨B, hB⟩ : ∃ B : ByteArray, B = bs (List.replicate (0) 32) := ⟨_, rfl⟩
              have hBs : B.size ≤ 128 := by rw [hB, bs_size, List.length_replicate]; omega
              rw [← hB]
              have HX : Hid (R.extract 0 c ++ B = bs (fitR c l)) := by rw [hB]; exact Lib.hid (by rw [HR.out, fit_cut l c (by rw [HLn.out]; omega)])
              have hGs : (R.extract 0 c).size ≤ 1000 := by rw [ByteArray.size_extract]; omega
              clear hB
              obtain ⟨G, hG⟩ : ∃ G : ByteArray, G = R.extract 0 c := ⟨_, rfl⟩
              rw [← hG] at HX hGs ⊢
              clear hG
              go_wp2_with (at_builtin; refine wpList_app _ rfl (.tmp 42) (.tmp 50) 26 26 rfl wo.heap.size 9 i0 _ 1 16 Tryd.underlying26 HI.out HZ0.out HZ1.out HZ2.out rfl _ y ((rowsK N c y).map strV) rfl ?c1 _ rfl 1 [.string (G ++ B)] ?c2 ?c3 ?c4 ?c5 ?_)
              case c1 => exact hOw.out.next ((Below.refl _ _).alloc (Nat.le_refl _) _)
              case c2 => exact (build_one wr 9 _).src _ Tryd.underlying26 (one_str _)
              case c3 => unfold maxLen; omega
              case c4 => omega
              case c5 => simp; omega
              intro v' w' hown hrow hb _
              have HOn : Hid (Own w' wo.heap.size 9 1 v' (y + 1) ((rowsK N c (y + 1)).map strV)) := by
                rw [HSn.out, List.map_append, List.map_cons, List.map_nil, strV_bs, ← HX.out]; exact hown
              have HBn : Hid (Below wo.heap.size wo w') := (hBo.out.alloc hsq _).trans hb
              obtain ⟨_, A', c'', rfl, _, _, _, _⟩ := hown.rd
              clear hown hrow hb o3
              go_wp2_with fail
              go_roundw
              case rel => exact ⟨y + 1, A', c'', by omega, by go_num, rfl, HOn.out, HBn.out⟩
              case measure => simp [intOf]; omega
            · have hd3 : decide (c < R.size) = false := by simp; omega
              have HSz := Lib.hid hsz
              have hRc : R.size ≤ c := by omega
              clear hsz
              go_wp2_with fail
              rw [show (c : Int) - (R.size : Int) = ((c - R.size : Nat) : Int) from by omega]
              refine (rblanks_any (c - R.size) _ (by omega)).mono ?_
              rintro e w' ⟨rfl, rfl⟩
              obtain ⟨B, hB⟩ : ∃ B : ByteArray, B = bs (List.replicate (c - R.size) 32) := ⟨_, rfl⟩
              have hBs : B.size ≤ 128 := by rw [hB, bs_size, List.length_replicate]; omega
              rw [← hB]
              have HX : Hid (R ++ B = bs (fitR c l)) := by rw [hB]; exact Lib.hid (by rw [HR.out, bs_size, fit_wide l c (by rw [← HSz.out]; exact hRc)])
              have hGs : (R).size ≤ 1000 := by omega
              clear hB
              obtain ⟨G, hG⟩ : ∃ G : ByteArray, G = R := ⟨_, rfl⟩
              rw [← hG] at HX hGs ⊢
              clear hG
              go_wp2_with (at_builtin; refine wpList_app _ rfl (.tmp 42) (.tmp 50) 26 26 rfl wo.heap.size 9 i0 _ 1 16 Tryd.underlying26 HI.out HZ0.out HZ1.out HZ2.out rfl _ y ((rowsK N c y).map strV) rfl ?c1 _ rfl 1 [.string (G ++ B)] ?c2 ?c3 ?c4 ?c5 ?_)
              case c1 => exact hOw.out.next ((Below.refl _ _).alloc (Nat.le_refl _) _)
              case c2 => exact (build_one wr 9 _).src _ Tryd.underlying26 (one_str _)
              case c3 => unfold maxLen; omega
              case c4 => omega
              case c5 => simp; omega
              intro v' w' hown hrow hb _
              have HOn : Hid (Own w' wo.heap.size 9 1 v' (y + 1) ((rowsK N c (y + 1)).map strV)) := by
                rw [HSn.out, List.map_append, List.map_cons, List.map_nil, strV_bs, ← HX.out]; exact hown
              have HBn : Hid (Below wo.heap.size wo w') := (hBo.out.alloc hsq _).trans hb
              obtain ⟨_, A', c'', rfl, _, _, _, _⟩ := hown.rd
              clear hown hrow hb o3
              go_wp2_with fail
              go_roundw
              case rel => exact ⟨y + 1, A', c'', by omega, by go_num, rfl, HOn.out, HBn.out⟩
              case measure => simp [intOf]; omega
          · have hd2 : decide ((y : Int) < (n5 : Int)) = false := by simp; omega
            have HL0 : Hid (l = []) := by
              rw [hl, List.getD_eq_getElem?_getD, List.getElem?_eq_none (by rw [← HL5.out]; omega)]; exact Lib.hid rfl
            clear hl
            go_wp2_with fail
            rw [show (c : Int) = ((c : Nat) : Int) from by omega]
            refine (rblanks_any (c) _ (by omega)).mono ?_
            rintro e w' ⟨rfl, rfl⟩
            obtain ⟨B, hB⟩ : ∃ B : ByteArray, B = bs (List.replicate (c) 32) := ⟨_, rfl⟩
            have hBs : B.size ≤ 128 := by rw [hB, bs_size, List.length_replicate]; omega
            rw [← hB]
            have HX : Hid ((⟨#[]⟩ : ByteArray) ++ B = bs (fitR c l)) := by rw [hB]; exact Lib.hid (by rw [HL0.out]; exact fit_nil c)
            have hGs : ((⟨#[]⟩ : ByteArray)).size ≤ 1000 := by show 0 ≤ 1000; omega
            clear hB
            obtain ⟨G, hG⟩ : ∃ G : ByteArray, G = (⟨#[]⟩ : ByteArray) := ⟨_, rfl⟩
            rw [← hG] at HX hGs ⊢
            clear hG
            go_wp2_with (at_builtin; refine wpList_app _ rfl (.tmp 42) (.tmp 50) 26 26 rfl wo.heap.size 9 i0 _ 1 16 Tryd.underlying26 HI.out HZ0.out HZ1.out HZ2.out rfl _ y ((rowsK N c y).map strV) rfl ?c1 _ rfl 1 [.string (G ++ B)] ?c2 ?c3 ?c4 ?c5 ?_)
            case c1 => exact hOw.out.next ((Below.refl _ _).alloc (Nat.le_refl _) _)
            case c2 => exact (build_one wr 9 _).src _ Tryd.underlying26 (one_str _)
            case c3 => unfold maxLen; omega
            case c4 => omega
            case c5 => simp; omega
            intro v' w' hown hrow hb _
            have HOn : Hid (Own w' wo.heap.size 9 1 v' (y + 1) ((rowsK N c (y + 1)).map strV)) := by
              rw [HSn.out, List.map_append, List.map_cons, List.map_nil, strV_bs, ← HX.out]; exact hown
            have HBn : Hid (Below wo.heap.size wo w') := (hBo.out.alloc hsq _).trans hb
            obtain ⟨_, A', c'', rfl, _, _, _, _⟩ := hown.rd
            clear hown hrow hb o3
            go_wp2_with fail
            go_roundw
            case rel => exact ⟨y + 1, A', c'', by omega, by go_num, rfl, HOn.out, HBn.out⟩
            case measure => simp [intOf]; omega
        · obtain rfl : y = r := by omega
          have hd1 : decide ((y : Int) < (y : Int)) = false := by simp
          have hyq : wr.heap[w.heap.size + 1]? = some (.cells (zeroRef.vals nilS nilS) 31 (0, 0)) := (hBo.out.block _ (by omega)).trans HYr.out
          have hlq : (rowsK N c y).length = y := by unfold rowsK; rw [List.length_map, List.length_range]
          have dd0 : wr.cell? ⟨w.heap.size + 1, 0, none⟩ = some (.int .i64 0) := cell_of_row _ _ _ _ _ _ hyq
          have dd1 : wr.cell? ⟨w.heap.size + 1, 1, none⟩ = some (.int .i64 0) := cell_of_row _ _ _ _ _ _ hyq
          have dd2 : wr.cell? ⟨w.heap.size + 1, 2, none⟩ = some (.int .i64 0) := cell_of_row _ _ _ _ _ _ hyq
          have dd3 : wr.cell? ⟨w.heap.size + 1, 3, none⟩ = some (.slice none 0 0) := cell_of_row _ _ _ _ _ _ hyq
          have dd4 : wr.cell? ⟨w.heap.size + 1, 4, none⟩ = some (.slice none 0 0) := cell_of_row _ _ _ _ _ _ hyq
          have dd5 : wr.cell? ⟨w.heap.size + 1, 5, none⟩ = some (.int .i64 0) := cell_of_row _ _ _ _ _ _ hyq
          have dd6 : wr.cell? ⟨w.heap.size + 1, 6, none⟩ = some (.int .i64 0) := cell_of_row _ _ _ _ _ _ hyq
          have dd7 : wr.cell? ⟨w.heap.size + 1, 7, none⟩ = some (.int .i64 0) := cell_of_row _ _ _ _ _ _ hyq
          have dd8 : wr.cell? ⟨w.heap.size + 1, 8, none⟩ = some (.string ⟨#[]⟩) := cell_of_row _ _ _ _ _ _ hyq
          have zz0 : wr.frozen? ⟨w.heap.size + 1, 0, none⟩ = false := frozen_of_row _ _ _ _ _ hyq
          have zz1 : wr.frozen? ⟨w.heap.size + 1, 1, none⟩ = false := frozen_of_row _ _ _ _ _ hyq
          have zz2 : wr.frozen? ⟨w.heap.size + 1, 2, none⟩ = false := frozen_of_row _ _ _ _ _ hyq
          have zz3 : wr.frozen? ⟨w.heap.size + 1, 3, none⟩ = false := frozen_of_row _ _ _ _ _ hyq
          have zz4 : wr.frozen? ⟨w.heap.size + 1, 4, none⟩ = false := frozen_of_row _ _ _ _ _ hyq
          have zz5 : wr.frozen? ⟨w.heap.size + 1, 5, none⟩ = false := frozen_of_row _ _ _ _ _ hyq
          have zz6 : wr.frozen? ⟨w.heap.size + 1, 6, none⟩ = false := frozen_of_row _ _ _ _ _ hyq
          have zz7 : wr.frozen? ⟨w.heap.size + 1, 7, none⟩ = false := frozen_of_row _ _ _ _ _ hyq
          have zz8 : wr.frozen? ⟨w.heap.size + 1, 8, none⟩ = false := frozen_of_row _ _ _ _ _ hyq
          have ff0 : wr.frozen? ⟨w.heap.size, 0, none⟩ = false := frozen_of_row _ _ _ _ _ hxq
          have ff1 : wr.frozen? ⟨w.heap.size, 1, none⟩ = false := frozen_of_row _ _ _ _ _ hxq
          have ff3 : wr.frozen? ⟨w.heap.size, 3, none⟩ = false := frozen_of_row _ _ _ _ _ hxq
          have ff5 : wr.frozen? ⟨w.heap.size, 5, none⟩ = false := frozen_of_row _ _ _ _ _ hxq
          have HXq := Lib.hid hxq; have HYq := Lib.hid hyq; have HLQ := Lib.hid hlq
          clear hxq hyq hlq
          go_wp2_with fail
          rw [show min (N.x : Int) (c : Int) = ((min N.x c : Nat) : Int) from by omega, HF.out]
          have h2 := two_set4 wr w.heap.size 3 0 1 5 (.slice A y c') (.int .i64 c) (.int .i64 y) (.int .i64 (min N.x c : Nat)) 0 ((N.sized c y).vals (.slice A y c') (.slice A6 n6 c6)).toList
          have h3 := below_set4 wr w.heap.size 3 0 1 5 (.slice A y c') (.int .i64 c) (.int .i64 y) (.int .i64 (min N.x c : Nat)) 0 ((N.sized c y).vals (.slice A y c') (.slice A6 n6 c6)).toList (by omega)
          refine bodyPost_ret (v := .agg ((N.sized c y).vals (.slice A y c') (.slice A6 n6 c6))) (by simp [results, Tryd.results21, go_sem, Ref.vals, Ref.sized, dd0, dd1, dd2, dd3, dd4, dd5, dd6, dd7, dd8]) rfl ⟨_, rfl, ⟨_, _, rfl, ?_, ?_⟩, ?_⟩
          · show RdT _ _ _ (rowsK N c y).length ((rowsK N c y).map strV)
            rw [HLQ.out]
            exact (hOw.out.two (b := w.heap.size) hs2 h2).rdt
          · show RdT _ _ _ N.kept.length (N.kept.map strV)
            rw [← HL6.out]
            exact (HR2.out.next hBo.out).two HXq.out HYq.out (by decide) h2
          · exact (HBr.out.trans (hBo.out.mono (by omega))).trans h3

theorem fitR_len (c : Nat) (l : List UInt8) : (fitR c l).length = c := by
  unfold fitR; rw [List.length_append, List.length_replicate, List.length_take]; omega
theorem fitR_at (c : Nat) (l : List UInt8) (x : Nat) (hx : x < c) : (fitR c l)[x]? = some (if x < l.length then l.getD x 32 else 32) := by
  unfold fitR
  by_cases h : x < l.length
  · rw [if_pos h, List.getElem?_append_left (by rw [List.length_take]; omega), List.getElem?_take_of_lt hx, List.getD_eq_getElem?_getD, List.getElem?_eq_getElem h]; rfl
  · rw [if_neg h, List.getElem?_append_right (by rw [List.length_take]; omega), List.getElem?_replicate, if_pos (by rw [List.length_take]; omega)]
theorem getD_app_l (a b : List (List UInt8)) (i : Nat) (h : i < a.length) : (a ++ b).getD i [] = a.getD i [] := by
  rw [List.getD_eq_getElem?_getD, List.getElem?_append_left h, List.getD_eq_getElem?_getD]
theorem getD_app_r (a b : List (List UInt8)) (i : Nat) (h : a.length ≤ i) : (a ++ b).getD i [] = b.getD (i - a.length) [] := by
  rw [List.getD_eq_getElem?_getD, List.getElem?_append_right h, List.getD_eq_getElem?_getD]
theorem flat_at (w : Nat) (rows : List (List UInt8)) (h : ∀ r ∈ rows, r.length = w) (y x : Nat) (hy : y < rows.length) (hx : x < w) : rows.flatten[y * w + x]? = (rows.getD y [])[x]? := by
  rw [← flat_row w rows h y hy, List.getElem?_take_of_lt hx, List.getElem?_drop]
theorem rowsK_len (N : Ref) (c r : Nat) : (rowsK N c r).length = r := by unfold rowsK; rw [List.length_map, List.length_range]
theorem rowsK_mem (N : Ref) (c r : Nat) : ∀ q ∈ rowsK N c r, q.length = c := by
  intro q hq
  unfold rowsK at hq
  obtain ⟨y, _, rfl⟩ := List.mem_map.1 hq
  exact fitR_len _ _
theorem rowsK_at (N : Ref) (c r y : Nat) (hy : y < r) : (rowsK N c r).getD y [] = fitR c (N.rows.getD y []) := by
  unfold rowsK
  rw [List.getD_eq_getElem?_getD, List.getElem?_map, List.getElem?_range hy]; rfl
theorem Ref.Ok.resize {M : Ref} (ok : M.Ok) (c r : Nat) (q1 : 1 ≤ c) (q2 : c ≤ 128) (q3 : 1 ≤ r) (q4 : r ≤ 64) : (M.resize c r).Ok := by
  have h := rleaves_as M ok.k (M.y + 1 - r)
  have hy := ok.y
  exact { w1 := q1, w2 := q2, h1 := q3, h2 := q4, m := (by show (Ref.leaves (M.y + 1 - r) M).most ≤ 1000; rw [h.m]; exact ok.m), r := rowsK_len _ _ _, rw := rowsK_mem _ _ _, k := h.k, x := Nat.min_le_right _ _, y := (by show (Ref.leaves (M.y + 1 - r) M).y < r; rw [h.y]; omega), b := (by show (Ref.leaves (M.y + 1 - r) M).begun ≤ 2; rw [h.b]; exact ok.b), a := (by show Digs (Ref.leaves (M.y + 1 - r) M).args; rw [h.a]; exact ok.a) }
/-- the first row leaves, a blank one comes, the cursor goes along -/
def Ref.leaveP (M : Ref) : Ref := { M.leave with rows := M.rows.tail ++ [List.replicate M.w 32], y := M.y - 1 }
def Ref.leavesP : Nat → Ref → Ref
  | 0, M => M
  | n + 1, M => (Ref.leavesP n M).leaveP
theorem Ref.Ok.leaveP {M : Ref} (ok : M.Ok) : M.leaveP.Ok := by
  have h1 := ok.h1; have hy := ok.y
  refine { ok with r := ?_, rw := ?_, k := leave_kept M ok.k, y := (by show M.y - 1 < M.h; omega) }
  · show (M.rows.tail ++ [List.replicate M.w 32]).length = M.h
    rw [List.length_append, List.length_tail, ok.r, List.length_singleton]; omega
  · intro q hq
    rcases List.mem_append.1 (show q ∈ M.rows.tail ++ [List.replicate M.w 32] from hq) with h | h
    · exact ok.rw q (List.mem_of_mem_tail h)
    · simp at h; rw [h]; exact List.length_replicate
theorem Ref.Ok.leavesP {M : Ref} (ok : M.Ok) (n : Nat) : (Ref.leavesP n M).Ok := by
  induction n with
  | zero => exact ok
  | succ n ih => exact ih.leaveP
theorem Sim.leaveP {S : Scr} {M : Ref} (s : Sim S M) (ok : M.Ok) : Sim S.leave M.leaveP := by
  have h := s.scroll ok
  exact { h with y := (by show S.y - 1 = M.y - 1; rw [s.y]) }
theorem Sim.leavesP {S : Scr} {M : Ref} (s : Sim S M) (ok : M.Ok) (n : Nat) : Sim (Scr.leaves n S) (Ref.leavesP n M) := by
  induction n with
  | zero => exact s
  | succ n ih => rw [leaves_succ]; exact ih.leaveP (ok.leavesP n)
theorem leavesP_eq {M : Ref} (ok : M.Ok) (n : Nat) (hn : n ≤ M.h) : Ref.leavesP n M = { Ref.leaves n M with rows := M.rows.drop n ++ List.replicate n (List.replicate M.w 32) } := by
  induction n with
  | zero => show M = _; simp [Ref.leaves]
  | succ n ih =>
    have ih := ih (by omega)
    have ha := rleaves_as M ok.k n
    rw [rleaves_succ]
    show (Ref.leavesP n M).leaveP = _
    rw [ih]
    have hne : M.rows.drop n ≠ [] := by intro h; have := congrArg List.length h; rw [List.length_drop, ok.r] at this; simp at this; omega
    obtain ⟨q, t, hqt⟩ := List.exists_cons_of_ne_nil hne
    have ht : M.rows.drop (n + 1) = t := by rw [← List.tail_drop, hqt]; rfl
    generalize Ref.leaves n M = X at *
    have hr := ha.r
    rw [hqt] at hr
    unfold Ref.leaveP Ref.leaveY Ref.leave
    rw [hqt, ht, hr]
    simp only [List.cons_append, List.headD_cons, List.tail_cons, ha.w, List.replicate_succ', List.append_assoc]
theorem Sim.resize {S : Scr} {M : Ref} (s : Sim S M) (ok : M.Ok) (c r : Nat) (q1 : 1 ≤ c) (q3 : 1 ≤ r) : Sim (S.resize c r) (M.resize c r) := by
  have hy := ok.y
  have hn : M.y + 1 - r ≤ M.h := by omega
  have h := s.leavesP ok (M.y + 1 - r)
  have okP := ok.leavesP (M.y + 1 - r)
  have he := leavesP_eq ok (M.y + 1 - r) hn
  have ha := rleaves_as M ok.k (M.y + 1 - r)
  unfold Scr.resize Ref.resize Ref.sized
  rw [s.y]
  generalize M.y + 1 - r = n at *
  generalize hT : Scr.leaves n S = T at *
  generalize hP : Ref.leavesP n M = P at *
  generalize hN : Ref.leaves n M = N at *
  have fP : P.w = N.w ∧ P.h = N.h ∧ P.most = N.most ∧ P.kept = N.kept ∧ P.x = N.x ∧ P.y = N.y ∧ P.begun = N.begun ∧ P.args = N.args := by rw [he]; exact ⟨rfl, rfl, rfl, rfl, rfl, rfl, rfl, rfl⟩
  obtain ⟨f1, f2, f3, f4, f5, f6, f7, f8⟩ := fP
  have hPr : P.rows = N.rows ++ List.replicate n (List.replicate M.w 32) := by rw [he, ha.r]
  refine { c := rfl, r := rfl, m := h.m.trans f3, x := (by show min T.x c = min N.x c; rw [h.x, f5]), y := h.y.trans f6, k := h.k.trans f4, g := ?_, st := h.st.trans f7, n := fun hb => by have := h.n (f7.trans hb); rw [f8] at this; exact this }
  show gridK T.grid T.cols c r (min r T.rows) = (rowsK N c r).flatten
  have hlr := flat_len c (rowsK N c r) (rowsK_mem N c r)
  rw [rowsK_len] at hlr
  have hwN : N.w = M.w := ha.w
  have hhN : N.h = M.h := ha.h
  have hNl : N.rows.length = M.h - n := by rw [ha.r, List.length_drop, ok.r]
  have hNw : ∀ q ∈ N.rows, q.length = M.w := fun q hq => ok.rw q (List.mem_of_mem_drop (ha.r ▸ hq))
  have hPl : P.rows.length = M.h := by rw [okP.r, f2, hhN]
  have hPw : ∀ q ∈ P.rows, q.length = M.w := fun q hq => by rw [okP.rw q hq, f1, hwN]
  have hTc : T.cols = M.w := by rw [h.c, f1, hwN]
  have hTr : T.rows = M.h := by rw [h.r, f2, hhN]
  rw [hTc, hTr, h.g]
  apply List.ext_getElem?
  intro j
  by_cases hj : j < c * r
  · rw [gridK_at _ _ _ _ _ _ hj]
    have hd : j / c < r := Nat.div_lt_of_lt_mul hj
    have hm : j % c < c := Nat.mod_lt _ q1
    have hjj : j / c * c + j % c = j := by rw [Nat.mul_comm]; exact Nat.div_add_mod j c
    have hR := flat_at c (rowsK N c r) (rowsK_mem N c r) (j / c) (j % c) (by rw [rowsK_len]; exact hd) hm
    rw [hjj, rowsK_at N c r _ hd, fitR_at _ _ _ hm] at hR
    rw [hR]
    generalize j / c = y at *
    generalize j % c = x at *
    congr 1
    by_cases hy : y < N.rows.length
    · have hNy : N.rows.getD y [] = N.rows[y] := by rw [List.getD_eq_getElem?_getD, List.getElem?_eq_getElem hy]; rfl
      have hNyl : (N.rows.getD y []).length = M.w := by rw [hNy]; exact hNw _ (List.getElem_mem hy)
      rw [hNyl]
      by_cases hx : x < M.w
      · rw [if_pos ⟨by omega, hx⟩, if_pos hx, List.getD_eq_getElem?_getD, flat_at M.w P.rows hPw y x (by omega) hx, List.getD_eq_getElem?_getD (l := N.rows.getD y []), hPr, getD_app_l _ _ _ hy]
      · rw [if_neg (fun h => hx h.2), if_neg hx]
    · have hNy : N.rows.getD y [] = [] := by rw [List.getD_eq_getElem?_getD, List.getElem?_eq_none (by omega)]; rfl
      rw [hNy, if_neg (show ¬ x < ([] : List UInt8).length by simp)]
      by_cases hx : y < min r M.h ∧ x < M.w
      · rw [if_pos hx, List.getD_eq_getElem?_getD, flat_at M.w P.rows hPw y x (by omega) hx.2, hPr, getD_app_r _ _ _ (by omega), List.getD_eq_getElem?_getD, List.getElem?_replicate, if_pos (by omega)]
        simp [hx.2]
      · rw [if_neg hx]
  · rw [List.getElem?_eq_none (by rw [gridK_len]; omega), List.getElem?_eq_none (by rw [hlr, Nat.mul_comm]; omega)]

def headL (sz m : Nat) : Array Bool := ((List.range sz).map fun i => decide (i < m)).toArray
theorem headL_size (sz m : Nat) : (headL sz m).size = sz := by unfold headL; simp
theorem headL_at (sz m i : Nat) (h : i < sz) : (headL sz m)[i]? = some (decide (i < m)) := by unfold headL; simp [h]
def meekTB (ops : Array Oper) (m n : Nat) : Bool :=
  Region.noSelect ops && decide (m < ops.size) && Region.sinkB .any ops m && Region.chainB .any ops m && Region.seqB .any ops (ops.size - m) m (headL ops.size m) &&
  ((List.range m).all fun k => match ops[k]? with
    | none => true
    | some o =>
      (o.after.toList.all fun e => !Region.binds .any e || decide (e.on < k)) &&
      (match o.dst with | some d => decide (d < n) | none => true) &&
      ((List.range ops.size).all fun j => match ops[j]? with
        | none => true
        | some oj => (!needs ops o oj || (decide (j < m) && o.after.toList.any fun e => Region.binds .any e && e.on == j)) && (j == k || !decide (j < m) || o.dst.isNone || oj.dst != o.dst)))
theorem meekTB_op {ops : Array Oper} {m n : Nat} (h : meekTB ops m n = true) {k : Nat} {o : Oper} (hkm : k < m) (ho : ops[k]? = some o) :
    (∀ e ∈ o.after, Region.binds .any e = true → e.on < k) ∧ (∀ d, o.dst = some d → d < n) ∧
    (∀ (j : Nat) (oj : Oper), ops[j]? = some oj → (needs ops o oj = true → j < m ∧ ∃ e ∈ o.after, Region.binds .any e = true ∧ e.on = j) ∧ (j < m → j ≠ k → ∀ d, o.dst = some d → oj.dst ≠ some d)) := by
  simp only [meekTB, Bool.and_eq_true, List.all_eq_true, List.mem_range] at h
  have h1 := h.2 k hkm
  simp only [ho, Bool.and_eq_true, List.all_eq_true, List.mem_range] at h1
  obtain ⟨⟨ha, hd⟩, hj⟩ := h1
  refine ⟨fun e he hb => ?_, fun d he => ?_, fun j oj hoj => ?_⟩
  · have := ha e (by simpa using he)
    simp [hb] at this; exact this
  · simp [he] at hd; exact hd
  · have hjl : j < ops.size := (Array.getElem?_eq_some_iff.1 hoj).1
    have h2 := hj j hjl
    simp only [hoj, Bool.and_eq_true] at h2
    obtain ⟨h3, h4⟩ := h2
    refine ⟨fun hn => ?_, fun hjm hne d he => ?_⟩
    · simp only [hn, Bool.not_true, Bool.false_or, Bool.and_eq_true, decide_eq_true_eq, List.any_eq_true, beq_iff_eq] at h3
      obtain ⟨hjm, e, he, hb, ho⟩ := h3
      exact ⟨hjm, e, by simpa using he, hb, ho⟩
    · simp [he, hne, hjm] at h4; exact h4

def leftH (m : Nat) (listed : Array Bool) : Nat := (List.range m).countP fun k => !listed.getD k true
theorem leftH_set {m : Nat} {listed : Array Bool} {i : Nat} (hi : i < m) (hu : listed.getD i true = false) : leftH m (listed.setIfInBounds i true) + 1 = leftH m listed := by
  have hlt : i < listed.size := by
    rcases Nat.lt_or_ge i listed.size with h | h
    · exact h
    · simp [Array.getElem?_eq_none h] at hu
  unfold leftH
  obtain ⟨r, rfl⟩ : ∃ r, m = i + (1 + r) := ⟨m - i - 1, by omega⟩
  have hA : ∀ k, k ≠ i → (listed.setIfInBounds i true).getD k true = listed.getD k true := fun k hk => getD_set_ne true (Ne.symm hk)
  have e1 : ((List.range i).countP fun k => !(listed.setIfInBounds i true).getD k true) = (List.range i).countP fun k => !listed.getD k true :=
    List.countP_congr fun k hk => by rw [hA k (by have := List.mem_range.1 hk; omega)]
  rw [List.range_add, List.countP_append, List.countP_append, e1, Nat.add_comm 1 r, List.range_succ_eq_map, List.map_cons, List.countP_cons, List.countP_cons]
  have e2 : ((List.map (fun x => i + x) (List.map Nat.succ (List.range r))).countP fun k => !(listed.setIfInBounds i true).getD k true) = (List.map (fun x => i + x) (List.map Nat.succ (List.range r))).countP fun k => !listed.getD k true :=
    List.countP_congr fun k hk => by
      obtain ⟨x, hx, rfl⟩ := List.mem_map.1 hk
      obtain ⟨y, hy, rfl⟩ := List.mem_map.1 hx
      rw [hA _ (by show i + (y + 1) ≠ i; omega)]
  rw [e2]
  have e3 : (listed.setIfInBounds i true).getD (i + 0) true = true := by simp [hlt]
  have e4 : listed.getD (i + 0) true = false := hu
  simp only [e3, e4]
  simp
  omega
theorem leftH_zero {m : Nat} {listed : Array Bool} (h : leftH m listed = 0) : ∀ i, i < m → listed.getD i true = true := by
  intro i hi
  unfold leftH at h
  have := List.countP_eq_zero.1 h i (List.mem_range.2 hi)
  simpa using this
theorem leftH_pos {m : Nat} {listed : Array Bool} (h : leftH m listed ≠ 0) : ∃ i, i < m ∧ listed.getD i true = false := by
  unfold leftH at h
  have : 0 < (List.range m).countP fun k => !listed.getD k true := by omega
  obtain ⟨i, hi, hp⟩ := List.countP_pos_iff.1 this
  exact ⟨i, List.mem_range.1 hi, by simpa using hp⟩

theorem meekT_any {P : Program} {l : List Oper} {Q : Exit → Act → World → Prop} {a0 : Act} {w0 : World} {R : Nat → Stay} (m : Nat) (hB : meekTB l.toArray m a0.tmps.size = true)
    (hst : ∀ (k : Nat) (o : Oper), k < m → l[k]? = some o → meekStep P l.toArray a0 w0 R k o)
    (hQ : ∀ (a : Act) (w : World), Later w0 w → Fr a0 (l.take m).toArray a → (∀ (k : Nat) (o : Oper), k < m → l[k]? = some o → o.dst ≠ none → (R k).R (slotOf a o) w) → wpList P l.toArray Q (l.drop m) a w) :
    ∀ (h : Nat) (listed : Array Bool) (a : Act) (w : World), leftH m listed = h → HeadInv .any l.toArray m listed → Later w0 w → Fr a0 (l.take m).toArray a →
      (∀ (k : Nat) (o : Oper), k < m → l[k]? = some o → o.dst ≠ none → listed.getD k false = true → (R k).R (slotOf a o) w) → wpAny P .any l.toArray Q (h + (l.toArray.size - m)) listed a w := by
  have hB' := hB
  simp only [meekTB, Bool.and_eq_true, decide_eq_true_eq] at hB'
  obtain ⟨⟨⟨⟨⟨hsel, hms⟩, hsink⟩, hchain⟩, hseq⟩, -⟩ := hB'
  have hml : m < l.length := by simpa using hms
  intro h
  induction h with
  | zero =>
    intro listed a w hl0 inv hlw hf hall
    have hin := leftH_zero hl0
    have heq : listed = headL l.toArray.size m := by
      apply Array.ext_getElem?
      intro i
      rcases Nat.lt_or_ge i l.toArray.size with hi | hi
      · have hi2 : i < listed.size := by rw [inv.size]; exact hi
        rw [headL_at _ _ _ hi, Array.getElem?_eq_getElem hi2]
        by_cases him : i < m
        · have := hin i him
          simp [hi2] at this
          simp [this, him]
        · have := inv.tail i (by omega) hi
          simp [hi2] at this
          simp [this, him]
      · rw [Array.getElem?_eq_none (by rw [inv.size]; exact hi), Array.getElem?_eq_none (by rw [headL_size]; exact hi)]
    have hdl : (l.drop m).length = l.toArray.size - m := by simp
    rw [Nat.zero_add, ← hdl]
    refine wpAny_of_seq (l.drop m) m listed a w (fun j => by simp [List.getElem?_drop]) (by rw [heq, hdl]; exact hseq) (hQ a w hlw hf fun k o hk ho hd => hall k o hk ho hd ?_)
    have := hin k hk
    have hk2 : k < listed.size := by rw [inv.size]; simp; omega
    simp [hk2] at this ⊢; exact this
  | succ h ih =>
    intro listed a w hl0 inv hlw hf hall
    obtain ⟨u, hum, huu⟩ := leftH_pos (by rw [hl0]; omega : leftH m listed ≠ 0)
    have hhead : ∀ i ∈ Region.ready .any l.toArray listed, i < m := by
      intro i hi
      rcases Nat.lt_or_ge i m with h1 | h1
      · exact h1
      · exact absurd hi (tail_waits hsink hchain hms inv (m - u) u rfl hum huu i h1)
    have hne : Region.ready .any l.toArray listed ≠ [] := by
      have key : ∀ k, k < m → listed.getD k true = false → Region.ready .any l.toArray listed ≠ [] := by
        intro k
        induction k using Nat.strongRecOn with
        | ind k ihk =>
          intro hkm hku hr
          have hkl : k < l.length := by omega
          have ho : l.toArray[k]? = some l[k] := by simp [hkl]
          have hmem : k ∈ Region.ready .any l.toArray listed := mem_ready.2 ⟨hku, _, ho, fun e he hb => by
            have hlt := (meekTB_op hB hkm ho).1 e he hb
            cases hle : listed.getD e.on true with
            | true =>
              have h2 : e.on < listed.size := by rw [inv.size]; simp; omega
              simp [h2] at hle ⊢; exact hle
            | false => exact absurd hr (ihk e.on hlt (by omega) hle)⟩
          rw [hr] at hmem; cases hmem
      exact key u hum huu
    rw [show h + 1 + (l.toArray.size - m) = (h + (l.toArray.size - m)) + 1 from by omega]
    refine ⟨fun h1 => absurd h1 hne, fun i hi => ?_⟩
    have him := hhead i hi
    obtain ⟨hu, o, ho, hall2⟩ := mem_ready.1 hi
    have hol : l[i]? = some o := by simpa using ho
    have hot : (l.take m).toArray[i]? = some o := by simp [him, hol]
    obtain ⟨-, hdn, hj⟩ := meekTB_op hB him ho
    have next : ∀ (v : Value) (w' : World), Later w w' → (R i).R v w' → wpAny P .any l.toArray Q (h + (l.toArray.size - m)) (listed.setIfInBounds i true) (a.put o.dst v) w' := by
      intro v w' hlv hv
      have hlt := leftH_set him hu
      refine ih _ _ _ (by omega) (inv.set hi him) (hlw.trans hlv) (hf.put hot v) fun k ok hkm hok hd hlk => ?_
      by_cases hki : k = i
      · subst hki
        obtain rfl : o = ok := by rw [hol] at hok; injection hok
        rcases slot_same (a := a) (o := o) (v := v) (fun d he => by rw [hf.size]; exact hdn d he) with h0 | h0
        · exact absurd h0 hd
        · rw [h0]; exact hv
      · rw [slot_other fun d he => (hj k ok (by simpa using hok)).2 hkm hki d he]
        refine (R k).st _ _ _ (hall k ok hkm hok hd ?_) hlv
        rw [getD_set_ne false (Ne.symm hki)] at hlk; exact hlk
    have hF : Fr a0 l.toArray a := ⟨hf.size, hf.defers, fun t ht => hf.out t fun k ok hok => ht k ok (by
      have hkm : k < m := by
        rcases Nat.lt_or_ge k m with h1 | h1
        · exact h1
        · rw [Array.getElem?_eq_none (by simp; omega)] at hok; cases hok
      simpa [hkm] using hok)⟩
    have hs := hst i o him hol a w hlw hF fun d od hod hn => by
      obtain ⟨hdm, e, he, hb, rfl⟩ := (hj d od hod).1 hn
      exact hall _ od hdm (by simpa using hod) (fun h0 => by unfold needs at hn; rw [h0] at hn; cases hn) (hall2 e he hb)
    unfold wpOp
    simp only [ho]
    split
    · rename_i hw
      simp only [hw, if_true] at hs
      refine .inl ?_
      unfold Oper.wp
      generalize (execOp a.eval o).run P w = r at *
      cases r with
      | ok n w' =>
        cases n <;> simp only [meekUpon] at hs <;> simp only [Oper.upon]
        case value u => exact next u w' hs.1 hs.2
        case skip => exact next undef w' hs.1 hs.2
        case enter f args => exact hs.2.mono fun e w'' ⟨v, he, hlv, hv⟩ => by subst he; exact next v w'' (hs.1.trans hlv) hv
      | halt x w' => simp only [meekUpon] at hs
    · rename_i hw
      simp only [hw] at hs
      exact next undef w (Later.refl w) hs

theorem wp_region_meekT {P : Program} {id : Nat} {Q : Exit → Act → World → Prop} {a : Act} {w : World} {l : List Oper} (Rs : List Stay) (m n : Nat) (hn : a.tmps.size = n) (hm : P.follows .mixedOrders = true) (hB : meekTB l.toArray m n = true)
    (hst : meekAll P l.toArray a w (fun k => Rs.getD k Stay.any) (l.take m) 0)
    (hQ : ∀ (g : Nat → Value) (w' : World), Later w w' → meekEnd (fun k => Rs.getD k Stay.any) g w' (l.take m) 0 → wpList P l.toArray Q (l.drop m) (putAll g (l.take m) a) w') : (Code.region id l.toArray true).wp P Q a w := by
  subst hn
  refine wp_region_any hm ?_
  have inv0 : HeadInv .any l.toArray m (Array.replicate l.toArray.size false) :=
    ⟨by simp, fun j oj _ hl => (by rw [getD_replicate_false] at hl; cases hl), fun t _ ht => getD_in (by simpa using ht) (getD_replicate_false _ _)⟩
  have hml : m < l.length := by
    simp only [meekTB, Bool.and_eq_true, decide_eq_true_eq] at hB
    simpa using hB.1.1.1.1.2
  have hcount : leftH m (Array.replicate l.toArray.size false) = m := by
    unfold leftH
    have : ((List.range m).countP fun k => !(Array.replicate l.toArray.size false).getD k true) = (List.range m).countP fun _ => true :=
      List.countP_congr fun k hk => by
        have hk1 : k < m := List.mem_range.1 hk
        have hk2 : k < l.length := by omega
        simp [hk2]
    rw [this]; simp
  have H := meekT_any (Q := Q) (a0 := a) (w0 := w) (R := fun k => Rs.getD k Stay.any) m hB (fun k o hk ho => by
      have := meekAll_at (l.take m) 0 hst k o (by simp [hk, ho]); rwa [Nat.zero_add] at this) (fun a' w' hl hf hall => ?_) m _ a { w with drawn := w.drawn + 1 } hcount inv0 (later_drawn w) ⟨rfl, rfl, fun _ _ => rfl⟩ (fun k o hk ho _ hlk => by
        rw [getD_replicate_false] at hlk; cases hlk)
  · rw [show m + (l.toArray.size - m) = l.toArray.size from by simp; omega] at H
    exact H
  · rw [fr_putAll (l.take m) a hf.size hf.defers fun t ht => hf.out t fun k o ho => ht o (List.mem_of_getElem? (by simpa using ho))]
    exact hQ _ w' hl (meekEnd_of (l.take m) 0 fun j o hj hd => by
      rw [Nat.zero_add]
      have hjm : j < m := by
        rcases Nat.lt_or_ge j m with h1 | h1
        · exact h1
        · rw [List.getElem?_eq_none (by simp; omega)] at hj; cases hj
      exact hall j o hjm (by simpa [hjm] using hj) hd)


theorem RV.ne {w w' : World} {t : TypeId} {r : Nat} {cs : Array Value} {fz : Nat × Nat} {v : Value} {M : Ref} (h : RV w v M) (hr : w.heap[r]? = some (.cells cs t fz)) (h9 : 9 ≠ t) (hg : w.grownBy w' (some r)) : RV w' v M := by
  obtain ⟨vr, vk, h1, h2, h3⟩ := h
  exact ⟨vr, vk, h1, h2.ne hr h9 hg, h3.ne hr h9 hg⟩
theorem ref_stored {a w3 : World} {b c : Nat} {T : Scr} {M N : Ref} {v1 v2 v3 v4 u3 u4 x : Value} (hx : w3.heap[b]? = some (.cells (T.vals v1 v2) 29 (0, 0))) (hy : w3.heap[c]? = some (.cells (M.vals v3 v4) 31 (0, 0))) (hbc : b ≠ c) (hc : CK w3 x T) (hr : RV w3 (.agg (N.vals u3 u4)) N) (hB : Below a.heap.size a w3) (hcap : a.heap.size ≤ c) :
    ∃ w5, w5 = w3.setCells c 0 (N.vals u3 u4).toList ∧ w5.heap[b]? = some (.cells (T.vals v1 v2) 29 (0, 0)) ∧ w5.heap[c]? = some (.cells (N.vals u3 u4) 31 (0, 0)) ∧ CK w5 x T ∧ RV w5 (.agg (N.vals u3 u4)) N ∧ Below a.heap.size a w5 :=
  ⟨_, rfl, (World.heap_setCells_other w3 c 0 _ (block_lt hx) hbc).trans hx, ref_over hy N u3 u4, hc.ne hy (by decide) (by decide) (grown_setCells w3 c 0 _), hr.ne hy (by decide) (grown_setCells w3 c 0 _), below_cells hB c 0 _ hcap hB.size⟩
theorem two_stored {a w3 : World} {b : Nat} {S T : Scr} {M N : Ref} {v1 v2 v3 v4 u1 u2 u3 u4 : Value} (hx : w3.heap[b]? = some (.cells (S.vals v1 v2) 29 (0, 0))) (hy : w3.heap[b + 1]? = some (.cells (M.vals v3 v4) 31 (0, 0))) (hc : CK w3 (.agg (T.vals u1 u2)) T) (hr : RV w3 (.agg (N.vals u3 u4)) N) (hB : Below a.heap.size a w3) (hcap : a.heap.size ≤ b) :
    ∃ w5, w5 = (w3.setCells b 0 (T.vals u1 u2).toList).setCells (b + 1) 0 (N.vals u3 u4).toList ∧ w5.heap[b]? = some (.cells (T.vals u1 u2) 29 (0, 0)) ∧ w5.heap[b + 1]? = some (.cells (N.vals u3 u4) 31 (0, 0)) ∧ CK w5 (.agg (T.vals u1 u2)) T ∧ RV w5 (.agg (N.vals u3 u4)) N ∧ Below a.heap.size a w5 :=
  ref_stored (scr_over hx T u1 u2) ((World.heap_setCells_other w3 b 0 _ (block_lt hy) (by omega)).trans hy) (by omega) (hc.ne hx (by decide) (by decide) (grown_setCells w3 b 0 _)) (hr.ne hx (by decide) (grown_setCells w3 b 0 _)) (below_cells hB b 0 _ hcap hB.size) (by omega)

def Stay.rv (M : Ref) : Stay := ⟨fun v w => RV w v M, fun _ _ _ h hb => RV.next h hb⟩
set_option maxRecDepth 100000 in
set_option maxHeartbeats 1600000 in
theorem sizes_yes (a b k c r : Nat) (s t : ByteArray) (w : World) (ha : a < 256) (hb : b < 256) (hk : k < 256) (hs : s.size ≤ 300) (ht : t.size ≤ 300) (q1 : 1 ≤ c) (q2 : c ≤ 128) (q3 : 1 ≤ r) (q4 : r ≤ 64) :
    Calls Tryd.prog 6 #[.agg #[.int .u8 a, .int .u8 b, .int .u8 k], .string s, .string t, .int .i64 c, .int .i64 r] w (ValPost w (.bool true)) := by
  have hd : decide ((s.size : Int) > 300) = false := by simp; omega
  have hd2 : decide ((t.size : Int) > 300) = false := by simp; omega
  have hq1 : decide ((c : Int) < 1) = false := by simp; omega
  have hq2 : decide ((c : Int) > 128) = false := by simp; omega
  have hq3 : decide ((r : Int) < 1) = false := by simp; omega
  have hq4 : decide ((r : Int) > 64) = false := by simp; omega
  go_enter Tryd.func6, Tryd.ntmps6
  go_wp2_with fail
  refine (made_walk a b k _ ha hb hk).mono ?_
  rintro e w1 ⟨v1, u1, rfl, hck, hrv, hb1⟩
  have hok := newScr_ok (1 + a % 20) (1 + b % 8) (k % 12) (by omega) (by omega) (by omega) (by omega) (by omega)
  have hom := newRef_ok (1 + a % 20) (1 + b % 8) (k % 12) (by omega) (by omega) (by omega) (by omega) (by omega)
  have hsim := sim_new (1 + a % 20) (1 + b % 8) (k % 12)
  obtain ⟨S, hS⟩ : ∃ S : Scr, S = newScr (1 + a % 20) (1 + b % 8) (k % 12) := ⟨_, rfl⟩
  obtain ⟨M, hM⟩ : ∃ M : Ref, M = newRef (1 + a % 20) (1 + b % 8) (k % 12) := ⟨_, rfl⟩
  have HMA : Hid (M.args = []) := by rw [hM]; exact Lib.hid rfl
  rw [← hS] at hck hok hsim
  rw [← hM] at hrv hom hsim
  have HV1 := Lib.hid hck; have HO := Lib.hid hok; have HOM := Lib.hid hom; have HU1 := Lib.hid hrv
  obtain ⟨T, hT⟩ : ∃ T : Scr, T = S.bytes s.data.toList := ⟨_, rfl⟩
  obtain ⟨N, hN⟩ : ∃ N : Ref, N = M.bytes s.data.toList := ⟨_, rfl⟩
  have HOT : Hid T.Ok := by rw [hT]; exact hok.bytes _
  have HON : Hid N.Ok := by rw [hN]; exact hom.bytes _
  have HSI : Hid (Sim T N) := by rw [hT, hN]; exact hsim.bytes hom _
  have HNA : Hid (N.args.length ≤ 300) := by rw [hN]; refine Nat.le_trans (bytes_args _ _) ?_; rw [HMA.out]; simp; omega
  have HTq := Lib.hid hT; have HNq := Lib.hid hN
  have HB1 : Hid (Below w.heap.size w w1) := below_next ((Below.refl _ _).alloc (Nat.le_refl _) _) hb1
  obtain ⟨A1, k1, A2, k2, rfl⟩ := hck.form
  obtain ⟨vr, vk', rfl, h21, h22⟩ := hrv
  have h25 := h21.1; have h26 := h22.1
  obtain ⟨-, A3, k3, rfl, -, -, -, -⟩ := h25
  obtain ⟨-, A4, k4, rfl, -, -, -, -⟩ := h26
  clear hck h21 h22 hok hom hsim hb1 hS hM hT hN
  rw [Scr.vals_eq S, Ref.vals_eq M]
  go_upto_region 6 with fail
  obtain ⟨w2, hw2⟩ : ∃ w2, w2 = (w1.alloc (.cells (S.vals (.slice A1 S.grid.length k1) (.slice A2 S.kept.length k2)) 29)).alloc (.cells (M.vals (.slice A3 M.rows.length k3) (.slice A4 M.kept.length k4)) 31) := ⟨_, rfl⟩
  have hb12 : Below w1.heap.size w1 w2 := by rw [hw2]; exact below_alloc2 _ _ _
  have hx2 : w2.heap[w1.heap.size]? = some (.cells (S.vals (.slice A1 S.grid.length k1) (.slice A2 S.kept.length k2)) 29 (0, 0)) := by rw [hw2]; exact alloc2_fst _ _ _
  have hy2 : w2.heap[w1.heap.size + 1]? = some (.cells (M.vals (.slice A3 M.rows.length k3) (.slice A4 M.kept.length k4)) 31 (0, 0)) := by rw [hw2]; exact alloc2_snd _ _ _
  have HV2 := Lib.hid (HV1.out.next hb12)
  have HU2 := Lib.hid (HU1.out.next hb12)
  have HB2 : Hid (Below w.heap.size w w2) := below_next HB1.out hb12
  have hcap : w.heap.size ≤ w1.heap.size := HB1.out.size
  rw [Scr.vals_eq S, Ref.vals_eq M] at hw2
  rw [← hw2]
  obtain ⟨b7, hb7⟩ : ∃ b7, b7 = w1.heap.size := ⟨_, rfl⟩
  rw [← hb7] at hx2 hy2 hcap ⊢
  have hLs : ∀ w', Later w2 w' → w'.heap[b7]? = some (.cells (S.vals (.slice A1 S.grid.length k1) (.slice A2 S.kept.length k2)) 29 (0, 0)) := fun w' h => (h.block _ (block_lt hx2)).trans hx2
  have hLm : ∀ w', Later w2 w' → w'.heap[b7 + 1]? = some (.cells (M.vals (.slice A3 M.rows.length k3) (.slice A4 M.kept.length k4)) 31 (0, 0)) := fun w' h => (h.block _ (block_lt hy2)).trans hy2
  clear hw2 hb12 HV1 HU1 HB1 hb7 hx2 hy2
  refine wp_region_meekT [Stay.val (.agg (S.vals (.slice A1 S.grid.length k1) (.slice A2 S.kept.length k2))), Stay.val (.string s), Stay.ck T, Stay.val (.agg (M.vals (.slice A3 M.rows.length k3) (.slice A4 M.kept.length k4))), Stay.val (.string s), Stay.rv N] 6 93 rfl (by kernel_rfl) (by kernel_rfl) ?_ ?_
  · refine ⟨meek_plain rfl (body_load _ _ _ _ rfl (opd_out 11 (by kernel_rfl) _ rfl) fun w' h => ⟨load_scr (hLs w' h), rfl⟩), ?_⟩
    refine ⟨meek_plain rfl (body_move _ rfl (opd_out 1 (by kernel_rfl) _ rfl)), ?_⟩
    refine ⟨meek_plain rfl (body_call2 _ _ _ _ _ _ rfl (by kernel_rfl) (opd_in 0 33 (by kernel_rfl)) (opd_in 1 34 (by kernel_rfl)) fun v u w' h hv hu => ?_), ?_⟩
    · obtain rfl := hv
      obtain rfl := hu
      refine (write_walk _ S s _ (HV2.out.next h).cv HO.out (by omega)).mono ?_
      rintro e w9 ⟨v9, rfl, hc9, hb9⟩
      exact ⟨_, rfl, hb9, by rw [HTq.out]; exact hc9⟩
    refine ⟨meek_plain rfl (body_load _ _ _ _ rfl (opd_out 12 (by kernel_rfl) _ rfl) fun w' h => ⟨load_ref (hLm w' h), rfl⟩), ?_⟩
    refine ⟨meek_plain rfl (body_move _ rfl (opd_out 1 (by kernel_rfl) _ rfl)), ?_⟩
    refine ⟨meek_plain rfl (body_call2 _ _ _ _ _ _ rfl (by kernel_rfl) (opd_in 3 36 (by kernel_rfl)) (opd_in 4 37 (by kernel_rfl)) fun v u w' h hv hu => ?_), ?_⟩
    · obtain rfl := hv
      obtain rfl := hu
      refine (rwrite_walk _ M s _ (HU2.out.next h) HOM.out (by rw [HMA.out]; simp; omega)).mono ?_
      rintro e w9 ⟨v9, rfl, hc9, hb9⟩
      exact ⟨_, rfl, hb9, by rw [HNq.out]; exact hc9⟩
    exact trivial
  · intro g w3 h3 hend
    have hck3 : CK w3 (g 35) T := meek_val hend 2 35 (by kernel_rfl) _ rfl
    have hrv3 : RV w3 (g 38) N := meek_val hend 5 38 (by kernel_rfl) _ rfl
    have hx3 := hLs w3 h3
    have hy3 := hLm w3 h3
    have HV3 := Lib.hid hck3; have HU3 := Lib.hid hrv3
    have HB3 : Hid (Below w.heap.size w w3) := below_next HB2.out h3
    have HX3 := Lib.hid hx3; have HY3 := Lib.hid hy3
    obtain ⟨A5, k5, A6, k6, e35⟩ := hck3.form
    obtain ⟨vr, vk', e38, h21, h22⟩ := hrv3
    have h25 := h21.1; have h26 := h22.1
    obtain ⟨-, A7, k7, rfl, -, -, -, -⟩ := h25
    obtain ⟨-, A8, k8, rfl, -, -, -, -⟩ := h26
    clear hend hck3 hLs hLm h21 h22 h3
    simp only [putAll, Act.put, List.take_succ_cons, List.take_zero, List.drop_succ_cons, List.drop_zero, List.setIfInBounds_toArray, List.set_cons_succ, List.set_cons_zero, e35, e38]
    rw [Scr.vals_eq T, Ref.vals_eq N]
    generalize g 33 = z33
    generalize g 34 = z34
    generalize g 36 = z36
    generalize g 37 = z37
    have g0 : w3.cell? ⟨b7, 0, none⟩ = some (.int .i64 S.cols) := cell_of_row _ _ _ _ _ _ hx3
    have g1 : w3.cell? ⟨b7, 1, none⟩ = some (.int .i64 S.rows) := cell_of_row _ _ _ _ _ _ hx3
    have g2 : w3.cell? ⟨b7, 2, none⟩ = some (.int .i64 S.most) := cell_of_row _ _ _ _ _ _ hx3
    have g3 : w3.cell? ⟨b7, 3, none⟩ = some (.int .i64 S.x) := cell_of_row _ _ _ _ _ _ hx3
    have g4 : w3.cell? ⟨b7, 4, none⟩ = some (.int .i64 S.y) := cell_of_row _ _ _ _ _ _ hx3
    have g5 : w3.cell? ⟨b7, 5, none⟩ = some (.slice A1 S.grid.length k1) := cell_of_row _ _ _ _ _ _ hx3
    have g6 : w3.cell? ⟨b7, 6, none⟩ = some (.slice A2 S.kept.length k2) := cell_of_row _ _ _ _ _ _ hx3
    have g7 : w3.cell? ⟨b7, 7, none⟩ = some (.int .i64 S.st) := cell_of_row _ _ _ _ _ _ hx3
    have g8 : w3.cell? ⟨b7, 8, none⟩ = some (.int .i64 S.n0) := cell_of_row _ _ _ _ _ _ hx3
    have g9 : w3.cell? ⟨b7, 9, none⟩ = some (.int .i64 S.n1) := cell_of_row _ _ _ _ _ _ hx3
    have g10 : w3.cell? ⟨b7, 10, none⟩ = some (.int .i64 S.num) := cell_of_row _ _ _ _ _ _ hx3
    have fu0 : w3.frozen? ⟨b7, 0, none⟩ = false := frozen_of_row _ _ _ _ _ hx3
    have fu1 : w3.frozen? ⟨b7, 1, none⟩ = false := frozen_of_row _ _ _ _ _ hx3
    have fu2 : w3.frozen? ⟨b7, 2, none⟩ = false := frozen_of_row _ _ _ _ _ hx3
    have fu3 : w3.frozen? ⟨b7, 3, none⟩ = false := frozen_of_row _ _ _ _ _ hx3
    have fu4 : w3.frozen? ⟨b7, 4, none⟩ = false := frozen_of_row _ _ _ _ _ hx3
    have fu5 : w3.frozen? ⟨b7, 5, none⟩ = false := frozen_of_row _ _ _ _ _ hx3
    have fu6 : w3.frozen? ⟨b7, 6, none⟩ = false := frozen_of_row _ _ _ _ _ hx3
    have fu7 : w3.frozen? ⟨b7, 7, none⟩ = false := frozen_of_row _ _ _ _ _ hx3
    have fu8 : w3.frozen? ⟨b7, 8, none⟩ = false := frozen_of_row _ _ _ _ _ hx3
    have fu9 : w3.frozen? ⟨b7, 9, none⟩ = false := frozen_of_row _ _ _ _ _ hx3
    have fu10 : w3.frozen? ⟨b7, 10, none⟩ = false := frozen_of_row _ _ _ _ _ hx3
    have o0 : w3.cell? ⟨b7 + 1, 0, none⟩ = some (.int .i64 M.w) := cell_of_row _ _ _ _ _ _ hy3
    have o1 : w3.cell? ⟨b7 + 1, 1, none⟩ = some (.int .i64 M.h) := cell_of_row _ _ _ _ _ _ hy3
    have o2 : w3.cell? ⟨b7 + 1, 2, none⟩ = some (.int .i64 M.most) := cell_of_row _ _ _ _ _ _ hy3
    have o3 : w3.cell? ⟨b7 + 1, 3, none⟩ = some (.slice A3 M.rows.length k3) := cell_of_row _ _ _ _ _ _ hy3
    have o4 : w3.cell? ⟨b7 + 1, 4, none⟩ = some (.slice A4 M.kept.length k4) := cell_of_row _ _ _ _ _ _ hy3
    have o5 : w3.cell? ⟨b7 + 1, 5, none⟩ = some (.int .i64 M.x) := cell_of_row _ _ _ _ _ _ hy3
    have o6 : w3.cell? ⟨b7 + 1, 6, none⟩ = some (.int .i64 M.y) := cell_of_row _ _ _ _ _ _ hy3
    have o7 : w3.cell? ⟨b7 + 1, 7, none⟩ = some (.int .i64 M.begun) := cell_of_row _ _ _ _ _ _ hy3
    have o8 : w3.cell? ⟨b7 + 1, 8, none⟩ = some (.string (bs M.args)) := cell_of_row _ _ _ _ _ _ hy3
    have u0 : w3.frozen? ⟨b7 + 1, 0, none⟩ = false := frozen_of_row _ _ _ _ _ hy3
    have u1 : w3.frozen? ⟨b7 + 1, 1, none⟩ = false := frozen_of_row _ _ _ _ _ hy3
    have u2 : w3.frozen? ⟨b7 + 1, 2, none⟩ = false := frozen_of_row _ _ _ _ _ hy3
    have u3 : w3.frozen? ⟨b7 + 1, 3, none⟩ = false := frozen_of_row _ _ _ _ _ hy3
    have u4 : w3.frozen? ⟨b7 + 1, 4, none⟩ = false := frozen_of_row _ _ _ _ _ hy3
    have u5 : w3.frozen? ⟨b7 + 1, 5, none⟩ = false := frozen_of_row _ _ _ _ _ hy3
    have u6 : w3.frozen? ⟨b7 + 1, 6, none⟩ = false := frozen_of_row _ _ _ _ _ hy3
    have u7 : w3.frozen? ⟨b7 + 1, 7, none⟩ = false := frozen_of_row _ _ _ _ _ hy3
    have u8 : w3.frozen? ⟨b7 + 1, 8, none⟩ = false := frozen_of_row _ _ _ _ _ hy3
    have hs3 : b7 + 1 < w3.heap.size := block_lt hy3
    rw [e35] at HV3
    rw [e38] at HU3
    clear hx3 hy3 e35 e38
    go_upto_region 7 with fail
    obtain ⟨w5, hw5, hx5, hy5, hc5, hr5, hB5⟩ := two_stored HX3.out HY3.out HV3.out HU3.out HB3.out hcap
    have HX5 := Lib.hid hx5; have HY5 := Lib.hid hy5; have HV5 := Lib.hid hc5; have HU5 := Lib.hid hr5; have HB5 := Lib.hid hB5
    change Code.wp _ _ _ _ ((w3.setCells b7 0 (T.vals (.slice A5 T.grid.length k5) (.slice A6 T.kept.length k6)).toList).setCells (b7 + 1) 0 (N.vals (.slice A7 N.rows.length k7) (.slice A8 N.kept.length k8)).toList)
    rw [← hw5]
    clear hw5 hc5 hr5 hB5 HX3 HY3 HV3 HU3 HB3 hs3
    have g0 : w5.cell? ⟨b7, 0, none⟩ = some (.int .i64 T.cols) := cell_of_row _ _ _ _ _ _ hx5
    have g1 : w5.cell? ⟨b7, 1, none⟩ = some (.int .i64 T.rows) := cell_of_row _ _ _ _ _ _ hx5
    have g2 : w5.cell? ⟨b7, 2, none⟩ = some (.int .i64 T.most) := cell_of_row _ _ _ _ _ _ hx5
    have g3 : w5.cell? ⟨b7, 3, none⟩ = some (.int .i64 T.x) := cell_of_row _ _ _ _ _ _ hx5
    have g4 : w5.cell? ⟨b7, 4, none⟩ = some (.int .i64 T.y) := cell_of_row _ _ _ _ _ _ hx5
    have g5 : w5.cell? ⟨b7, 5, none⟩ = some (.slice A5 T.grid.length k5) := cell_of_row _ _ _ _ _ _ hx5
    have g6 : w5.cell? ⟨b7, 6, none⟩ = some (.slice A6 T.kept.length k6) := cell_of_row _ _ _ _ _ _ hx5
    have g7 : w5.cell? ⟨b7, 7, none⟩ = some (.int .i64 T.st) := cell_of_row _ _ _ _ _ _ hx5
    have g8 : w5.cell? ⟨b7, 8, none⟩ = some (.int .i64 T.n0) := cell_of_row _ _ _ _ _ _ hx5
    have g9 : w5.cell? ⟨b7, 9, none⟩ = some (.int .i64 T.n1) := cell_of_row _ _ _ _ _ _ hx5
    have g10 : w5.cell? ⟨b7, 10, none⟩ = some (.int .i64 T.num) := cell_of_row _ _ _ _ _ _ hx5
    clear hx5 hy5
    go_wp2_with fail
    refine (resize_yes _ T c r _ HV5.out.cv HOT.out q1 q2 q3 q4).mono ?_
    rintro e w6 ⟨v6, rfl, hck6, hb6⟩
    clear g0 g1 g2 g3 g4 g5 g6 g7 g8 g9 g10
    obtain ⟨R, hR⟩ : ∃ R : Scr, R = T.resize c r := ⟨_, rfl⟩
    rw [← hR] at hck6
    have HRq := Lib.hid hR
    have HV6 := Lib.hid hck6
    have HX6 := Lib.hid ((hb6.block _ (block_lt HX5.out)).trans HX5.out)
    have hy6 := (hb6.block _ (block_lt HY5.out)).trans HY5.out
    have HU6 := Lib.hid (HU5.out.next hb6)
    have HB6 : Hid (Below w.heap.size w w6) := below_next HB5.out hb6
    obtain ⟨A9, k9, A10, k10, rfl⟩ := hck6.form
    clear hck6 hb6 HX5 HY5 HV5 HU5 HB5 hR
    rw [Scr.vals_eq R]
    go_upto_region 8 with fail
    obtain ⟨w7, hw7⟩ : ∃ w7, w7 = w6.alloc (.cells (R.vals (.slice A9 R.grid.length k9) (.slice A10 R.kept.length k10)) 29) := ⟨_, rfl⟩
    have hb7 : Below w6.heap.size w6 w7 := by rw [hw7]; exact (Below.refl _ _).alloc (Nat.le_refl _) _
    have HX7 : Hid (w7.heap[w6.heap.size]? = some (.cells (R.vals (.slice A9 R.grid.length k9) (.slice A10 R.kept.length k10)) 29 (0, 0))) := by rw [hw7]; exact Lib.hid (heap_alloc_new _ _)
    have hy7 := (hb7.block _ (block_lt hy6)).trans hy6
    have HY7 := Lib.hid hy7
    have hne : Hid (w6.heap.size ≠ b7 + 1) := by have := block_lt hy6; exact Lib.hid (by omega)
    have HV7 := Lib.hid (HV6.out.next hb7)
    have HU7 := Lib.hid (HU6.out.next hb7)
    have HB7 : Hid (Below w.heap.size w w7) := below_next HB6.out hb7
    rw [Scr.vals_eq R] at hw7
    rw [← hw7]
    obtain ⟨b9, hb9⟩ : ∃ b9, b9 = w6.heap.size := ⟨_, rfl⟩
    rw [← hb9] at HX7 hne ⊢
    clear hw7 hb7 HX6 HV6 HU6 HB6 hb9 hy6
    have o0 : w7.cell? ⟨b7 + 1, 0, none⟩ = some (.int .i64 N.w) := cell_of_row _ _ _ _ _ _ hy7
    have o1 : w7.cell? ⟨b7 + 1, 1, none⟩ = some (.int .i64 N.h) := cell_of_row _ _ _ _ _ _ hy7
    have o2 : w7.cell? ⟨b7 + 1, 2, none⟩ = some (.int .i64 N.most) := cell_of_row _ _ _ _ _ _ hy7
    have o3 : w7.cell? ⟨b7 + 1, 3, none⟩ = some (.slice A7 N.rows.length k7) := cell_of_row _ _ _ _ _ _ hy7
    have o4 : w7.cell? ⟨b7 + 1, 4, none⟩ = some (.slice A8 N.kept.length k8) := cell_of_row _ _ _ _ _ _ hy7
    have o5 : w7.cell? ⟨b7 + 1, 5, none⟩ = some (.int .i64 N.x) := cell_of_row _ _ _ _ _ _ hy7
    have o6 : w7.cell? ⟨b7 + 1, 6, none⟩ = some (.int .i64 N.y) := cell_of_row _ _ _ _ _ _ hy7
    have o7 : w7.cell? ⟨b7 + 1, 7, none⟩ = some (.int .i64 N.begun) := cell_of_row _ _ _ _ _ _ hy7
    have o8 : w7.cell? ⟨b7 + 1, 8, none⟩ = some (.string (bs N.args)) := cell_of_row _ _ _ _ _ _ hy7
    have u0 : w7.frozen? ⟨b7 + 1, 0, none⟩ = false := frozen_of_row _ _ _ _ _ hy7
    have u1 : w7.frozen? ⟨b7 + 1, 1, none⟩ = false := frozen_of_row _ _ _ _ _ hy7
    have u2 : w7.frozen? ⟨b7 + 1, 2, none⟩ = false := frozen_of_row _ _ _ _ _ hy7
    have u3 : w7.frozen? ⟨b7 + 1, 3, none⟩ = false := frozen_of_row _ _ _ _ _ hy7
    have u4 : w7.frozen? ⟨b7 + 1, 4, none⟩ = false := frozen_of_row _ _ _ _ _ hy7
    have u5 : w7.frozen? ⟨b7 + 1, 5, none⟩ = false := frozen_of_row _ _ _ _ _ hy7
    have u6 : w7.frozen? ⟨b7 + 1, 6, none⟩ = false := frozen_of_row _ _ _ _ _ hy7
    have u7 : w7.frozen? ⟨b7 + 1, 7, none⟩ = false := frozen_of_row _ _ _ _ _ hy7
    have u8 : w7.frozen? ⟨b7 + 1, 8, none⟩ = false := frozen_of_row _ _ _ _ _ hy7
    clear hy7
    go_wp2_with fail
    refine (rresize_walk _ N c r _ HU7.out HON.out q1 q2 q3 q4).mono ?_
    rintro e w8 ⟨v8, rfl, hrv8, hb8⟩
    clear o0 o1 o2 o3 o4 o5 o6 o7 o8 u0 u1 u2 u3 u4 u5 u6 u7 u8
    obtain ⟨Q, hQ⟩ : ∃ Q : Ref, Q = N.resize c r := ⟨_, rfl⟩
    rw [← hQ] at hrv8
    have HOR : Hid R.Ok := by rw [HRq.out]; exact HOT.out.resize c r q1 q2 q3 q4
    have HOQ : Hid Q.Ok := by rw [hQ]; exact HON.out.resize c r q1 q2 q3 q4
    have HSR : Hid (Sim R Q) := by rw [HRq.out, hQ]; exact HSI.out.resize HON.out c r q1 q3
    have HQA : Hid (Q.args.length ≤ 300) := by rw [hQ]; show (Ref.leaves (N.y + 1 - r) N).args.length ≤ 300; rw [(rleaves_as N HON.out.k (N.y + 1 - r)).a]; exact HNA.out
    have HU8 := Lib.hid hrv8
    have HX8 := Lib.hid ((hb8.block _ (block_lt HX7.out)).trans HX7.out)
    have hy8 := (hb8.block _ (block_lt HY7.out)).trans HY7.out
    have HY8 := Lib.hid hy8
    have HV8 := Lib.hid (HV7.out.next hb8)
    have HB8 : Hid (Below w.heap.size w w8) := below_next HB7.out hb8
    obtain ⟨vr, vk', rfl, h21, h22⟩ := hrv8
    have h25 := h21.1; have h26 := h22.1
    obtain ⟨-, A11, k11, rfl, -, -, -, -⟩ := h25
    obtain ⟨-, A12, k12, rfl, -, -, -, -⟩ := h26
    clear h21 h22 hb8 HX7 HY7 HV7 HU7 HB7 hQ
    rw [Ref.vals_eq Q]
    have o0 : w8.cell? ⟨b7 + 1, 0, none⟩ = some (.int .i64 N.w) := cell_of_row _ _ _ _ _ _ hy8
    have o1 : w8.cell? ⟨b7 + 1, 1, none⟩ = some (.int .i64 N.h) := cell_of_row _ _ _ _ _ _ hy8
    have o2 : w8.cell? ⟨b7 + 1, 2, none⟩ = some (.int .i64 N.most) := cell_of_row _ _ _ _ _ _ hy8
    have o3 : w8.cell? ⟨b7 + 1, 3, none⟩ = some (.slice A7 N.rows.length k7) := cell_of_row _ _ _ _ _ _ hy8
    have o4 : w8.cell? ⟨b7 + 1, 4, none⟩ = some (.slice A8 N.kept.length k8) := cell_of_row _ _ _ _ _ _ hy8
    have o5 : w8.cell? ⟨b7 + 1, 5, none⟩ = some (.int .i64 N.x) := cell_of_row _ _ _ _ _ _ hy8
    have o6 : w8.cell? ⟨b7 + 1, 6, none⟩ = some (.int .i64 N.y) := cell_of_row _ _ _ _ _ _ hy8
    have o7 : w8.cell? ⟨b7 + 1, 7, none⟩ = some (.int .i64 N.begun) := cell_of_row _ _ _ _ _ _ hy8
    have o8 : w8.cell? ⟨b7 + 1, 8, none⟩ = some (.string (bs N.args)) := cell_of_row _ _ _ _ _ _ hy8
    have u0 : w8.frozen? ⟨b7 + 1, 0, none⟩ = false := frozen_of_row _ _ _ _ _ hy8
    have u1 : w8.frozen? ⟨b7 + 1, 1, none⟩ = false := frozen_of_row _ _ _ _ _ hy8
    have u2 : w8.frozen? ⟨b7 + 1, 2, none⟩ = false := frozen_of_row _ _ _ _ _ hy8
    have u3 : w8.frozen? ⟨b7 + 1, 3, none⟩ = false := frozen_of_row _ _ _ _ _ hy8
    have u4 : w8.frozen? ⟨b7 + 1, 4, none⟩ = false := frozen_of_row _ _ _ _ _ hy8
    have u5 : w8.frozen? ⟨b7 + 1, 5, none⟩ = false := frozen_of_row _ _ _ _ _ hy8
    have u6 : w8.frozen? ⟨b7 + 1, 6, none⟩ = false := frozen_of_row _ _ _ _ _ hy8
    have u7 : w8.frozen? ⟨b7 + 1, 7, none⟩ = false := frozen_of_row _ _ _ _ _ hy8
    have u8 : w8.frozen? ⟨b7 + 1, 8, none⟩ = false := frozen_of_row _ _ _ _ _ hy8
    clear hy8
    go_upto_region 11 with fail
    obtain ⟨w9, hw9, hx9, hy9, hc9, hr9, hB9⟩ := ref_stored HX8.out HY8.out hne.out HV8.out HU8.out HB8.out (by omega)
    change Code.wp _ _ _ _ (w8.setCells (b7 + 1) 0 (Q.vals (.slice A11 Q.rows.length k11) (.slice A12 Q.kept.length k12)).toList)
    rw [← hw9]
    have HV := Lib.hid hc9; have HU := Lib.hid hr9; have HB := Lib.hid hB9
    have HE := Lib.hid (HSR.out.eqv HOQ.out)
    have HOZ := Lib.hid (HOR.out.bytes t.data.toList)
    have HOY := Lib.hid (HOQ.out.bytes t.data.toList)
    have HEZ := Lib.hid ((HSR.out.bytes HOQ.out t.data.toList).eqv HOY.out)
    have hLs : ∀ w', Later w9 w' → w'.heap[b9]? = some (.cells (R.vals (.slice A9 R.grid.length k9) (.slice A10 R.kept.length k10)) 29 (0, 0)) := fun w' h => (h.block _ (block_lt hx9)).trans hx9
    have hLm : ∀ w', Later w9 w' → w'.heap[b7 + 1]? = some (.cells (Q.vals (.slice A11 Q.rows.length k11) (.slice A12 Q.kept.length k12)) 31 (0, 0)) := fun w' h => (h.block _ (block_lt hy9)).trans hy9
    clear hw9 hx9 hy9 hc9 hr9 hB9 HX8 HY8 HV8 HU8 HB8 o0 o1 o2 o3 o4 o5 o6 o7 o8 u0 u1 u2 u3 u4 u5 u6 u7 u8
    refine wp_region_meek [Stay.val (.int .i64 0), Stay.val (.bool true), Stay.val (.bool true), Stay.val (.agg (R.vals (.slice A9 R.grid.length k9) (.slice A10 R.kept.length k10))), Stay.val (.agg (Q.vals (.slice A11 Q.rows.length k11) (.slice A12 Q.kept.length k12))), Stay.val (.bool true), Stay.val (.bool true), Stay.val (.bool true), Stay.val (.agg (R.vals (.slice A9 R.grid.length k9) (.slice A10 R.kept.length k10))), Stay.val (.string t), Stay.ck (R.bytes t.data.toList), Stay.val (.agg (Q.vals (.slice A11 Q.rows.length k11) (.slice A12 Q.kept.length k12))), Stay.val (.string t), Stay.rv (Q.bytes t.data.toList), Stay.val (.bool true), Stay.val (.bool true), Stay.val (.bool true), Stay.val (.bool true), Stay.val (.bool true), Stay.val (.bool true)] 93 rfl (by kernel_rfl) (by kernel_rfl) ?_ ?_
    · refine ⟨meek_plain rfl (body_move _ rfl (opd_out 15 (by kernel_rfl) _ rfl)), ?_⟩
      refine ⟨meek_plain rfl (body_two _ _ _ _ (.bool true) (opd_in 0 74 (by kernel_rfl)) (opd_const (.int .i64 0)) (fun _ => rfl) fun ρ w h1 h2 => (by simp [execOp, h1, h2, go_sem])), ?_⟩
      refine ⟨meek_plain rfl (body_move _ rfl (opd_in 1 75 (by kernel_rfl))), ?_⟩
      refine ⟨meek_on 2 true 93 rfl (by kernel_rfl) (fun _ _ h => h) (body_load _ _ _ _ rfl (opd_out 14 (by kernel_rfl) _ rfl) fun w' h => ⟨load_scr (hLs w' h), rfl⟩), ?_⟩
      refine ⟨meek_on 2 true 93 rfl (by kernel_rfl) (fun _ _ h => h) (body_load _ _ _ _ rfl (opd_out 12 (by kernel_rfl) _ rfl) fun w' h => ⟨load_ref (hLm w' h), rfl⟩), ?_⟩
      refine ⟨meek_on 2 true 93 rfl (by kernel_rfl) (fun _ _ h => h) (body_call2 _ _ _ _ _ _ rfl (by kernel_rfl) (opd_in 3 77 (by kernel_rfl)) (opd_in 4 78 (by kernel_rfl)) fun v u w' h hv hu => ?_), ?_⟩
      · obtain rfl := hv
        obtain rfl := hu
        refine (same_yes _ _ R Q _ (HV.out.next h).cv (HU.out.next h) HOR.out HOQ.out HE.out).mono ?_
        rintro e w9 ⟨rfl, hb9⟩
        exact ⟨_, rfl, hb9, rfl⟩
      refine ⟨meek_plain rfl (body_pick _ _ _ true rfl (opd_in 2 76 (by kernel_rfl)) (opd_in 5 79 (by kernel_rfl))), ?_⟩
      refine ⟨meek_plain rfl (body_move _ rfl (opd_in 6 80 (by kernel_rfl))), ?_⟩
      refine ⟨meek_on 7 true 93 rfl (by kernel_rfl) (fun _ _ h => h) (body_load _ _ _ _ rfl (opd_out 14 (by kernel_rfl) _ rfl) fun w' h => ⟨load_scr (hLs w' h), rfl⟩), ?_⟩
      refine ⟨meek_on 7 true 93 rfl (by kernel_rfl) (fun _ _ h => h) (body_move _ rfl (opd_out 2 (by kernel_rfl) _ rfl)), ?_⟩
      refine ⟨meek_on 7 true 93 rfl (by kernel_rfl) (fun _ _ h => h) (body_call2 _ _ _ _ _ _ rfl (by kernel_rfl) (opd_in 8 82 (by kernel_rfl)) (opd_in 9 83 (by kernel_rfl)) fun v u w' h hv hu => ?_), ?_⟩
      · obtain rfl := hv
        obtain rfl := hu
        refine (write_walk _ R t _ (HV.out.next h).cv HOR.out (by omega)).mono ?_
        rintro e w9 ⟨v9, rfl, hc9, hb9⟩
        exact ⟨_, rfl, hb9, hc9⟩
      refine ⟨meek_on 7 true 93 rfl (by kernel_rfl) (fun _ _ h => h) (body_load _ _ _ _ rfl (opd_out 12 (by kernel_rfl) _ rfl) fun w' h => ⟨load_ref (hLm w' h), rfl⟩), ?_⟩
      refine ⟨meek_on 7 true 93 rfl (by kernel_rfl) (fun _ _ h => h) (body_move _ rfl (opd_out 2 (by kernel_rfl) _ rfl)), ?_⟩
      refine ⟨meek_on 7 true 93 rfl (by kernel_rfl) (fun _ _ h => h) (body_call2 _ _ _ _ _ _ rfl (by kernel_rfl) (opd_in 11 85 (by kernel_rfl)) (opd_in 12 86 (by kernel_rfl)) fun v u w' h hv hu => ?_), ?_⟩
      · obtain rfl := hv
        obtain rfl := hu
        refine (rwrite_walk _ Q t _ (HU.out.next h) HOQ.out (by have := HQA.out; omega)).mono ?_
        rintro e w9 ⟨v9, rfl, hc9, hb9⟩
        exact ⟨_, rfl, hb9, hc9⟩
      refine ⟨meek_on 7 true 93 rfl (by kernel_rfl) (fun _ _ h => h) (body_call2 _ _ _ _ _ _ rfl (by kernel_rfl) (opd_in 10 84 (by kernel_rfl)) (opd_in 13 87 (by kernel_rfl)) fun v u w' h hv hu => ?_), ?_⟩
      · refine (same_yes _ _ (R.bytes t.data.toList) (Q.bytes t.data.toList) _ (CK.cv hv) hu HOZ.out HOY.out HEZ.out).mono ?_
        rintro e w9 ⟨rfl, hb9⟩
        exact ⟨_, rfl, hb9, rfl⟩
      refine ⟨meek_plain rfl (body_pick _ _ _ true rfl (opd_in 7 81 (by kernel_rfl)) (opd_in 14 88 (by kernel_rfl))), ?_⟩
      refine ⟨meek_plain rfl (body_move _ rfl (opd_in 15 89 (by kernel_rfl))), ?_⟩
      refine ⟨meek_on 16 true 93 rfl (by kernel_rfl) (fun _ _ h => h) (body_call0 _ _ rfl (by kernel_rfl)  fun  w' h  => ?_), ?_⟩
      · refine (awake_walk w').mono ?_
        rintro e w9 ⟨rfl, hb9⟩
        exact ⟨_, rfl, hb9, rfl⟩
      refine ⟨meek_plain rfl (body_pick _ _ _ true rfl (opd_in 16 90 (by kernel_rfl)) (opd_in 17 91 (by kernel_rfl))), ?_⟩
      refine ⟨meek_plain rfl (body_assign _ rfl (opd_in 18 92 (by kernel_rfl))), ?_⟩
      exact trivial
    · intro g w12 h12 hend
      have e6 : g 10 = .bool true := meek_val hend 19 10 (by kernel_rfl) _ rfl
      clear hend
      simp only [putAll, Act.put, List.setIfInBounds_toArray, List.set_cons_succ, List.set_cons_zero, e6]
      clear e6
      go_wp2_with fail
      go_ret
      exact ⟨rfl, below_next HB.out h12⟩

set_option maxRecDepth 100000 in
set_option maxHeartbeats 1600000 in
theorem sizes_no0 (a b k : Nat) (c r : Int) (s t : ByteArray) (w : World) (ha : a < 256) (hb : b < 256) (hk : k < 256) (hs : s.size ≤ 300) (ht : t.size ≤ 300) (hf : fitsB c r = false) (hq1 : decide ((c : Int) < 1) = true) :
    Calls Tryd.prog 6 #[.agg #[.int .u8 a, .int .u8 b, .int .u8 k], .string s, .string t, .int .i64 c, .int .i64 r] w (ValPost w (.bool true)) := by
  have hd : decide ((s.size : Int) > 300) = false := by simp; omega
  have hd2 : decide ((t.size : Int) > 300) = false := by simp; omega
  go_enter Tryd.func6, Tryd.ntmps6
  go_wp2_with fail
  refine (made_walk a b k _ ha hb hk).mono ?_
  rintro e w1 ⟨v1, u1, rfl, hck, hrv, hb1⟩
  have hok := newScr_ok (1 + a % 20) (1 + b % 8) (k % 12) (by omega) (by omega) (by omega) (by omega) (by omega)
  have hom := newRef_ok (1 + a % 20) (1 + b % 8) (k % 12) (by omega) (by omega) (by omega) (by omega) (by omega)
  have hsim := sim_new (1 + a % 20) (1 + b % 8) (k % 12)
  obtain ⟨S, hS⟩ : ∃ S : Scr, S = newScr (1 + a % 20) (1 + b % 8) (k % 12) := ⟨_, rfl⟩
  obtain ⟨M, hM⟩ : ∃ M : Ref, M = newRef (1 + a % 20) (1 + b % 8) (k % 12) := ⟨_, rfl⟩
  have HMA : Hid (M.args = []) := by rw [hM]; exact Lib.hid rfl
  rw [← hS] at hck hok hsim
  rw [← hM] at hrv hom hsim
  have HV1 := Lib.hid hck; have HO := Lib.hid hok; have HOM := Lib.hid hom; have HU1 := Lib.hid hrv
  obtain ⟨T, hT⟩ : ∃ T : Scr, T = S.bytes s.data.toList := ⟨_, rfl⟩
  obtain ⟨N, hN⟩ : ∃ N : Ref, N = M.bytes s.data.toList := ⟨_, rfl⟩
  have HOT : Hid T.Ok := by rw [hT]; exact hok.bytes _
  have HON : Hid N.Ok := by rw [hN]; exact hom.bytes _
  have HSI : Hid (Sim T N) := by rw [hT, hN]; exact hsim.bytes hom _
  have HNA : Hid (N.args.length ≤ 300) := by rw [hN]; refine Nat.le_trans (bytes_args _ _) ?_; rw [HMA.out]; simp; omega
  have HTq := Lib.hid hT; have HNq := Lib.hid hN
  have HB1 : Hid (Below w.heap.size w w1) := below_next ((Below.refl _ _).alloc (Nat.le_refl _) _) hb1
  obtain ⟨A1, k1, A2, k2, rfl⟩ := hck.form
  obtain ⟨vr, vk', rfl, h21, h22⟩ := hrv
  have h25 := h21.1; have h26 := h22.1
  obtain ⟨-, A3, k3, rfl, -, -, -, -⟩ := h25
  obtain ⟨-, A4, k4, rfl, -, -, -, -⟩ := h26
  clear hck h21 h22 hok hom hsim hb1 hS hM hT hN
  rw [Scr.vals_eq S, Ref.vals_eq M]
  go_upto_region 6 with fail
  obtain ⟨w2, hw2⟩ : ∃ w2, w2 = (w1.alloc (.cells (S.vals (.slice A1 S.grid.length k1) (.slice A2 S.kept.length k2)) 29)).alloc (.cells (M.vals (.slice A3 M.rows.length k3) (.slice A4 M.kept.length k4)) 31) := ⟨_, rfl⟩
  have hb12 : Below w1.heap.size w1 w2 := by rw [hw2]; exact below_alloc2 _ _ _
  have hx2 : w2.heap[w1.heap.size]? = some (.cells (S.vals (.slice A1 S.grid.length k1) (.slice A2 S.kept.length k2)) 29 (0, 0)) := by rw [hw2]; exact alloc2_fst _ _ _
  have hy2 : w2.heap[w1.heap.size + 1]? = some (.cells (M.vals (.slice A3 M.rows.length k3) (.slice A4 M.kept.length k4)) 31 (0, 0)) := by rw [hw2]; exact alloc2_snd _ _ _
  have HV2 := Lib.hid (HV1.out.next hb12)
  have HU2 := Lib.hid (HU1.out.next hb12)
  have HB2 : Hid (Below w.heap.size w w2) := below_next HB1.out hb12
  have hcap : w.heap.size ≤ w1.heap.size := HB1.out.size
  rw [Scr.vals_eq S, Ref.vals_eq M] at hw2
  rw [← hw2]
  obtain ⟨b7, hb7⟩ : ∃ b7, b7 = w1.heap.size := ⟨_, rfl⟩
  rw [← hb7] at hx2 hy2 hcap ⊢
  have hLs : ∀ w', Later w2 w' → w'.heap[b7]? = some (.cells (S.vals (.slice A1 S.grid.length k1) (.slice A2 S.kept.length k2)) 29 (0, 0)) := fun w' h => (h.block _ (block_lt hx2)).trans hx2
  have hLm : ∀ w', Later w2 w' → w'.heap[b7 + 1]? = some (.cells (M.vals (.slice A3 M.rows.length k3) (.slice A4 M.kept.length k4)) 31 (0, 0)) := fun w' h => (h.block _ (block_lt hy2)).trans hy2
  clear hw2 hb12 HV1 HU1 HB1 hb7 hx2 hy2
  refine wp_region_meekT [Stay.val (.agg (S.vals (.slice A1 S.grid.length k1) (.slice A2 S.kept.length k2))), Stay.val (.string s), Stay.ck T, Stay.val (.agg (M.vals (.slice A3 M.rows.length k3) (.slice A4 M.kept.length k4))), Stay.val (.string s), Stay.rv N] 6 93 rfl (by kernel_rfl) (by kernel_rfl) ?_ ?_
  · refine ⟨meek_plain rfl (body_load _ _ _ _ rfl (opd_out 11 (by kernel_rfl) _ rfl) fun w' h => ⟨load_scr (hLs w' h), rfl⟩), ?_⟩
    refine ⟨meek_plain rfl (body_move _ rfl (opd_out 1 (by kernel_rfl) _ rfl)), ?_⟩
    refine ⟨meek_plain rfl (body_call2 _ _ _ _ _ _ rfl (by kernel_rfl) (opd_in 0 33 (by kernel_rfl)) (opd_in 1 34 (by kernel_rfl)) fun v u w' h hv hu => ?_), ?_⟩
    · obtain rfl := hv
      obtain rfl := hu
      refine (write_walk _ S s _ (HV2.out.next h).cv HO.out (by omega)).mono ?_
      rintro e w9 ⟨v9, rfl, hc9, hb9⟩
      exact ⟨_, rfl, hb9, by rw [HTq.out]; exact hc9⟩
    refine ⟨meek_plain rfl (body_load _ _ _ _ rfl (opd_out 12 (by kernel_rfl) _ rfl) fun w' h => ⟨load_ref (hLm w' h), rfl⟩), ?_⟩
    refine ⟨meek_plain rfl (body_move _ rfl (opd_out 1 (by kernel_rfl) _ rfl)), ?_⟩
    refine ⟨meek_plain rfl (body_call2 _ _ _ _ _ _ rfl (by kernel_rfl) (opd_in 3 36 (by kernel_rfl)) (opd_in 4 37 (by kernel_rfl)) fun v u w' h hv hu => ?_), ?_⟩
    · obtain rfl := hv
      obtain rfl := hu
      refine (rwrite_walk _ M s _ (HU2.out.next h) HOM.out (by rw [HMA.out]; simp; omega)).mono ?_
      rintro e w9 ⟨v9, rfl, hc9, hb9⟩
      exact ⟨_, rfl, hb9, by rw [HNq.out]; exact hc9⟩
    exact trivial
  · intro g w3 h3 hend
    have hck3 : CK w3 (g 35) T := meek_val hend 2 35 (by kernel_rfl) _ rfl
    have hrv3 : RV w3 (g 38) N := meek_val hend 5 38 (by kernel_rfl) _ rfl
    have hx3 := hLs w3 h3
    have hy3 := hLm w3 h3
    have HV3 := Lib.hid hck3; have HU3 := Lib.hid hrv3
    have HB3 : Hid (Below w.heap.size w w3) := below_next HB2.out h3
    have HX3 := Lib.hid hx3; have HY3 := Lib.hid hy3
    obtain ⟨A5, k5, A6, k6, e35⟩ := hck3.form
    obtain ⟨vr, vk', e38, h21, h22⟩ := hrv3
    have h25 := h21.1; have h26 := h22.1
    obtain ⟨-, A7, k7, rfl, -, -, -, -⟩ := h25
    obtain ⟨-, A8, k8, rfl, -, -, -, -⟩ := h26
    clear hend hck3 hLs hLm h21 h22 h3
    simp only [putAll, Act.put, List.take_succ_cons, List.take_zero, List.drop_succ_cons, List.drop_zero, List.setIfInBounds_toArray, List.set_cons_succ, List.set_cons_zero, e35, e38]
    rw [Scr.vals_eq T, Ref.vals_eq N]
    generalize g 33 = z33
    generalize g 34 = z34
    generalize g 36 = z36
    generalize g 37 = z37
    have g0 : w3.cell? ⟨b7, 0, none⟩ = some (.int .i64 S.cols) := cell_of_row _ _ _ _ _ _ hx3
    have g1 : w3.cell? ⟨b7, 1, none⟩ = some (.int .i64 S.rows) := cell_of_row _ _ _ _ _ _ hx3
    have g2 : w3.cell? ⟨b7, 2, none⟩ = some (.int .i64 S.most) := cell_of_row _ _ _ _ _ _ hx3
    have g3 : w3.cell? ⟨b7, 3, none⟩ = some (.int .i64 S.x) := cell_of_row _ _ _ _ _ _ hx3
    have g4 : w3.cell? ⟨b7, 4, none⟩ = some (.int .i64 S.y) := cell_of_row _ _ _ _ _ _ hx3
    have g5 : w3.cell? ⟨b7, 5, none⟩ = some (.slice A1 S.grid.length k1) := cell_of_row _ _ _ _ _ _ hx3
    have g6 : w3.cell? ⟨b7, 6, none⟩ = some (.slice A2 S.kept.length k2) := cell_of_row _ _ _ _ _ _ hx3
    have g7 : w3.cell? ⟨b7, 7, none⟩ = some (.int .i64 S.st) := cell_of_row _ _ _ _ _ _ hx3
    have g8 : w3.cell? ⟨b7, 8, none⟩ = some (.int .i64 S.n0) := cell_of_row _ _ _ _ _ _ hx3
    have g9 : w3.cell? ⟨b7, 9, none⟩ = some (.int .i64 S.n1) := cell_of_row _ _ _ _ _ _ hx3
    have g10 : w3.cell? ⟨b7, 10, none⟩ = some (.int .i64 S.num) := cell_of_row _ _ _ _ _ _ hx3
    have fu0 : w3.frozen? ⟨b7, 0, none⟩ = false := frozen_of_row _ _ _ _ _ hx3
    have fu1 : w3.frozen? ⟨b7, 1, none⟩ = false := frozen_of_row _ _ _ _ _ hx3
    have fu2 : w3.frozen? ⟨b7, 2, none⟩ = false := frozen_of_row _ _ _ _ _ hx3
    have fu3 : w3.frozen? ⟨b7, 3, none⟩ = false := frozen_of_row _ _ _ _ _ hx3
    have fu4 : w3.frozen? ⟨b7, 4, none⟩ = false := frozen_of_row _ _ _ _ _ hx3
    have fu5 : w3.frozen? ⟨b7, 5, none⟩ = false := frozen_of_row _ _ _ _ _ hx3
    have fu6 : w3.frozen? ⟨b7, 6, none⟩ = false := frozen_of_row _ _ _ _ _ hx3
    have fu7 : w3.frozen? ⟨b7, 7, none⟩ = false := frozen_of_row _ _ _ _ _ hx3
    have fu8 : w3.frozen? ⟨b7, 8, none⟩ = false := frozen_of_row _ _ _ _ _ hx3
    have fu9 : w3.frozen? ⟨b7, 9, none⟩ = false := frozen_of_row _ _ _ _ _ hx3
    have fu10 : w3.frozen? ⟨b7, 10, none⟩ = false := frozen_of_row _ _ _ _ _ hx3
    have o0 : w3.cell? ⟨b7 + 1, 0, none⟩ = some (.int .i64 M.w) := cell_of_row _ _ _ _ _ _ hy3
    have o1 : w3.cell? ⟨b7 + 1, 1, none⟩ = some (.int .i64 M.h) := cell_of_row _ _ _ _ _ _ hy3
    have o2 : w3.cell? ⟨b7 + 1, 2, none⟩ = some (.int .i64 M.most) := cell_of_row _ _ _ _ _ _ hy3
    have o3 : w3.cell? ⟨b7 + 1, 3, none⟩ = some (.slice A3 M.rows.length k3) := cell_of_row _ _ _ _ _ _ hy3
    have o4 : w3.cell? ⟨b7 + 1, 4, none⟩ = some (.slice A4 M.kept.length k4) := cell_of_row _ _ _ _ _ _ hy3
    have o5 : w3.cell? ⟨b7 + 1, 5, none⟩ = some (.int .i64 M.x) := cell_of_row _ _ _ _ _ _ hy3
    have o6 : w3.cell? ⟨b7 + 1, 6, none⟩ = some (.int .i64 M.y) := cell_of_row _ _ _ _ _ _ hy3
    have o7 : w3.cell? ⟨b7 + 1, 7, none⟩ = some (.int .i64 M.begun) := cell_of_row _ _ _ _ _ _ hy3
    have o8 : w3.cell? ⟨b7 + 1, 8, none⟩ = some (.string (bs M.args)) := cell_of_row _ _ _ _ _ _ hy3
    have u0 : w3.frozen? ⟨b7 + 1, 0, none⟩ = false := frozen_of_row _ _ _ _ _ hy3
    have u1 : w3.frozen? ⟨b7 + 1, 1, none⟩ = false := frozen_of_row _ _ _ _ _ hy3
    have u2 : w3.frozen? ⟨b7 + 1, 2, none⟩ = false := frozen_of_row _ _ _ _ _ hy3
    have u3 : w3.frozen? ⟨b7 + 1, 3, none⟩ = false := frozen_of_row _ _ _ _ _ hy3
    have u4 : w3.frozen? ⟨b7 + 1, 4, none⟩ = false := frozen_of_row _ _ _ _ _ hy3
    have u5 : w3.frozen? ⟨b7 + 1, 5, none⟩ = false := frozen_of_row _ _ _ _ _ hy3
    have u6 : w3.frozen? ⟨b7 + 1, 6, none⟩ = false := frozen_of_row _ _ _ _ _ hy3
    have u7 : w3.frozen? ⟨b7 + 1, 7, none⟩ = false := frozen_of_row _ _ _ _ _ hy3
    have u8 : w3.frozen? ⟨b7 + 1, 8, none⟩ = false := frozen_of_row _ _ _ _ _ hy3
    have hs3 : b7 + 1 < w3.heap.size := block_lt hy3
    rw [e35] at HV3
    rw [e38] at HU3
    clear hx3 hy3 e35 e38
    go_upto_region 7 with fail
    obtain ⟨w5, hw5, hx5, hy5, hc5, hr5, hB5⟩ := two_stored HX3.out HY3.out HV3.out HU3.out HB3.out hcap
    have HX5 := Lib.hid hx5; have HY5 := Lib.hid hy5; have HV5 := Lib.hid hc5; have HU5 := Lib.hid hr5; have HB5 := Lib.hid hB5
    change Code.wp _ _ _ _ ((w3.setCells b7 0 (T.vals (.slice A5 T.grid.length k5) (.slice A6 T.kept.length k6)).toList).setCells (b7 + 1) 0 (N.vals (.slice A7 N.rows.length k7) (.slice A8 N.kept.length k8)).toList)
    rw [← hw5]
    clear hw5 hc5 hr5 hB5 HX3 HY3 HV3 HU3 HB3 hs3
    have g0 : w5.cell? ⟨b7, 0, none⟩ = some (.int .i64 T.cols) := cell_of_row _ _ _ _ _ _ hx5
    have g1 : w5.cell? ⟨b7, 1, none⟩ = some (.int .i64 T.rows) := cell_of_row _ _ _ _ _ _ hx5
    have g2 : w5.cell? ⟨b7, 2, none⟩ = some (.int .i64 T.most) := cell_of_row _ _ _ _ _ _ hx5
    have g3 : w5.cell? ⟨b7, 3, none⟩ = some (.int .i64 T.x) := cell_of_row _ _ _ _ _ _ hx5
    have g4 : w5.cell? ⟨b7, 4, none⟩ = some (.int .i64 T.y) := cell_of_row _ _ _ _ _ _ hx5
    have g5 : w5.cell? ⟨b7, 5, none⟩ = some (.slice A5 T.grid.length k5) := cell_of_row _ _ _ _ _ _ hx5
    have g6 : w5.cell? ⟨b7, 6, none⟩ = some (.slice A6 T.kept.length k6) := cell_of_row _ _ _ _ _ _ hx5
    have g7 : w5.cell? ⟨b7, 7, none⟩ = some (.int .i64 T.st) := cell_of_row _ _ _ _ _ _ hx5
    have g8 : w5.cell? ⟨b7, 8, none⟩ = some (.int .i64 T.n0) := cell_of_row _ _ _ _ _ _ hx5
    have g9 : w5.cell? ⟨b7, 9, none⟩ = some (.int .i64 T.n1) := cell_of_row _ _ _ _ _ _ hx5
    have g10 : w5.cell? ⟨b7, 10, none⟩ = some (.int .i64 T.num) := cell_of_row _ _ _ _ _ _ hx5
    clear hx5
    go_wp2_with fail
    refine (resize_no _ T c r _ HV5.out (.inr hf)).mono ?_
    rintro e w6 ⟨v6, rfl, hck6, hb6⟩
    clear g0 g1 g2 g3 g4 g5 g6 g7 g8 g9 g10
    have HV6 := Lib.hid hck6
    have hy6 := (hb6.block _ (block_lt hy5)).trans hy5
    have HU6 := Lib.hid (HU5.out.next hb6)
    have HB6 : Hid (Below w.heap.size w w6) := below_next HB5.out hb6
    obtain ⟨A9, k9, A10, k10, rfl⟩ := hck6.form
    clear hck6 hb6 HX5 HY5 HV5 HU5 HB5 hy5
    rw [Scr.vals_eq T]
    go_upto_region 8 with fail
    obtain ⟨w7, hw7⟩ : ∃ w7, w7 = w6.alloc (.cells (T.vals (.slice A9 T.grid.length k9) (.slice A10 T.kept.length k10)) 29) := ⟨_, rfl⟩
    have hb7 : Below w6.heap.size w6 w7 := by rw [hw7]; exact (Below.refl _ _).alloc (Nat.le_refl _) _
    have hx9 : w7.heap[w6.heap.size]? = some (.cells (T.vals (.slice A9 T.grid.length k9) (.slice A10 T.kept.length k10)) 29 (0, 0)) := by rw [hw7]; exact heap_alloc_new _ _
    have hy9 := (hb7.block _ (block_lt hy6)).trans hy6
    have HV := Lib.hid (HV6.out.next hb7)
    have HU := Lib.hid (HU6.out.next hb7)
    have HB : Hid (Below w.heap.size w w7) := below_next HB6.out hb7
    rw [Scr.vals_eq T] at hw7
    rw [← hw7]
    obtain ⟨b9, hb9⟩ : ∃ b9, b9 = w6.heap.size := ⟨_, rfl⟩
    rw [← hb9] at hx9 ⊢
    clear hw7 hb7 HV6 HU6 HB6 hb9 hy6
    go_upto_region 9 with fail
    have HE := Lib.hid (HSI.out.eqv HON.out)
    have hLs : ∀ w', Later w7 w' → w'.heap[b9]? = some (.cells (T.vals (.slice A9 T.grid.length k9) (.slice A10 T.kept.length k10)) 29 (0, 0)) := fun w' h => (h.block _ (block_lt hx9)).trans hx9
    have hLm : ∀ w', Later w7 w' → w'.heap[b7 + 1]? = some (.cells (N.vals (.slice A7 N.rows.length k7) (.slice A8 N.kept.length k8)) 31 (0, 0)) := fun w' h => (h.block _ (block_lt hy9)).trans hy9
    clear hx9 hy9
    refine wp_region_meek0 [Stay.val (.int .i64 17), Stay.val (.bool true), Stay.val (.bool true), Stay.val (.agg (T.vals (.slice A9 T.grid.length k9) (.slice A10 T.kept.length k10))), Stay.val (.agg (N.vals (.slice A7 N.rows.length k7) (.slice A8 N.kept.length k8))), Stay.val (.bool true), Stay.val (.bool true), Stay.val (.bool true), Stay.val (.bool true), Stay.val (.bool true), Stay.val (.bool true)] 93 rfl trivial (by kernel_rfl) ?_ ?_
    · refine ⟨meek_plain rfl (body_move _ rfl (opd_out 15 (by kernel_rfl) _ rfl)), ?_⟩
      refine ⟨meek_plain rfl (body_two _ _ _ _ (.bool true) (opd_in 0 60 (by kernel_rfl)) (opd_const (.int .i64 17)) (fun _ => rfl) fun ρ w h1 h2 => (by simp [execOp, h1, h2, go_sem])), ?_⟩
      refine ⟨meek_plain rfl (body_move _ rfl (opd_in 1 61 (by kernel_rfl))), ?_⟩
      refine ⟨meek_on 2 true 93 rfl (by kernel_rfl) (fun _ _ h => h) (body_load _ _ _ _ rfl (opd_out 14 (by kernel_rfl) _ rfl) fun w' h => ⟨load_scr (hLs w' h), rfl⟩), ?_⟩
      refine ⟨meek_on 2 true 93 rfl (by kernel_rfl) (fun _ _ h => h) (body_load _ _ _ _ rfl (opd_out 12 (by kernel_rfl) _ rfl) fun w' h => ⟨load_ref (hLm w' h), rfl⟩), ?_⟩
      refine ⟨meek_on 2 true 93 rfl (by kernel_rfl) (fun _ _ h => h) (body_call2 _ _ _ _ _ _ rfl (by kernel_rfl) (opd_in 3 63 (by kernel_rfl)) (opd_in 4 64 (by kernel_rfl)) fun v u w' h hv hu => ?_), ?_⟩
      · obtain rfl := hv
        obtain rfl := hu
        refine (same_yes _ _ T N _ (HV.out.next h).cv (HU.out.next h) HOT.out HON.out HE.out).mono ?_
        rintro e w9 ⟨rfl, hb9⟩
        exact ⟨_, rfl, hb9, rfl⟩
      refine ⟨meek_plain rfl (body_pick _ _ _ true rfl (opd_in 2 62 (by kernel_rfl)) (opd_in 5 65 (by kernel_rfl))), ?_⟩
      refine ⟨meek_plain rfl (body_move _ rfl (opd_in 6 66 (by kernel_rfl))), ?_⟩
      refine ⟨meek_on 7 true 93 rfl (by kernel_rfl) (fun _ _ h => h) (body_call0 _ _ rfl (by kernel_rfl)  fun  w' h  => ?_), ?_⟩
      · refine (awake_walk w').mono ?_
        rintro e w9 ⟨rfl, hb9⟩
        exact ⟨_, rfl, hb9, rfl⟩
      refine ⟨meek_plain rfl (body_pick _ _ _ true rfl (opd_in 7 67 (by kernel_rfl)) (opd_in 8 68 (by kernel_rfl))), ?_⟩
      refine ⟨meek_plain rfl (body_assign _ rfl (opd_in 9 69 (by kernel_rfl))), ?_⟩
      exact trivial
    · intro g w12 h12 hend
      have e6 : g 10 = .bool true := meek_val hend 10 10 (by kernel_rfl) _ rfl
      clear hend
      simp only [putAll, Act.put, List.setIfInBounds_toArray, List.set_cons_succ, List.set_cons_zero, e6]
      clear e6
      go_wp2_with fail
      go_ret
      exact ⟨rfl, below_next HB.out h12⟩

set_option maxRecDepth 100000 in
set_option maxHeartbeats 1600000 in
theorem sizes_no1 (a b k : Nat) (c r : Int) (s t : ByteArray) (w : World) (ha : a < 256) (hb : b < 256) (hk : k < 256) (hs : s.size ≤ 300) (ht : t.size ≤ 300) (hf : fitsB c r = false) (hq1 : decide ((c : Int) < 1) = false) (hq2 : decide ((c : Int) > 128) = true) :
    Calls Tryd.prog 6 #[.agg #[.int .u8 a, .int .u8 b, .int .u8 k], .string s, .string t, .int .i64 c, .int .i64 r] w (ValPost w (.bool true)) := by
  have hd : decide ((s.size : Int) > 300) = false := by simp; omega
  have hd2 : decide ((t.size : Int) > 300) = false := by simp; omega
  go_enter Tryd.func6, Tryd.ntmps6
  go_wp2_with fail
  refine (made_walk a b k _ ha hb hk).mono ?_
  rintro e w1 ⟨v1, u1, rfl, hck, hrv, hb1⟩
  have hok := newScr_ok (1 + a % 20) (1 + b % 8) (k % 12) (by omega) (by omega) (by omega) (by omega) (by omega)
  have hom := newRef_ok (1 + a % 20) (1 + b % 8) (k % 12) (by omega) (by omega) (by omega) (by omega) (by omega)
  have hsim := sim_new (1 + a % 20) (1 + b % 8) (k % 12)
  obtain ⟨S, hS⟩ : ∃ S : Scr, S = newScr (1 + a % 20) (1 + b % 8) (k % 12) := ⟨_, rfl⟩
  obtain ⟨M, hM⟩ : ∃ M : Ref, M = newRef (1 + a % 20) (1 + b % 8) (k % 12) := ⟨_, rfl⟩
  have HMA : Hid (M.args = []) := by rw [hM]; exact Lib.hid rfl
  rw [← hS] at hck hok hsim
  rw [← hM] at hrv hom hsim
  have HV1 := Lib.hid hck; have HO := Lib.hid hok; have HOM := Lib.hid hom; have HU1 := Lib.hid hrv
  obtain ⟨T, hT⟩ : ∃ T : Scr, T = S.bytes s.data.toList := ⟨_, rfl⟩
  obtain ⟨N, hN⟩ : ∃ N : Ref, N = M.bytes s.data.toList := ⟨_, rfl⟩
  have HOT : Hid T.Ok := by rw [hT]; exact hok.bytes _
  have HON : Hid N.Ok := by rw [hN]; exact hom.bytes _
  have HSI : Hid (Sim T N) := by rw [hT, hN]; exact hsim.bytes hom _
  have HNA : Hid (N.args.length ≤ 300) := by rw [hN]; refine Nat.le_trans (bytes_args _ _) ?_; rw [HMA.out]; simp; omega
  have HTq := Lib.hid hT; have HNq := Lib.hid hN
  have HB1 : Hid (Below w.heap.size w w1) := below_next ((Below.refl _ _).alloc (Nat.le_refl _) _) hb1
  obtain ⟨A1, k1, A2, k2, rfl⟩ := hck.form
  obtain ⟨vr, vk', rfl, h21, h22⟩ := hrv
  have h25 := h21.1; have h26 := h22.1
  obtain ⟨-, A3, k3, rfl, -, -, -, -⟩ := h25
  obtain ⟨-, A4, k4, rfl, -, -, -, -⟩ := h26
  clear hck h21 h22 hok hom hsim hb1 hS hM hT hN
  rw [Scr.vals_eq S, Ref.vals_eq M]
  go_upto_region 6 with fail
  obtain ⟨w2, hw2⟩ : ∃ w2, w2 = (w1.alloc (.cells (S.vals (.slice A1 S.grid.length k1) (.slice A2 S.kept.length k2)) 29)).alloc (.cells (M.vals (.slice A3 M.rows.length k3) (.slice A4 M.kept.length k4)) 31) := ⟨_, rfl⟩
  have hb12 : Below w1.heap.size w1 w2 := by rw [hw2]; exact below_alloc2 _ _ _
  have hx2 : w2.heap[w1.heap.size]? = some (.cells (S.vals (.slice A1 S.grid.length k1) (.slice A2 S.kept.length k2)) 29 (0, 0)) := by rw [hw2]; exact alloc2_fst _ _ _
  have hy2 : w2.heap[w1.heap.size + 1]? = some (.cells (M.vals (.slice A3 M.rows.length k3) (.slice A4 M.kept.length k4)) 31 (0, 0)) := by rw [hw2]; exact alloc2_snd _ _ _
  have HV2 := Lib.hid (HV1.out.next hb12)
  have HU2 := Lib.hid (HU1.out.next hb12)
  have HB2 : Hid (Below w.heap.size w w2) := below_next HB1.out hb12
  have hcap : w.heap.size ≤ w1.heap.size := HB1.out.size
  rw [Scr.vals_eq S, Ref.vals_eq M] at hw2
  rw [← hw2]
  obtain ⟨b7, hb7⟩ : ∃ b7, b7 = w1.heap.size := ⟨_, rfl⟩
  rw [← hb7] at hx2 hy2 hcap ⊢
  have hLs : ∀ w', Later w2 w' → w'.heap[b7]? = some (.cells (S.vals (.slice A1 S.grid.length k1) (.slice A2 S.kept.length k2)) 29 (0, 0)) := fun w' h => (h.block _ (block_lt hx2)).trans hx2
  have hLm : ∀ w', Later w2 w' → w'.heap[b7 + 1]? = some (.cells (M.vals (.slice A3 M.rows.length k3) (.slice A4 M.kept.length k4)) 31 (0, 0)) := fun w' h => (h.block _ (block_lt hy2)).trans hy2
  clear hw2 hb12 HV1 HU1 HB1 hb7 hx2 hy2
  refine wp_region_meekT [Stay.val (.agg (S.vals (.slice A1 S.grid.length k1) (.slice A2 S.kept.length k2))), Stay.val (.string s), Stay.ck T, Stay.val (.agg (M.vals (.slice A3 M.rows.length k3) (.slice A4 M.kept.length k4))), Stay.val (.string s), Stay.rv N] 6 93 rfl (by kernel_rfl) (by kernel_rfl) ?_ ?_
  · refine ⟨meek_plain rfl (body_load _ _ _ _ rfl (opd_out 11 (by kernel_rfl) _ rfl) fun w' h => ⟨load_scr (hLs w' h), rfl⟩), ?_⟩
    refine ⟨meek_plain rfl (body_move _ rfl (opd_out 1 (by kernel_rfl) _ rfl)), ?_⟩
    refine ⟨meek_plain rfl (body_call2 _ _ _ _ _ _ rfl (by kernel_rfl) (opd_in 0 33 (by kernel_rfl)) (opd_in 1 34 (by kernel_rfl)) fun v u w' h hv hu => ?_), ?_⟩
    · obtain rfl := hv
      obtain rfl := hu
      refine (write_walk _ S s _ (HV2.out.next h).cv HO.out (by omega)).mono ?_
      rintro e w9 ⟨v9, rfl, hc9, hb9⟩
      exact ⟨_, rfl, hb9, by rw [HTq.out]; exact hc9⟩
    refine ⟨meek_plain rfl (body_load _ _ _ _ rfl (opd_out 12 (by kernel_rfl) _ rfl) fun w' h => ⟨load_ref (hLm w' h), rfl⟩), ?_⟩
    refine ⟨meek_plain rfl (body_move _ rfl (opd_out 1 (by kernel_rfl) _ rfl)), ?_⟩
    refine ⟨meek_plain rfl (body_call2 _ _ _ _ _ _ rfl (by kernel_rfl) (opd_in 3 36 (by kernel_rfl)) (opd_in 4 37 (by kernel_rfl)) fun v u w' h hv hu => ?_), ?_⟩
    · obtain rfl := hv
      obtain rfl := hu
      refine (rwrite_walk _ M s _ (HU2.out.next h) HOM.out (by rw [HMA.out]; simp; omega)).mono ?_
      rintro e w9 ⟨v9, rfl, hc9, hb9⟩
      exact ⟨_, rfl, hb9, by rw [HNq.out]; exact hc9⟩
    exact trivial
  · intro g w3 h3 hend
    have hck3 : CK w3 (g 35) T := meek_val hend 2 35 (by kernel_rfl) _ rfl
    have hrv3 : RV w3 (g 38) N := meek_val hend 5 38 (by kernel_rfl) _ rfl
    have hx3 := hLs w3 h3
    have hy3 := hLm w3 h3
    have HV3 := Lib.hid hck3; have HU3 := Lib.hid hrv3
    have HB3 : Hid (Below w.heap.size w w3) := below_next HB2.out h3
    have HX3 := Lib.hid hx3; have HY3 := Lib.hid hy3
    obtain ⟨A5, k5, A6, k6, e35⟩ := hck3.form
    obtain ⟨vr, vk', e38, h21, h22⟩ := hrv3
    have h25 := h21.1; have h26 := h22.1
    obtain ⟨-, A7, k7, rfl, -, -, -, -⟩ := h25
    obtain ⟨-, A8, k8, rfl, -, -, -, -⟩ := h26
    clear hend hck3 hLs hLm h21 h22 h3
    simp only [putAll, Act.put, List.take_succ_cons, List.take_zero, List.drop_succ_cons, List.drop_zero, List.setIfInBounds_toArray, List.set_cons_succ, List.set_cons_zero, e35, e38]
    rw [Scr.vals_eq T, Ref.vals_eq N]
    generalize g 33 = z33
    generalize g 34 = z34
    generalize g 36 = z36
    generalize g 37 = z37
    have g0 : w3.cell? ⟨b7, 0, none⟩ = some (.int .i64 S.cols) := cell_of_row _ _ _ _ _ _ hx3
    have g1 : w3.cell? ⟨b7, 1, none⟩ = some (.int .i64 S.rows) := cell_of_row _ _ _ _ _ _ hx3
    have g2 : w3.cell? ⟨b7, 2, none⟩ = some (.int .i64 S.most) := cell_of_row _ _ _ _ _ _ hx3
    have g3 : w3.cell? ⟨b7, 3, none⟩ = some (.int .i64 S.x) := cell_of_row _ _ _ _ _ _ hx3
    have g4 : w3.cell? ⟨b7, 4, none⟩ = some (.int .i64 S.y) := cell_of_row _ _ _ _ _ _ hx3
    have g5 : w3.cell? ⟨b7, 5, none⟩ = some (.slice A1 S.grid.length k1) := cell_of_row _ _ _ _ _ _ hx3
    have g6 : w3.cell? ⟨b7, 6, none⟩ = some (.slice A2 S.kept.length k2) := cell_of_row _ _ _ _ _ _ hx3
    have g7 : w3.cell? ⟨b7, 7, none⟩ = some (.int .i64 S.st) := cell_of_row _ _ _ _ _ _ hx3
    have g8 : w3.cell? ⟨b7, 8, none⟩ = some (.int .i64 S.n0) := cell_of_row _ _ _ _ _ _ hx3
    have g9 : w3.cell? ⟨b7, 9, none⟩ = some (.int .i64 S.n1) := cell_of_row _ _ _ _ _ _ hx3
    have g10 : w3.cell? ⟨b7, 10, none⟩ = some (.int .i64 S.num) := cell_of_row _ _ _ _ _ _ hx3
    have fu0 : w3.frozen? ⟨b7, 0, none⟩ = false := frozen_of_row _ _ _ _ _ hx3
    have fu1 : w3.frozen? ⟨b7, 1, none⟩ = false := frozen_of_row _ _ _ _ _ hx3
    have fu2 : w3.frozen? ⟨b7, 2, none⟩ = false := frozen_of_row _ _ _ _ _ hx3
    have fu3 : w3.frozen? ⟨b7, 3, none⟩ = false := frozen_of_row _ _ _ _ _ hx3
    have fu4 : w3.frozen? ⟨b7, 4, none⟩ = false := frozen_of_row _ _ _ _ _ hx3
    have fu5 : w3.frozen? ⟨b7, 5, none⟩ = false := frozen_of_row _ _ _ _ _ hx3
    have fu6 : w3.frozen? ⟨b7, 6, none⟩ = false := frozen_of_row _ _ _ _ _ hx3
    have fu7 : w3.frozen? ⟨b7, 7, none⟩ = false := frozen_of_row _ _ _ _ _ hx3
    have fu8 : w3.frozen? ⟨b7, 8, none⟩ = false := frozen_of_row _ _ _ _ _ hx3
    have fu9 : w3.frozen? ⟨b7, 9, none⟩ = false := frozen_of_row _ _ _ _ _ hx3
    have fu10 : w3.frozen? ⟨b7, 10, none⟩ = false := frozen_of_row _ _ _ _ _ hx3
    have o0 : w3.cell? ⟨b7 + 1, 0, none⟩ = some (.int .i64 M.w) := cell_of_row _ _ _ _ _ _ hy3
    have o1 : w3.cell? ⟨b7 + 1, 1, none⟩ = some (.int .i64 M.h) := cell_of_row _ _ _ _ _ _ hy3
    have o2 : w3.cell? ⟨b7 + 1, 2, none⟩ = some (.int .i64 M.most) := cell_of_row _ _ _ _ _ _ hy3
    have o3 : w3.cell? ⟨b7 + 1, 3, none⟩ = some (.slice A3 M.rows.length k3) := cell_of_row _ _ _ _ _ _ hy3
    have o4 : w3.cell? ⟨b7 + 1, 4, none⟩ = some (.slice A4 M.kept.length k4) := cell_of_row _ _ _ _ _ _ hy3
    have o5 : w3.cell? ⟨b7 + 1, 5, none⟩ = some (.int .i64 M.x) := cell_of_row _ _ _ _ _ _ hy3
    have o6 : w3.cell? ⟨b7 + 1, 6, none⟩ = some (.int .i64 M.y) := cell_of_row _ _ _ _ _ _ hy3
    have o7 : w3.cell? ⟨b7 + 1, 7, none⟩ = some (.int .i64 M.begun) := cell_of_row _ _ _ _ _ _ hy3
    have o8 : w3.cell? ⟨b7 + 1, 8, none⟩ = some (.string (bs M.args)) := cell_of_row _ _ _ _ _ _ hy3
    have u0 : w3.frozen? ⟨b7 + 1, 0, none⟩ = false := frozen_of_row _ _ _ _ _ hy3
    have u1 : w3.frozen? ⟨b7 + 1, 1, none⟩ = false := frozen_of_row _ _ _ _ _ hy3
    have u2 : w3.frozen? ⟨b7 + 1, 2, none⟩ = false := frozen_of_row _ _ _ _ _ hy3
    have u3 : w3.frozen? ⟨b7 + 1, 3, none⟩ = false := frozen_of_row _ _ _ _ _ hy3
    have u4 : w3.frozen? ⟨b7 + 1, 4, none⟩ = false := frozen_of_row _ _ _ _ _ hy3
    have u5 : w3.frozen? ⟨b7 + 1, 5, none⟩ = false := frozen_of_row _ _ _ _ _ hy3
    have u6 : w3.frozen? ⟨b7 + 1, 6, none⟩ = false := frozen_of_row _ _ _ _ _ hy3
    have u7 : w3.frozen? ⟨b7 + 1, 7, none⟩ = false := frozen_of_row _ _ _ _ _ hy3
    have u8 : w3.frozen? ⟨b7 + 1, 8, none⟩ = false := frozen_of_row _ _ _ _ _ hy3
    have hs3 : b7 + 1 < w3.heap.size := block_lt hy3
    rw [e35] at HV3
    rw [e38] at HU3
    clear hx3 hy3 e35 e38
    go_upto_region 7 with fail
    obtain ⟨w5, hw5, hx5, hy5, hc5, hr5, hB5⟩ := two_stored HX3.out HY3.out HV3.out HU3.out HB3.out hcap
    have HX5 := Lib.hid hx5; have HY5 := Lib.hid hy5; have HV5 := Lib.hid hc5; have HU5 := Lib.hid hr5; have HB5 := Lib.hid hB5
    change Code.wp _ _ _ _ ((w3.setCells b7 0 (T.vals (.slice A5 T.grid.length k5) (.slice A6 T.kept.length k6)).toList).setCells (b7 + 1) 0 (N.vals (.slice A7 N.rows.length k7) (.slice A8 N.kept.length k8)).toList)
    rw [← hw5]
    clear hw5 hc5 hr5 hB5 HX3 HY3 HV3 HU3 HB3 hs3
    have g0 : w5.cell? ⟨b7, 0, none⟩ = some (.int .i64 T.cols) := cell_of_row _ _ _ _ _ _ hx5
    have g1 : w5.cell? ⟨b7, 1, none⟩ = some (.int .i64 T.rows) := cell_of_row _ _ _ _ _ _ hx5
    have g2 : w5.cell? ⟨b7, 2, none⟩ = some (.int .i64 T.most) := cell_of_row _ _ _ _ _ _ hx5
    have g3 : w5.cell? ⟨b7, 3, none⟩ = some (.int .i64 T.x) := cell_of_row _ _ _ _ _ _ hx5
    have g4 : w5.cell? ⟨b7, 4, none⟩ = some (.int .i64 T.y) := cell_of_row _ _ _ _ _ _ hx5
    have g5 : w5.cell? ⟨b7, 5, none⟩ = some (.slice A5 T.grid.length k5) := cell_of_row _ _ _ _ _ _ hx5
    have g6 : w5.cell? ⟨b7, 6, none⟩ = some (.slice A6 T.kept.length k6) := cell_of_row _ _ _ _ _ _ hx5
    have g7 : w5.cell? ⟨b7, 7, none⟩ = some (.int .i64 T.st) := cell_of_row _ _ _ _ _ _ hx5
    have g8 : w5.cell? ⟨b7, 8, none⟩ = some (.int .i64 T.n0) := cell_of_row _ _ _ _ _ _ hx5
    have g9 : w5.cell? ⟨b7, 9, none⟩ = some (.int .i64 T.n1) := cell_of_row _ _ _ _ _ _ hx5
    have g10 : w5.cell? ⟨b7, 10, none⟩ = some (.int .i64 T.num) := cell_of_row _ _ _ _ _ _ hx5
    clear hx5
    go_wp2_with fail
    refine (resize_no _ T c r _ HV5.out (.inr hf)).mono ?_
    rintro e w6 ⟨v6, rfl, hck6, hb6⟩
    clear g0 g1 g2 g3 g4 g5 g6 g7 g8 g9 g10
    have HV6 := Lib.hid hck6
    have hy6 := (hb6.block _ (block_lt hy5)).trans hy5
    have HU6 := Lib.hid (HU5.out.next hb6)
    have HB6 : Hid (Below w.heap.size w w6) := below_next HB5.out hb6
    obtain ⟨A9, k9, A10, k10, rfl⟩ := hck6.form
    clear hck6 hb6 HX5 HY5 HV5 HU5 HB5 hy5
    rw [Scr.vals_eq T]
    go_upto_region 8 with fail
    obtain ⟨w7, hw7⟩ : ∃ w7, w7 = w6.alloc (.cells (T.vals (.slice A9 T.grid.length k9) (.slice A10 T.kept.length k10)) 29) := ⟨_, rfl⟩
    have hb7 : Below w6.heap.size w6 w7 := by rw [hw7]; exact (Below.refl _ _).alloc (Nat.le_refl _) _
    have hx9 : w7.heap[w6.heap.size]? = some (.cells (T.vals (.slice A9 T.grid.length k9) (.slice A10 T.kept.length k10)) 29 (0, 0)) := by rw [hw7]; exact heap_alloc_new _ _
    have hy9 := (hb7.block _ (block_lt hy6)).trans hy6
    have HV := Lib.hid (HV6.out.next hb7)
    have HU := Lib.hid (HU6.out.next hb7)
    have HB : Hid (Below w.heap.size w w7) := below_next HB6.out hb7
    rw [Scr.vals_eq T] at hw7
    rw [← hw7]
    obtain ⟨b9, hb9⟩ : ∃ b9, b9 = w6.heap.size := ⟨_, rfl⟩
    rw [← hb9] at hx9 ⊢
    clear hw7 hb7 HV6 HU6 HB6 hb9 hy6
    go_upto_region 9 with fail
    have HE := Lib.hid (HSI.out.eqv HON.out)
    have hLs : ∀ w', Later w7 w' → w'.heap[b9]? = some (.cells (T.vals (.slice A9 T.grid.length k9) (.slice A10 T.kept.length k10)) 29 (0, 0)) := fun w' h => (h.block _ (block_lt hx9)).trans hx9
    have hLm : ∀ w', Later w7 w' → w'.heap[b7 + 1]? = some (.cells (N.vals (.slice A7 N.rows.length k7) (.slice A8 N.kept.length k8)) 31 (0, 0)) := fun w' h => (h.block _ (block_lt hy9)).trans hy9
    clear hx9 hy9
    refine wp_region_meek0 [Stay.val (.int .i64 17), Stay.val (.bool true), Stay.val (.bool true), Stay.val (.agg (T.vals (.slice A9 T.grid.length k9) (.slice A10 T.kept.length k10))), Stay.val (.agg (N.vals (.slice A7 N.rows.length k7) (.slice A8 N.kept.length k8))), Stay.val (.bool true), Stay.val (.bool true), Stay.val (.bool true), Stay.val (.bool true), Stay.val (.bool true), Stay.val (.bool true)] 93 rfl trivial (by kernel_rfl) ?_ ?_
    · refine ⟨meek_plain rfl (body_move _ rfl (opd_out 15 (by kernel_rfl) _ rfl)), ?_⟩
      refine ⟨meek_plain rfl (body_two _ _ _ _ (.bool true) (opd_in 0 60 (by kernel_rfl)) (opd_const (.int .i64 17)) (fun _ => rfl) fun ρ w h1 h2 => (by simp [execOp, h1, h2, go_sem])), ?_⟩
      refine ⟨meek_plain rfl (body_move _ rfl (opd_in 1 61 (by kernel_rfl))), ?_⟩
      refine ⟨meek_on 2 true 93 rfl (by kernel_rfl) (fun _ _ h => h) (body_load _ _ _ _ rfl (opd_out 14 (by kernel_rfl) _ rfl) fun w' h => ⟨load_scr (hLs w' h), rfl⟩), ?_⟩
      refine ⟨meek_on 2 true 93 rfl (by kernel_rfl) (fun _ _ h => h) (body_load _ _ _ _ rfl (opd_out 12 (by kernel_rfl) _ rfl) fun w' h => ⟨load_ref (hLm w' h), rfl⟩), ?_⟩
      refine ⟨meek_on 2 true 93 rfl (by kernel_rfl) (fun _ _ h => h) (body_call2 _ _ _ _ _ _ rfl (by kernel_rfl) (opd_in 3 63 (by kernel_rfl)) (opd_in 4 64 (by kernel_rfl)) fun v u w' h hv hu => ?_), ?_⟩
      · obtain rfl := hv
        obtain rfl := hu
        refine (same_yes _ _ T N _ (HV.out.next h).cv (HU.out.next h) HOT.out HON.out HE.out).mono ?_
        rintro e w9 ⟨rfl, hb9⟩
        exact ⟨_, rfl, hb9, rfl⟩
      refine ⟨meek_plain rfl (body_pick _ _ _ true rfl (opd_in 2 62 (by kernel_rfl)) (opd_in 5 65 (by kernel_rfl))), ?_⟩
      refine ⟨meek_plain rfl (body_move _ rfl (opd_in 6 66 (by kernel_rfl))), ?_⟩
      refine ⟨meek_on 7 true 93 rfl (by kernel_rfl) (fun _ _ h => h) (body_call0 _ _ rfl (by kernel_rfl)  fun  w' h  => ?_), ?_⟩
      · refine (awake_walk w').mono ?_
        rintro e w9 ⟨rfl, hb9⟩
        exact ⟨_, rfl, hb9, rfl⟩
      refine ⟨meek_plain rfl (body_pick _ _ _ true rfl (opd_in 7 67 (by kernel_rfl)) (opd_in 8 68 (by kernel_rfl))), ?_⟩
      refine ⟨meek_plain rfl (body_assign _ rfl (opd_in 9 69 (by kernel_rfl))), ?_⟩
      exact trivial
    · intro g w12 h12 hend
      have e6 : g 10 = .bool true := meek_val hend 10 10 (by kernel_rfl) _ rfl
      clear hend
      simp only [putAll, Act.put, List.setIfInBounds_toArray, List.set_cons_succ, List.set_cons_zero, e6]
      clear e6
      go_wp2_with fail
      go_ret
      exact ⟨rfl, below_next HB.out h12⟩

set_option maxRecDepth 100000 in
set_option maxHeartbeats 1600000 in
theorem sizes_no2 (a b k : Nat) (c r : Int) (s t : ByteArray) (w : World) (ha : a < 256) (hb : b < 256) (hk : k < 256) (hs : s.size ≤ 300) (ht : t.size ≤ 300) (hf : fitsB c r = false) (hq1 : decide ((c : Int) < 1) = false) (hq2 : decide ((c : Int) > 128) = false) (hq3 : decide ((r : Int) < 1) = true) :
    Calls Tryd.prog 6 #[.agg #[.int .u8 a, .int .u8 b, .int .u8 k], .string s, .string t, .int .i64 c, .int .i64 r] w (ValPost w (.bool true)) := by
  have hd : decide ((s.size : Int) > 300) = false := by simp; omega
  have hd2 : decide ((t.size : Int) > 300) = false := by simp; omega
  go_enter Tryd.func6, Tryd.ntmps6
  go_wp2_with fail
  refine (made_walk a b k _ ha hb hk).mono ?_
  rintro e w1 ⟨v1, u1, rfl, hck, hrv, hb1⟩
  have hok := newScr_ok (1 + a % 20) (1 + b % 8) (k % 12) (by omega) (by omega) (by omega) (by omega) (by omega)
  have hom := newRef_ok (1 + a % 20) (1 + b % 8) (k % 12) (by omega) (by omega) (by omega) (by omega) (by omega)
  have hsim := sim_new (1 + a % 20) (1 + b % 8) (k % 12)
  obtain ⟨S, hS⟩ : ∃ S : Scr, S = newScr (1 + a % 20) (1 + b % 8) (k % 12) := ⟨_, rfl⟩
  obtain ⟨M, hM⟩ : ∃ M : Ref, M = newRef (1 + a % 20) (1 + b % 8) (k % 12) := ⟨_, rfl⟩
  have HMA : Hid (M.args = []) := by rw [hM]; exact Lib.hid rfl
  rw [← hS] at hck hok hsim
  rw [← hM] at hrv hom hsim
  have HV1 := Lib.hid hck; have HO := Lib.hid hok; have HOM := Lib.hid hom; have HU1 := Lib.hid hrv
  obtain ⟨T, hT⟩ : ∃ T : Scr, T = S.bytes s.data.toList := ⟨_, rfl⟩
  obtain ⟨N, hN⟩ : ∃ N : Ref, N = M.bytes s.data.toList := ⟨_, rfl⟩
  have HOT : Hid T.Ok := by rw [hT]; exact hok.bytes _
  have HON : Hid N.Ok := by rw [hN]; exact hom.bytes _
  have HSI : Hid (Sim T N) := by rw [hT, hN]; exact hsim.bytes hom _
  have HNA : Hid (N.args.length ≤ 300) := by rw [hN]; refine Nat.le_trans (bytes_args _ _) ?_; rw [HMA.out]; simp; omega
  have HTq := Lib.hid hT; have HNq := Lib.hid hN
  have HB1 : Hid (Below w.heap.size w w1) := below_next ((Below.refl _ _).alloc (Nat.le_refl _) _) hb1
  obtain ⟨A1, k1, A2, k2, rfl⟩ := hck.form
  obtain ⟨vr, vk', rfl, h21, h22⟩ := hrv
  have h25 := h21.1; have h26 := h22.1
  obtain ⟨-, A3, k3, rfl, -, -, -, -⟩ := h25
  obtain ⟨-, A4, k4, rfl, -, -, -, -⟩ := h26
  clear hck h21 h22 hok hom hsim hb1 hS hM hT hN
  rw [Scr.vals_eq S, Ref.vals_eq M]
  go_upto_region 6 with fail
  obtain ⟨w2, hw2⟩ : ∃ w2, w2 = (w1.alloc (.cells (S.vals (.slice A1 S.grid.length k1) (.slice A2 S.kept.length k2)) 29)).alloc (.cells (M.vals (.slice A3 M.rows.length k3) (.slice A4 M.kept.length k4)) 31) := ⟨_, rfl⟩
  have hb12 : Below w1.heap.size w1 w2 := by rw [hw2]; exact below_alloc2 _ _ _
  have hx2 : w2.heap[w1.heap.size]? = some (.cells (S.vals (.slice A1 S.grid.length k1) (.slice A2 S.kept.length k2)) 29 (0, 0)) := by rw [hw2]; exact alloc2_fst _ _ _
  have hy2 : w2.heap[w1.heap.size + 1]? = some (.cells (M.vals (.slice A3 M.rows.length k3) (.slice A4 M.kept.length k4)) 31 (0, 0)) := by rw [hw2]; exact alloc2_snd _ _ _
  have HV2 := Lib.hid (HV1.out.next hb12)
  have HU2 := Lib.hid (HU1.out.next hb12)
  have HB2 : Hid (Below w.heap.size w w2) := below_next HB1.out hb12
  have hcap : w.heap.size ≤ w1.heap.size := HB1.out.size
  rw [Scr.vals_eq S, Ref.vals_eq M] at hw2
  rw [← hw2]
  obtain ⟨b7, hb7⟩ : ∃ b7, b7 = w1.heap.size := ⟨_, rfl⟩
  rw [← hb7] at hx2 hy2 hcap ⊢
  have hLs : ∀ w', Later w2 w' → w'.heap[b7]? = some (.cells (S.vals (.slice A1 S.grid.length k1) (.slice A2 S.kept.length k2)) 29 (0, 0)) := fun w' h => (h.block _ (block_lt hx2)).trans hx2
  have hLm : ∀ w', Later w2 w' → w'.heap[b7 + 1]? = some (.cells (M.vals (.slice A3 M.rows.length k3) (.slice A4 M.kept.length k4)) 31 (0, 0)) := fun w' h => (h.block _ (block_lt hy2)).trans hy2
  clear hw2 hb12 HV1 HU1 HB1 hb7 hx2 hy2
  refine wp_region_meekT [Stay.val (.agg (S.vals (.slice A1 S.grid.length k1) (.slice A2 S.kept.length k2))), Stay.val (.string s), Stay.ck T, Stay.val (.agg (M.vals (.slice A3 M.rows.length k3) (.slice A4 M.kept.length k4))), Stay.val (.string s), Stay.rv N] 6 93 rfl (by kernel_rfl) (by kernel_rfl) ?_ ?_
  · refine ⟨meek_plain rfl (body_load _ _ _ _ rfl (opd_out 11 (by kernel_rfl) _ rfl) fun w' h => ⟨load_scr (hLs w' h), rfl⟩), ?_⟩
    refine ⟨meek_plain rfl (body_move _ rfl (opd_out 1 (by kernel_rfl) _ rfl)), ?_⟩
    refine ⟨meek_plain rfl (body_call2 _ _ _ _ _ _ rfl (by kernel_rfl) (opd_in 0 33 (by kernel_rfl)) (opd_in 1 34 (by kernel_rfl)) fun v u w' h hv hu => ?_), ?_⟩
    · obtain rfl := hv
      obtain rfl := hu
      refine (write_walk _ S s _ (HV2.out.next h).cv HO.out (by omega)).mono ?_
      rintro e w9 ⟨v9, rfl, hc9, hb9⟩
      exact ⟨_, rfl, hb9, by rw [HTq.out]; exact hc9⟩
    refine ⟨meek_plain rfl (body_load _ _ _ _ rfl (opd_out 12 (by kernel_rfl) _ rfl) fun w' h => ⟨load_ref (hLm w' h), rfl⟩), ?_⟩
    refine ⟨meek_plain rfl (body_move _ rfl (opd_out 1 (by kernel_rfl) _ rfl)), ?_⟩
    refine ⟨meek_plain rfl (body_call2 _ _ _ _ _ _ rfl (by kernel_rfl) (opd_in 3 36 (by kernel_rfl)) (opd_in 4 37 (by kernel_rfl)) fun v u w' h hv hu => ?_), ?_⟩
    · obtain rfl := hv
      obtain rfl := hu
      refine (rwrite_walk _ M s _ (HU2.out.next h) HOM.out (by rw [HMA.out]; simp; omega)).mono ?_
      rintro e w9 ⟨v9, rfl, hc9, hb9⟩
      exact ⟨_, rfl, hb9, by rw [HNq.out]; exact hc9⟩
    exact trivial
  · intro g w3 h3 hend
    have hck3 : CK w3 (g 35) T := meek_val hend 2 35 (by kernel_rfl) _ rfl
    have hrv3 : RV w3 (g 38) N := meek_val hend 5 38 (by kernel_rfl) _ rfl
    have hx3 := hLs w3 h3
    have hy3 := hLm w3 h3
    have HV3 := Lib.hid hck3; have HU3 := Lib.hid hrv3
    have HB3 : Hid (Below w.heap.size w w3) := below_next HB2.out h3
    have HX3 := Lib.hid hx3; have HY3 := Lib.hid hy3
    obtain ⟨A5, k5, A6, k6, e35⟩ := hck3.form
    obtain ⟨vr, vk', e38, h21, h22⟩ := hrv3
    have h25 := h21.1; have h26 := h22.1
    obtain ⟨-, A7, k7, rfl, -, -, -, -⟩ := h25
    obtain ⟨-, A8, k8, rfl, -, -, -, -⟩ := h26
    clear hend hck3 hLs hLm h21 h22 h3
    simp only [putAll, Act.put, List.take_succ_cons, List.take_zero, List.drop_succ_cons, List.drop_zero, List.setIfInBounds_toArray, List.set_cons_succ, List.set_cons_zero, e35, e38]
    rw [Scr.vals_eq T, Ref.vals_eq N]
    generalize g 33 = z33
    generalize g 34 = z34
    generalize g 36 = z36
    generalize g 37 = z37
    have g0 : w3.cell? ⟨b7, 0, none⟩ = some (.int .i64 S.cols) := cell_of_row _ _ _ _ _ _ hx3
    have g1 : w3.cell? ⟨b7, 1, none⟩ = some (.int .i64 S.rows) := cell_of_row _ _ _ _ _ _ hx3
    have g2 : w3.cell? ⟨b7, 2, none⟩ = some (.int .i64 S.most) := cell_of_row _ _ _ _ _ _ hx3
    have g3 : w3.cell? ⟨b7, 3, none⟩ = some (.int .i64 S.x) := cell_of_row _ _ _ _ _ _ hx3
    have g4 : w3.cell? ⟨b7, 4, none⟩ = some (.int .i64 S.y) := cell_of_row _ _ _ _ _ _ hx3
    have g5 : w3.cell? ⟨b7, 5, none⟩ = some (.slice A1 S.grid.length k1) := cell_of_row _ _ _ _ _ _ hx3
    have g6 : w3.cell? ⟨b7, 6, none⟩ = some (.slice A2 S.kept.length k2) := cell_of_row _ _ _ _ _ _ hx3
    have g7 : w3.cell? ⟨b7, 7, none⟩ = some (.int .i64 S.st) := cell_of_row _ _ _ _ _ _ hx3
    have g8 : w3.cell? ⟨b7, 8, none⟩ = some (.int .i64 S.n0) := cell_of_row _ _ _ _ _ _ hx3
    have g9 : w3.cell? ⟨b7, 9, none⟩ = some (.int .i64 S.n1) := cell_of_row _ _ _ _ _ _ hx3
    have g10 : w3.cell? ⟨b7, 10, none⟩ = some (.int .i64 S.num) := cell_of_row _ _ _ _ _ _ hx3
    have fu0 : w3.frozen? ⟨b7, 0, none⟩ = false := frozen_of_row _ _ _ _ _ hx3
    have fu1 : w3.frozen? ⟨b7, 1, none⟩ = false := frozen_of_row _ _ _ _ _ hx3
    have fu2 : w3.frozen? ⟨b7, 2, none⟩ = false := frozen_of_row _ _ _ _ _ hx3
    have fu3 : w3.frozen? ⟨b7, 3, none⟩ = false := frozen_of_row _ _ _ _ _ hx3
    have fu4 : w3.frozen? ⟨b7, 4, none⟩ = false := frozen_of_row _ _ _ _ _ hx3
    have fu5 : w3.frozen? ⟨b7, 5, none⟩ = false := frozen_of_row _ _ _ _ _ hx3
    have fu6 : w3.frozen? ⟨b7, 6, none⟩ = false := frozen_of_row _ _ _ _ _ hx3
    have fu7 : w3.frozen? ⟨b7, 7, none⟩ = false := frozen_of_row _ _ _ _ _ hx3
    have fu8 : w3.frozen? ⟨b7, 8, none⟩ = false := frozen_of_row _ _ _ _ _ hx3
    have fu9 : w3.frozen? ⟨b7, 9, none⟩ = false := frozen_of_row _ _ _ _ _ hx3
    have fu10 : w3.frozen? ⟨b7, 10, none⟩ = false := frozen_of_row _ _ _ _ _ hx3
    have o0 : w3.cell? ⟨b7 + 1, 0, none⟩ = some (.int .i64 M.w) := cell_of_row _ _ _ _ _ _ hy3
    have o1 : w3.cell? ⟨b7 + 1, 1, none⟩ = some (.int .i64 M.h) := cell_of_row _ _ _ _ _ _ hy3
    have o2 : w3.cell? ⟨b7 + 1, 2, none⟩ = some (.int .i64 M.most) := cell_of_row _ _ _ _ _ _ hy3
    have o3 : w3.cell? ⟨b7 + 1, 3, none⟩ = some (.slice A3 M.rows.length k3) := cell_of_row _ _ _ _ _ _ hy3
    have o4 : w3.cell? ⟨b7 + 1, 4, none⟩ = some (.slice A4 M.kept.length k4) := cell_of_row _ _ _ _ _ _ hy3
    have o5 : w3.cell? ⟨b7 + 1, 5, none⟩ = some (.int .i64 M.x) := cell_of_row _ _ _ _ _ _ hy3
    have o6 : w3.cell? ⟨b7 + 1, 6, none⟩ = some (.int .i64 M.y) := cell_of_row _ _ _ _ _ _ hy3
    have o7 : w3.cell? ⟨b7 + 1, 7, none⟩ = some (.int .i64 M.begun) := cell_of_row _ _ _ _ _ _ hy3
    have o8 : w3.cell? ⟨b7 + 1, 8, none⟩ = some (.string (bs M.args)) := cell_of_row _ _ _ _ _ _ hy3
    have u0 : w3.frozen? ⟨b7 + 1, 0, none⟩ = false := frozen_of_row _ _ _ _ _ hy3
    have u1 : w3.frozen? ⟨b7 + 1, 1, none⟩ = false := frozen_of_row _ _ _ _ _ hy3
    have u2 : w3.frozen? ⟨b7 + 1, 2, none⟩ = false := frozen_of_row _ _ _ _ _ hy3
    have u3 : w3.frozen? ⟨b7 + 1, 3, none⟩ = false := frozen_of_row _ _ _ _ _ hy3
    have u4 : w3.frozen? ⟨b7 + 1, 4, none⟩ = false := frozen_of_row _ _ _ _ _ hy3
    have u5 : w3.frozen? ⟨b7 + 1, 5, none⟩ = false := frozen_of_row _ _ _ _ _ hy3
    have u6 : w3.frozen? ⟨b7 + 1, 6, none⟩ = false := frozen_of_row _ _ _ _ _ hy3
    have u7 : w3.frozen? ⟨b7 + 1, 7, none⟩ = false := frozen_of_row _ _ _ _ _ hy3
    have u8 : w3.frozen? ⟨b7 + 1, 8, none⟩ = false := frozen_of_row _ _ _ _ _ hy3
    have hs3 : b7 + 1 < w3.heap.size := block_lt hy3
    rw [e35] at HV3
    rw [e38] at HU3
    clear hx3 hy3 e35 e38
    go_upto_region 7 with fail
    obtain ⟨w5, hw5, hx5, hy5, hc5, hr5, hB5⟩ := two_stored HX3.out HY3.out HV3.out HU3.out HB3.out hcap
    have HX5 := Lib.hid hx5; have HY5 := Lib.hid hy5; have HV5 := Lib.hid hc5; have HU5 := Lib.hid hr5; have HB5 := Lib.hid hB5
    change Code.wp _ _ _ _ ((w3.setCells b7 0 (T.vals (.slice A5 T.grid.length k5) (.slice A6 T.kept.length k6)).toList).setCells (b7 + 1) 0 (N.vals (.slice A7 N.rows.length k7) (.slice A8 N.kept.length k8)).toList)
    rw [← hw5]
    clear hw5 hc5 hr5 hB5 HX3 HY3 HV3 HU3 HB3 hs3
    have g0 : w5.cell? ⟨b7, 0, none⟩ = some (.int .i64 T.cols) := cell_of_row _ _ _ _ _ _ hx5
    have g1 : w5.cell? ⟨b7, 1, none⟩ = some (.int .i64 T.rows) := cell_of_row _ _ _ _ _ _ hx5
    have g2 : w5.cell? ⟨b7, 2, none⟩ = some (.int .i64 T.most) := cell_of_row _ _ _ _ _ _ hx5
    have g3 : w5.cell? ⟨b7, 3, none⟩ = some (.int .i64 T.x) := cell_of_row _ _ _ _ _ _ hx5
    have g4 : w5.cell? ⟨b7, 4, none⟩ = some (.int .i64 T.y) := cell_of_row _ _ _ _ _ _ hx5
    have g5 : w5.cell? ⟨b7, 5, none⟩ = some (.slice A5 T.grid.length k5) := cell_of_row _ _ _ _ _ _ hx5
    have g6 : w5.cell? ⟨b7, 6, none⟩ = some (.slice A6 T.kept.length k6) := cell_of_row _ _ _ _ _ _ hx5
    have g7 : w5.cell? ⟨b7, 7, none⟩ = some (.int .i64 T.st) := cell_of_row _ _ _ _ _ _ hx5
    have g8 : w5.cell? ⟨b7, 8, none⟩ = some (.int .i64 T.n0) := cell_of_row _ _ _ _ _ _ hx5
    have g9 : w5.cell? ⟨b7, 9, none⟩ = some (.int .i64 T.n1) := cell_of_row _ _ _ _ _ _ hx5
    have g10 : w5.cell? ⟨b7, 10, none⟩ = some (.int .i64 T.num) := cell_of_row _ _ _ _ _ _ hx5
    clear hx5
    go_wp2_with fail
    refine (resize_no _ T c r _ HV5.out (.inr hf)).mono ?_
    rintro e w6 ⟨v6, rfl, hck6, hb6⟩
    clear g0 g1 g2 g3 g4 g5 g6 g7 g8 g9 g10
    have HV6 := Lib.hid hck6
    have hy6 := (hb6.block _ (block_lt hy5)).trans hy5
    have HU6 := Lib.hid (HU5.out.next hb6)
    have HB6 : Hid (Below w.heap.size w w6) := below_next HB5.out hb6
    obtain ⟨A9, k9, A10, k10, rfl⟩ := hck6.form
    clear hck6 hb6 HX5 HY5 HV5 HU5 HB5 hy5
    rw [Scr.vals_eq T]
    go_upto_region 8 with fail
    obtain ⟨w7, hw7⟩ : ∃ w7, w7 = w6.alloc (.cells (T.vals (.slice A9 T.grid.length k9) (.slice A10 T.kept.length k10)) 29) := ⟨_, rfl⟩
    have hb7 : Below w6.heap.size w6 w7 := by rw [hw7]; exact (Below.refl _ _).alloc (Nat.le_refl _) _
    have hx9 : w7.heap[w6.heap.size]? = some (.cells (T.vals (.slice A9 T.grid.length k9) (.slice A10 T.kept.length k10)) 29 (0, 0)) := by rw [hw7]; exact heap_alloc_new _ _
    have hy9 := (hb7.block _ (block_lt hy6)).trans hy6
    have HV := Lib.hid (HV6.out.next hb7)
    have HU := Lib.hid (HU6.out.next hb7)
    have HB : Hid (Below w.heap.size w w7) := below_next HB6.out hb7
    rw [Scr.vals_eq T] at hw7
    rw [← hw7]
    obtain ⟨b9, hb9⟩ : ∃ b9, b9 = w6.heap.size := ⟨_, rfl⟩
    rw [← hb9] at hx9 ⊢
    clear hw7 hb7 HV6 HU6 HB6 hb9 hy6
    go_upto_region 9 with fail
    have HE := Lib.hid (HSI.out.eqv HON.out)
    have hLs : ∀ w', Later w7 w' → w'.heap[b9]? = some (.cells (T.vals (.slice A9 T.grid.length k9) (.slice A10 T.kept.length k10)) 29 (0, 0)) := fun w' h => (h.block _ (block_lt hx9)).trans hx9
    have hLm : ∀ w', Later w7 w' → w'.heap[b7 + 1]? = some (.cells (N.vals (.slice A7 N.rows.length k7) (.slice A8 N.kept.length k8)) 31 (0, 0)) := fun w' h => (h.block _ (block_lt hy9)).trans hy9
    clear hx9 hy9
    refine wp_region_meek0 [Stay.val (.int .i64 17), Stay.val (.bool true), Stay.val (.bool true), Stay.val (.agg (T.vals (.slice A9 T.grid.length k9) (.slice A10 T.kept.length k10))), Stay.val (.agg (N.vals (.slice A7 N.rows.length k7) (.slice A8 N.kept.length k8))), Stay.val (.bool true), Stay.val (.bool true), Stay.val (.bool true), Stay.val (.bool true), Stay.val (.bool true), Stay.val (.bool true)] 93 rfl trivial (by kernel_rfl) ?_ ?_
    · refine ⟨meek_plain rfl (body_move _ rfl (opd_out 15 (by kernel_rfl) _ rfl)), ?_⟩
      refine ⟨meek_plain rfl (body_two _ _ _ _ (.bool true) (opd_in 0 60 (by kernel_rfl)) (opd_const (.int .i64 17)) (fun _ => rfl) fun ρ w h1 h2 => (by simp [execOp, h1, h2, go_sem])), ?_⟩
      refine ⟨meek_plain rfl (body_move _ rfl (opd_in 1 61 (by kernel_rfl))), ?_⟩
      refine ⟨meek_on 2 true 93 rfl (by kernel_rfl) (fun _ _ h => h) (body_load _ _ _ _ rfl (opd_out 14 (by kernel_rfl) _ rfl) fun w' h => ⟨load_scr (hLs w' h), rfl⟩), ?_⟩
      refine ⟨meek_on 2 true 93 rfl (by kernel_rfl) (fun _ _ h => h) (body_load _ _ _ _ rfl (opd_out 12 (by kernel_rfl) _ rfl) fun w' h => ⟨load_ref (hLm w' h), rfl⟩), ?_⟩
      refine ⟨meek_on 2 true 93 rfl (by kernel_rfl) (fun _ _ h => h) (body_call2 _ _ _ _ _ _ rfl (by kernel_rfl) (opd_in 3 63 (by kernel_rfl)) (opd_in 4 64 (by kernel_rfl)) fun v u w' h hv hu => ?_), ?_⟩
      · obtain rfl := hv
        obtain rfl := hu
        refine (same_yes _ _ T N _ (HV.out.next h).cv (HU.out.next h) HOT.out HON.out HE.out).mono ?_
        rintro e w9 ⟨rfl, hb9⟩
        exact ⟨_, rfl, hb9, rfl⟩
      refine ⟨meek_plain rfl (body_pick _ _ _ true rfl (opd_in 2 62 (by kernel_rfl)) (opd_in 5 65 (by kernel_rfl))), ?_⟩
      refine ⟨meek_plain rfl (body_move _ rfl (opd_in 6 66 (by kernel_rfl))), ?_⟩
      refine ⟨meek_on 7 true 93 rfl (by kernel_rfl) (fun _ _ h => h) (body_call0 _ _ rfl (by kernel_rfl)  fun  w' h  => ?_), ?_⟩
      · refine (awake_walk w').mono ?_
        rintro e w9 ⟨rfl, hb9⟩
        exact ⟨_, rfl, hb9, rfl⟩
      refine ⟨meek_plain rfl (body_pick _ _ _ true rfl (opd_in 7 67 (by kernel_rfl)) (opd_in 8 68 (by kernel_rfl))), ?_⟩
      refine ⟨meek_plain rfl (body_assign _ rfl (opd_in 9 69 (by kernel_rfl))), ?_⟩
      exact trivial
    · intro g w12 h12 hend
      have e6 : g 10 = .bool true := meek_val hend 10 10 (by kernel_rfl) _ rfl
      clear hend
      simp only [putAll, Act.put, List.setIfInBounds_toArray, List.set_cons_succ, List.set_cons_zero, e6]
      clear e6
      go_wp2_with fail
      go_ret
      exact ⟨rfl, below_next HB.out h12⟩

set_option maxRecDepth 100000 in
set_option maxHeartbeats 1600000 in
theorem sizes_no3 (a b k : Nat) (c r : Int) (s t : ByteArray) (w : World) (ha : a < 256) (hb : b < 256) (hk : k < 256) (hs : s.size ≤ 300) (ht : t.size ≤ 300) (hf : fitsB c r = false) (hq1 : decide ((c : Int) < 1) = false) (hq2 : decide ((c : Int) > 128) = false) (hq3 : decide ((r : Int) < 1) = false) (hq4 : decide ((r : Int) > 64) = true) :
    Calls Tryd.prog 6 #[.agg #[.int .u8 a, .int .u8 b, .int .u8 k], .string s, .string t, .int .i64 c, .int .i64 r] w (ValPost w (.bool true)) := by
  have hd : decide ((s.size : Int) > 300) = false := by simp; omega
  have hd2 : decide ((t.size : Int) > 300) = false := by simp; omega
  go_enter Tryd.func6, Tryd.ntmps6
  go_wp2_with fail
  refine (made_walk a b k _ ha hb hk).mono ?_
  rintro e w1 ⟨v1, u1, rfl, hck, hrv, hb1⟩
  have hok := newScr_ok (1 + a % 20) (1 + b % 8) (k % 12) (by omega) (by omega) (by omega) (by omega) (by omega)
  have hom := newRef_ok (1 + a % 20) (1 + b % 8) (k % 12) (by omega) (by omega) (by omega) (by omega) (by omega)
  have hsim := sim_new (1 + a % 20) (1 + b % 8) (k % 12)
  obtain ⟨S, hS⟩ : ∃ S : Scr, S = newScr (1 + a % 20) (1 + b % 8) (k % 12) := ⟨_, rfl⟩
  obtain ⟨M, hM⟩ : ∃ M : Ref, M = newRef (1 + a % 20) (1 + b % 8) (k % 12) := ⟨_, rfl⟩
  have HMA : Hid (M.args = []) := by rw [hM]; exact Lib.hid rfl
  rw [← hS] at hck hok hsim
  rw [← hM] at hrv hom hsim
  have HV1 := Lib.hid hck; have HO := Lib.hid hok; have HOM := Lib.hid hom; have HU1 := Lib.hid hrv
  obtain ⟨T, hT⟩ : ∃ T : Scr, T = S.bytes s.data.toList := ⟨_, rfl⟩
  obtain ⟨N, hN⟩ : ∃ N : Ref, N = M.bytes s.data.toList := ⟨_, rfl⟩
  have HOT : Hid T.Ok := by rw [hT]; exact hok.bytes _
  have HON : Hid N.Ok := by rw [hN]; exact hom.bytes _
  have HSI : Hid (Sim T N) := by rw [hT, hN]; exact hsim.bytes hom _
  have HNA : Hid (N.args.length ≤ 300) := by rw [hN]; refine Nat.le_trans (bytes_args _ _) ?_; rw [HMA.out]; simp; omega
  have HTq := Lib.hid hT; have HNq := Lib.hid hN
  have HB1 : Hid (Below w.heap.size w w1) := below_next ((Below.refl _ _).alloc (Nat.le_refl _) _) hb1
  obtain ⟨A1, k1, A2, k2, rfl⟩ := hck.form
  obtain ⟨vr, vk', rfl, h21, h22⟩ := hrv
  have h25 := h21.1; have h26 := h22.1
  obtain ⟨-, A3, k3, rfl, -, -, -, -⟩ := h25
  obtain ⟨-, A4, k4, rfl, -, -, -, -⟩ := h26
  clear hck h21 h22 hok hom hsim hb1 hS hM hT hN
  rw [Scr.vals_eq S, Ref.vals_eq M]
  go_upto_region 6 with fail
  obtain ⟨w2, hw2⟩ : ∃ w2, w2 = (w1.alloc (.cells (S.vals (.slice A1 S.grid.length k1) (.slice A2 S.kept.length k2)) 29)).alloc (.cells (M.vals (.slice A3 M.rows.length k3) (.slice A4 M.kept.length k4)) 31) := ⟨_, rfl⟩
  have hb12 : Below w1.heap.size w1 w2 := by rw [hw2]; exact below_alloc2 _ _ _
  have hx2 : w2.heap[w1.heap.size]? = some (.cells (S.vals (.slice A1 S.grid.length k1) (.slice A2 S.kept.length k2)) 29 (0, 0)) := by rw [hw2]; exact alloc2_fst _ _ _
  have hy2 : w2.heap[w1.heap.size + 1]? = some (.cells (M.vals (.slice A3 M.rows.length k3) (.slice A4 M.kept.length k4)) 31 (0, 0)) := by rw [hw2]; exact alloc2_snd _ _ _
  have HV2 := Lib.hid (HV1.out.next hb12)
  have HU2 := Lib.hid (HU1.out.next hb12)
  have HB2 : Hid (Below w.heap.size w w2) := below_next HB1.out hb12
  have hcap : w.heap.size ≤ w1.heap.size := HB1.out.size
  rw [Scr.vals_eq S, Ref.vals_eq M] at hw2
  rw [← hw2]
  obtain ⟨b7, hb7⟩ : ∃ b7, b7 = w1.heap.size := ⟨_, rfl⟩
  rw [← hb7] at hx2 hy2 hcap ⊢
  have hLs : ∀ w', Later w2 w' → w'.heap[b7]? = some (.cells (S.vals (.slice A1 S.grid.length k1) (.slice A2 S.kept.length k2)) 29 (0, 0)) := fun w' h => (h.block _ (block_lt hx2)).trans hx2
  have hLm : ∀ w', Later w2 w' → w'.heap[b7 + 1]? = some (.cells (M.vals (.slice A3 M.rows.length k3) (.slice A4 M.kept.length k4)) 31 (0, 0)) := fun w' h => (h.block _ (block_lt hy2)).trans hy2
  clear hw2 hb12 HV1 HU1 HB1 hb7 hx2 hy2
  refine wp_region_meekT [Stay.val (.agg (S.vals (.slice A1 S.grid.length k1) (.slice A2 S.kept.length k2))), Stay.val (.string s), Stay.ck T, Stay.val (.agg (M.vals (.slice A3 M.rows.length k3) (.slice A4 M.kept.length k4))), Stay.val (.string s), Stay.rv N] 6 93 rfl (by kernel_rfl) (by kernel_rfl) ?_ ?_
  · refine ⟨meek_plain rfl (body_load _ _ _ _ rfl (opd_out 11 (by kernel_rfl) _ rfl) fun w' h => ⟨load_scr (hLs w' h), rfl⟩), ?_⟩
    refine ⟨meek_plain rfl (body_move _ rfl (opd_out 1 (by kernel_rfl) _ rfl)), ?_⟩
    refine ⟨meek_plain rfl (body_call2 _ _ _ _ _ _ rfl (by kernel_rfl) (opd_in 0 33 (by kernel_rfl)) (opd_in 1 34 (by kernel_rfl)) fun v u w' h hv hu => ?_), ?_⟩
    · obtain rfl := hv
      obtain rfl := hu
      refine (write_walk _ S s _ (HV2.out.next h).cv HO.out (by omega)).mono ?_
      rintro e w9 ⟨v9, rfl, hc9, hb9⟩
      exact ⟨_, rfl, hb9, by rw [HTq.out]; exact hc9⟩
    refine ⟨meek_plain rfl (body_load _ _ _ _ rfl (opd_out 12 (by kernel_rfl) _ rfl) fun w' h => ⟨load_ref (hLm w' h), rfl⟩), ?_⟩
    refine ⟨meek_plain rfl (body_move _ rfl (opd_out 1 (by kernel_rfl) _ rfl)), ?_⟩
    refine ⟨meek_plain rfl (body_call2 _ _ _ _ _ _ rfl (by kernel_rfl) (opd_in 3 36 (by kernel_rfl)) (opd_in 4 37 (by kernel_rfl)) fun v u w' h hv hu => ?_), ?_⟩
    · obtain rfl := hv
      obtain rfl := hu
      refine (rwrite_walk _ M s _ (HU2.out.next h) HOM.out (by rw [HMA.out]; simp; omega)).mono ?_
      rintro e w9 ⟨v9, rfl, hc9, hb9⟩
      exact ⟨_, rfl, hb9, by rw [HNq.out]; exact hc9⟩
    exact trivial
  · intro g w3 h3 hend
    have hck3 : CK w3 (g 35) T := meek_val hend 2 35 (by kernel_rfl) _ rfl
    have hrv3 : RV w3 (g 38) N := meek_val hend 5 38 (by kernel_rfl) _ rfl
    have hx3 := hLs w3 h3
    have hy3 := hLm w3 h3
    have HV3 := Lib.hid hck3; have HU3 := Lib.hid hrv3
    have HB3 : Hid (Below w.heap.size w w3) := below_next HB2.out h3
    have HX3 := Lib.hid hx3; have HY3 := Lib.hid hy3
    obtain ⟨A5, k5, A6, k6, e35⟩ := hck3.form
    obtain ⟨vr, vk', e38, h21, h22⟩ := hrv3
    have h25 := h21.1; have h26 := h22.1
    obtain ⟨-, A7, k7, rfl, -, -, -, -⟩ := h25
    obtain ⟨-, A8, k8, rfl, -, -, -, -⟩ := h26
    clear hend hck3 hLs hLm h21 h22 h3
    simp only [putAll, Act.put, List.take_succ_cons, List.take_zero, List.drop_succ_cons, List.drop_zero, List.setIfInBounds_toArray, List.set_cons_succ, List.set_cons_zero, e35, e38]
    rw [Scr.vals_eq T, Ref.vals_eq N]
    generalize g 33 = z33
    generalize g 34 = z34
    generalize g 36 = z36
    generalize g 37 = z37
    have g0 : w3.cell? ⟨b7, 0, none⟩ = some (.int .i64 S.cols) := cell_of_row _ _ _ _ _ _ hx3
    have g1 : w3.cell? ⟨b7, 1, none⟩ = some (.int .i64 S.rows) := cell_of_row _ _ _ _ _ _ hx3
    have g2 : w3.cell? ⟨b7, 2, none⟩ = some (.int .i64 S.most) := cell_of_row _ _ _ _ _ _ hx3
    have g3 : w3.cell? ⟨b7, 3, none⟩ = some (.int .i64 S.x) := cell_of_row _ _ _ _ _ _ hx3
    have g4 : w3.cell? ⟨b7, 4, none⟩ = some (.int .i64 S.y) := cell_of_row _ _ _ _ _ _ hx3
    have g5 : w3.cell? ⟨b7, 5, none⟩ = some (.slice A1 S.grid.length k1) := cell_of_row _ _ _ _ _ _ hx3
    have g6 : w3.cell? ⟨b7, 6, none⟩ = some (.slice A2 S.kept.length k2) := cell_of_row _ _ _ _ _ _ hx3
    have g7 : w3.cell? ⟨b7, 7, none⟩ = some (.int .i64 S.st) := cell_of_row _ _ _ _ _ _ hx3
    have g8 : w3.cell? ⟨b7, 8, none⟩ = some (.int .i64 S.n0) := cell_of_row _ _ _ _ _ _ hx3
    have g9 : w3.cell? ⟨b7, 9, none⟩ = some (.int .i64 S.n1) := cell_of_row _ _ _ _ _ _ hx3
    have g10 : w3.cell? ⟨b7, 10, none⟩ = some (.int .i64 S.num) := cell_of_row _ _ _ _ _ _ hx3
    have fu0 : w3.frozen? ⟨b7, 0, none⟩ = false := frozen_of_row _ _ _ _ _ hx3
    have fu1 : w3.frozen? ⟨b7, 1, none⟩ = false := frozen_of_row _ _ _ _ _ hx3
    have fu2 : w3.frozen? ⟨b7, 2, none⟩ = false := frozen_of_row _ _ _ _ _ hx3
    have fu3 : w3.frozen? ⟨b7, 3, none⟩ = false := frozen_of_row _ _ _ _ _ hx3
    have fu4 : w3.frozen? ⟨b7, 4, none⟩ = false := frozen_of_row _ _ _ _ _ hx3
    have fu5 : w3.frozen? ⟨b7, 5, none⟩ = false := frozen_of_row _ _ _ _ _ hx3
    have fu6 : w3.frozen? ⟨b7, 6, none⟩ = false := frozen_of_row _ _ _ _ _ hx3
    have fu7 : w3.frozen? ⟨b7, 7, none⟩ = false := frozen_of_row _ _ _ _ _ hx3
    have fu8 : w3.frozen? ⟨b7, 8, none⟩ = false := frozen_of_row _ _ _ _ _ hx3
    have fu9 : w3.frozen? ⟨b7, 9, none⟩ = false := frozen_of_row _ _ _ _ _ hx3
    have fu10 : w3.frozen? ⟨b7, 10, none⟩ = false := frozen_of_row _ _ _ _ _ hx3
    have o0 : w3.cell? ⟨b7 + 1, 0, none⟩ = some (.int .i64 M.w) := cell_of_row _ _ _ _ _ _ hy3
    have o1 : w3.cell? ⟨b7 + 1, 1, none⟩ = some (.int .i64 M.h) := cell_of_row _ _ _ _ _ _ hy3
    have o2 : w3.cell? ⟨b7 + 1, 2, none⟩ = some (.int .i64 M.most) := cell_of_row _ _ _ _ _ _ hy3
    have o3 : w3.cell? ⟨b7 + 1, 3, none⟩ = some (.slice A3 M.rows.length k3) := cell_of_row _ _ _ _ _ _ hy3
    have o4 : w3.cell? ⟨b7 + 1, 4, none⟩ = some (.slice A4 M.kept.length k4) := cell_of_row _ _ _ _ _ _ hy3
    have o5 : w3.cell? ⟨b7 + 1, 5, none⟩ = some (.int .i64 M.x) := cell_of_row _ _ _ _ _ _ hy3
    have o6 : w3.cell? ⟨b7 + 1, 6, none⟩ = some (.int .i64 M.y) := cell_of_row _ _ _ _ _ _ hy3
    have o7 : w3.cell? ⟨b7 + 1, 7, none⟩ = some (.int .i64 M.begun) := cell_of_row _ _ _ _ _ _ hy3
    have o8 : w3.cell? ⟨b7 + 1, 8, none⟩ = some (.string (bs M.args)) := cell_of_row _ _ _ _ _ _ hy3
    have u0 : w3.frozen? ⟨b7 + 1, 0, none⟩ = false := frozen_of_row _ _ _ _ _ hy3
    have u1 : w3.frozen? ⟨b7 + 1, 1, none⟩ = false := frozen_of_row _ _ _ _ _ hy3
    have u2 : w3.frozen? ⟨b7 + 1, 2, none⟩ = false := frozen_of_row _ _ _ _ _ hy3
    have u3 : w3.frozen? ⟨b7 + 1, 3, none⟩ = false := frozen_of_row _ _ _ _ _ hy3
    have u4 : w3.frozen? ⟨b7 + 1, 4, none⟩ = false := frozen_of_row _ _ _ _ _ hy3
    have u5 : w3.frozen? ⟨b7 + 1, 5, none⟩ = false := frozen_of_row _ _ _ _ _ hy3
    have u6 : w3.frozen? ⟨b7 + 1, 6, none⟩ = false := frozen_of_row _ _ _ _ _ hy3
    have u7 : w3.frozen? ⟨b7 + 1, 7, none⟩ = false := frozen_of_row _ _ _ _ _ hy3
    have u8 : w3.frozen? ⟨b7 + 1, 8, none⟩ = false := frozen_of_row _ _ _ _ _ hy3
    have hs3 : b7 + 1 < w3.heap.size := block_lt hy3
    rw [e35] at HV3
    rw [e38] at HU3
    clear hx3 hy3 e35 e38
    go_upto_region 7 with fail
    obtain ⟨w5, hw5, hx5, hy5, hc5, hr5, hB5⟩ := two_stored HX3.out HY3.out HV3.out HU3.out HB3.out hcap
    have HX5 := Lib.hid hx5; have HY5 := Lib.hid hy5; have HV5 := Lib.hid hc5; have HU5 := Lib.hid hr5; have HB5 := Lib.hid hB5
    change Code.wp _ _ _ _ ((w3.setCells b7 0 (T.vals (.slice A5 T.grid.length k5) (.slice A6 T.kept.length k6)).toList).setCells (b7 + 1) 0 (N.vals (.slice A7 N.rows.length k7) (.slice A8 N.kept.length k8)).toList)
    rw [← hw5]
    clear hw5 hc5 hr5 hB5 HX3 HY3 HV3 HU3 HB3 hs3
    have g0 : w5.cell? ⟨b7, 0, none⟩ = some (.int .i64 T.cols) := cell_of_row _ _ _ _ _ _ hx5
    have g1 : w5.cell? ⟨b7, 1, none⟩ = some (.int .i64 T.rows) := cell_of_row _ _ _ _ _ _ hx5
    have g2 : w5.cell? ⟨b7, 2, none⟩ = some (.int .i64 T.most) := cell_of_row _ _ _ _ _ _ hx5
    have g3 : w5.cell? ⟨b7, 3, none⟩ = some (.int .i64 T.x) := cell_of_row _ _ _ _ _ _ hx5
    have g4 : w5.cell? ⟨b7, 4, none⟩ = some (.int .i64 T.y) := cell_of_row _ _ _ _ _ _ hx5
    have g5 : w5.cell? ⟨b7, 5, none⟩ = some (.slice A5 T.grid.length k5) := cell_of_row _ _ _ _ _ _ hx5
    have g6 : w5.cell? ⟨b7, 6, none⟩ = some (.slice A6 T.kept.length k6) := cell_of_row _ _ _ _ _ _ hx5
    have g7 : w5.cell? ⟨b7, 7, none⟩ = some (.int .i64 T.st) := cell_of_row _ _ _ _ _ _ hx5
    have g8 : w5.cell? ⟨b7, 8, none⟩ = some (.int .i64 T.n0) := cell_of_row _ _ _ _ _ _ hx5
    have g9 : w5.cell? ⟨b7, 9, none⟩ = some (.int .i64 T.n1) := cell_of_row _ _ _ _ _ _ hx5
    have g10 : w5.cell? ⟨b7, 10, none⟩ = some (.int .i64 T.num) := cell_of_row _ _ _ _ _ _ hx5
    clear hx5
    go_wp2_with fail
    refine (resize_no _ T c r _ HV5.out (.inr hf)).mono ?_
    rintro e w6 ⟨v6, rfl, hck6, hb6⟩
    clear g0 g1 g2 g3 g4 g5 g6 g7 g8 g9 g10
    have HV6 := Lib.hid hck6
    have hy6 := (hb6.block _ (block_lt hy5)).trans hy5
    have HU6 := Lib.hid (HU5.out.next hb6)
    have HB6 : Hid (Below w.heap.size w w6) := below_next HB5.out hb6
    obtain ⟨A9, k9, A10, k10, rfl⟩ := hck6.form
    clear hck6 hb6 HX5 HY5 HV5 HU5 HB5 hy5
    rw [Scr.vals_eq T]
    go_upto_region 8 with fail
    obtain ⟨w7, hw7⟩ : ∃ w7, w7 = w6.alloc (.cells (T.vals (.slice A9 T.grid.length k9) (.slice A10 T.kept.length k10)) 29) := ⟨_, rfl⟩
    have hb7 : Below w6.heap.size w6 w7 := by rw [hw7]; exact (Below.refl _ _).alloc (Nat.le_refl _) _
    have hx9 : w7.heap[w6.heap.size]? = some (.cells (T.vals (.slice A9 T.grid.length k9) (.slice A10 T.kept.length k10)) 29 (0, 0)) := by rw [hw7]; exact heap_alloc_new _ _
    have hy9 := (hb7.block _ (block_lt hy6)).trans hy6
    have HV := Lib.hid (HV6.out.next hb7)
    have HU := Lib.hid (HU6.out.next hb7)
    have HB : Hid (Below w.heap.size w w7) := below_next HB6.out hb7
    rw [Scr.vals_eq T] at hw7
    rw [← hw7]
    obtain ⟨b9, hb9⟩ : ∃ b9, b9 = w6.heap.size := ⟨_, rfl⟩
    rw [← hb9] at hx9 ⊢
    clear hw7 hb7 HV6 HU6 HB6 hb9 hy6
    go_upto_region 9 with fail
    have HE := Lib.hid (HSI.out.eqv HON.out)
    have hLs : ∀ w', Later w7 w' → w'.heap[b9]? = some (.cells (T.vals (.slice A9 T.grid.length k9) (.slice A10 T.kept.length k10)) 29 (0, 0)) := fun w' h => (h.block _ (block_lt hx9)).trans hx9
    have hLm : ∀ w', Later w7 w' → w'.heap[b7 + 1]? = some (.cells (N.vals (.slice A7 N.rows.length k7) (.slice A8 N.kept.length k8)) 31 (0, 0)) := fun w' h => (h.block _ (block_lt hy9)).trans hy9
    clear hx9 hy9
    refine wp_region_meek0 [Stay.val (.int .i64 17), Stay.val (.bool true), Stay.val (.bool true), Stay.val (.agg (T.vals (.slice A9 T.grid.length k9) (.slice A10 T.kept.length k10))), Stay.val (.agg (N.vals (.slice A7 N.rows.length k7) (.slice A8 N.kept.length k8))), Stay.val (.bool true), Stay.val (.bool true), Stay.val (.bool true), Stay.val (.bool true), Stay.val (.bool true), Stay.val (.bool true)] 93 rfl trivial (by kernel_rfl) ?_ ?_
    · refine ⟨meek_plain rfl (body_move _ rfl (opd_out 15 (by kernel_rfl) _ rfl)), ?_⟩
      refine ⟨meek_plain rfl (body_two _ _ _ _ (.bool true) (opd_in 0 60 (by kernel_rfl)) (opd_const (.int .i64 17)) (fun _ => rfl) fun ρ w h1 h2 => (by simp [execOp, h1, h2, go_sem])), ?_⟩
      refine ⟨meek_plain rfl (body_move _ rfl (opd_in 1 61 (by kernel_rfl))), ?_⟩
      refine ⟨meek_on 2 true 93 rfl (by kernel_rfl) (fun _ _ h => h) (body_load _ _ _ _ rfl (opd_out 14 (by kernel_rfl) _ rfl) fun w' h => ⟨load_scr (hLs w' h), rfl⟩), ?_⟩
      refine ⟨meek_on 2 true 93 rfl (by kernel_rfl) (fun _ _ h => h) (body_load _ _ _ _ rfl (opd_out 12 (by kernel_rfl) _ rfl) fun w' h => ⟨load_ref (hLm w' h), rfl⟩), ?_⟩
      refine ⟨meek_on 2 true 93 rfl (by kernel_rfl) (fun _ _ h => h) (body_call2 _ _ _ _ _ _ rfl (by kernel_rfl) (opd_in 3 63 (by kernel_rfl)) (opd_in 4 64 (by kernel_rfl)) fun v u w' h hv hu => ?_), ?_⟩
      · obtain rfl := hv
        obtain rfl := hu
        refine (same_yes _ _ T N _ (HV.out.next h).cv (HU.out.next h) HOT.out HON.out HE.out).mono ?_
        rintro e w9 ⟨rfl, hb9⟩
        exact ⟨_, rfl, hb9, rfl⟩
      refine ⟨meek_plain rfl (body_pick _ _ _ true rfl (opd_in 2 62 (by kernel_rfl)) (opd_in 5 65 (by kernel_rfl))), ?_⟩
      refine ⟨meek_plain rfl (body_move _ rfl (opd_in 6 66 (by kernel_rfl))), ?_⟩
      refine ⟨meek_on 7 true 93 rfl (by kernel_rfl) (fun _ _ h => h) (body_call0 _ _ rfl (by kernel_rfl)  fun  w' h  => ?_), ?_⟩
      · refine (awake_walk w').mono ?_
        rintro e w9 ⟨rfl, hb9⟩
        exact ⟨_, rfl, hb9, rfl⟩
      refine ⟨meek_plain rfl (body_pick _ _ _ true rfl (opd_in 7 67 (by kernel_rfl)) (opd_in 8 68 (by kernel_rfl))), ?_⟩
      refine ⟨meek_plain rfl (body_assign _ rfl (opd_in 9 69 (by kernel_rfl))), ?_⟩
      exact trivial
    · intro g w12 h12 hend
      have e6 : g 10 = .bool true := meek_val hend 10 10 (by kernel_rfl) _ rfl
      clear hend
      simp only [putAll, Act.put, List.setIfInBounds_toArray, List.set_cons_succ, List.set_cons_zero, e6]
      clear e6
      go_wp2_with fail
      go_ret
      exact ⟨rfl, below_next HB.out h12⟩

set_option maxRecDepth 100000 in
set_option maxHeartbeats 1600000 in
theorem sizes_big0 (a b k : Nat) (c r : Int) (s t : ByteArray) (w : World) (hs2 : s.size ≤ 9223372036854775807) (h1 : 300 < s.size) :
    Calls Tryd.prog 6 #[.agg #[.int .u8 a, .int .u8 b, .int .u8 k], .string s, .string t, .int .i64 c, .int .i64 r] w (ValPost w (.bool true)) := by
  have hd : decide ((s.size : Int) > 300) = true := by simp; omega
  go_enter Tryd.func6, Tryd.ntmps6
  go_wp2_with fail
  refine (awake_walk _).mono ?_
  rintro e w1 ⟨rfl, hb1⟩
  have HB1 : Hid (Below w.heap.size w w1) := below_next ((Below.refl _ _).alloc (Nat.le_refl _) _) hb1
  clear hb1
  go_wp2_with fail
  go_ret
  exact ⟨rfl, HB1.out⟩

set_option maxRecDepth 100000 in
set_option maxHeartbeats 1600000 in
theorem sizes_big1 (a b k : Nat) (c r : Int) (s t : ByteArray) (w : World) (hs2 : s.size ≤ 9223372036854775807) (ht2 : t.size ≤ 9223372036854775807) (h1 : s.size ≤ 300) (h2 : 300 < t.size) :
    Calls Tryd.prog 6 #[.agg #[.int .u8 a, .int .u8 b, .int .u8 k], .string s, .string t, .int .i64 c, .int .i64 r] w (ValPost w (.bool true)) := by
  have hd : decide ((s.size : Int) > 300) = false := by simp; omega
  have hd2 : decide ((t.size : Int) > 300) = true := by simp; omega
  go_enter Tryd.func6, Tryd.ntmps6
  go_wp2_with fail
  refine (awake_walk _).mono ?_
  rintro e w1 ⟨rfl, hb1⟩
  have HB1 : Hid (Below w.heap.size w w1) := below_next ((Below.refl _ _).alloc (Nat.le_refl _) _) hb1
  clear hb1
  go_wp2_with fail
  go_ret
  exact ⟨rfl, HB1.out⟩

theorem sizes_all (a b k : Nat) (s t : ByteArray) (c r : Int) (w : World) (ha : a < 256) (hb : b < 256) (hk : k < 256) (hs : s.size ≤ maxLen) (ht : t.size ≤ maxLen) :
    Calls Tryd.prog 6 #[.agg #[.int .u8 a, .int .u8 b, .int .u8 k], .string s, .string t, .int .i64 c, .int .i64 r] w (ValPost w (.bool true)) := by
  unfold maxLen at hs ht
  by_cases h1 : 300 < s.size
  · exact sizes_big0 a b k c r s t w (by omega) h1
  by_cases h2 : 300 < t.size
  · exact sizes_big1 a b k c r s t w (by omega) (by omega) (by omega) h2
  by_cases q1 : c < 1
  · exact sizes_no0 a b k c r s t w ha hb hk (by omega) (by omega) (by unfold fitsB; simp; omega) (decide_eq_true q1)
  by_cases q2 : c > 128
  · exact sizes_no1 a b k c r s t w ha hb hk (by omega) (by omega) (by unfold fitsB; simp; omega) (decide_eq_false q1) (decide_eq_true q2)
  by_cases q3 : r < 1
  · exact sizes_no2 a b k c r s t w ha hb hk (by omega) (by omega) (by unfold fitsB; simp; omega) (decide_eq_false q1) (decide_eq_false q2) (decide_eq_true q3)
  by_cases q4 : r > 64
  · exact sizes_no3 a b k c r s t w ha hb hk (by omega) (by omega) (by unfold fitsB; simp; omega) (decide_eq_false q1) (decide_eq_false q2) (decide_eq_false q3) (decide_eq_true q4)
  obtain ⟨c', rfl⟩ : ∃ c' : Nat, c = c' := ⟨c.toNat, by omega⟩
  obtain ⟨r', rfl⟩ : ∃ r' : Nat, r = r' := ⟨r.toNat, by omega⟩
  exact sizes_yes a b k c' r' s t w ha hb hk (by omega) (by omega) (by omega) (by omega) (by omega) (by omega)

end Go.Proofs.YtiefpodmdpnppaaDoor
