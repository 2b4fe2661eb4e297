/-
  WALKS of layer 56's document: erase.
-/
import Derived.Test.YtiefpodmdpnppaaDoorCelU
namespace Go.Proofs.YtiefpodmdpnppaaDoor
open Go.RowKit
attribute [local go_sem ↓] Go.wp_at_zero Go.wp_at_succ

def Ref.erase (M : Ref) (y way x : Nat) : Ref :=
  if way = 0 then M.lay y x (List.replicate (M.w - x) 32) else if way = 1 then M.lay y 0 (List.replicate (x + 1) 32) else M.lay y 0 (List.replicate M.w 32)
theorem below_nextE {B : Nat} {a w w' : World} (h : Below B a w) (h2 : Below w.heap.size w w') (hB : B ≤ a.heap.size) : Below B a w' := below_base h h2 hB
theorem below_setB {B : Nat} {a w : World} (h : Below B a w) (j : Nat) (u : Value) : Below B a (w.setCell ⟨B, j, none⟩ u) := h.setCell (Nat.le_refl _) u
theorem keepE {w W w' : World} {M : Ref} {A3 A4 : Option Addr} {n3 n4 c3 c4 : Nat} (HX : Hid (W.heap[w.heap.size]? = some (.cells (M.vals (.slice A3 n3 c3) (.slice A4 n4 c4)) 31 (0, 0)))) (h : Below (w.heap.size + 1) W w') :
    w'.cell? ⟨w.heap.size, 0, none⟩ = some (.int .i64 M.w) ∧ w'.cell? ⟨w.heap.size, 1, none⟩ = some (.int .i64 M.h) ∧ w'.cell? ⟨w.heap.size, 2, none⟩ = some (.int .i64 M.most) ∧ w'.cell? ⟨w.heap.size, 3, none⟩ = some (.slice A3 n3 c3) ∧ w'.cell? ⟨w.heap.size, 4, none⟩ = some (.slice A4 n4 c4) ∧ w'.cell? ⟨w.heap.size, 5, none⟩ = some (.int .i64 M.x) ∧ w'.cell? ⟨w.heap.size, 6, none⟩ = some (.int .i64 M.y) ∧ w'.cell? ⟨w.heap.size, 7, none⟩ = some (.int .i64 M.begun) ∧ w'.cell? ⟨w.heap.size, 8, none⟩ = some (.string (bs M.args)) ∧ Hid (Below (w.heap.size + 1) W w') := by
  have hx : w'.heap[w.heap.size]? = some (.cells (M.vals (.slice A3 n3 c3) (.slice A4 n4 c4)) 31 (0, 0)) := (h.block _ (by omega)).trans HX.out
  exact ⟨cell_of_row _ _ _ _ _ _ hx, cell_of_row _ _ _ _ _ _ hx, cell_of_row _ _ _ _ _ _ hx, cell_of_row _ _ _ _ _ _ hx, cell_of_row _ _ _ _ _ _ hx, cell_of_row _ _ _ _ _ _ hx, cell_of_row _ _ _ _ _ _ hx, cell_of_row _ _ _ _ _ _ hx, cell_of_row _ _ _ _ _ _ hx, h⟩

set_option maxRecDepth 100000 in
set_option maxHeartbeats 1600000 in
theorem erase_walk (v : Value) (M : Ref) (y way x : Nat) (w : World) (h : RV w v M) (hr2 : M.rows.length ≤ 1000) (hy : y < M.rows.length) (hrw : (M.rows.getD y []).length = M.w) (hw : M.w ≤ 128) (hx : way = 0 ∨ way = 1 → x < M.w) :
    Calls Tryd.prog 51 #[v, .int .i64 y, .int .i64 way, .int .i64 x] w (RVPost w (M.erase y way x)) := by
  obtain ⟨vr, vk, rfl, h1, h2⟩ := h
  have H1 := Lib.hid h1; have H2 := Lib.hid h2
  obtain ⟨-, A4, c4, rfl, -, -, -, -⟩ := h2.1
  obtain ⟨-, A3, c3, rfl, -, -, -, -⟩ := h1.1
  clear h1 h2
  obtain ⟨n3, hn3⟩ : ∃ n : Nat, n = M.rows.length := ⟨_, rfl⟩
  obtain ⟨n4, hn4⟩ : ∃ n : Nat, n = M.kept.length := ⟨_, rfl⟩
  rw [← hn3] at H1 hr2 hy ⊢
  rw [← hn4] at H2 ⊢
  obtain ⟨W, hW⟩ : ∃ W, W = (w.alloc (.cells (M.vals (.slice A3 n3 c3) (.slice A4 n4 c4)) 31)).alloc (.cells #[.int .i64 0, .int .i64 0, .int .i64 0, .slice none 0 0, .slice none 0 0, .int .i64 0, .int .i64 0, .int .i64 0, .string ⟨#[]⟩] 31) := ⟨_, rfl⟩
  have hWx : W.heap[w.heap.size]? = some (.cells (M.vals (.slice A3 n3 c3) (.slice A4 n4 c4)) 31 (0, 0)) := by rw [hW]; exact alloc2_fst _ _ _
  have hWy : W.heap[w.heap.size + 1]? = some (.cells (zeroRef.vals nilS nilS) 31 (0, 0)) := by rw [hW]; exact alloc2_snd _ _ _
  have hWb : Below w.heap.size w W := by rw [hW]; exact below_alloc2 _ _ _
  have hWs : W.heap.size = w.heap.size + 2 := by rw [hW]; simp
  have lb1 : w.heap.size + 1 < W.heap.size := by omega
  have hBW : w.heap.size + 1 ≤ W.heap.size := by omega
  have HW := Lib.hid hW; have HX := Lib.hid hWx; have HY := Lib.hid hWy; have HB := Lib.hid hWb; have HS := Lib.hid hWs; have HN3 := Lib.hid hn3; have HN4 := Lib.hid hn4; have HRw := Lib.hid hrw
  have HRV : Hid (RV W.drew (.agg (M.vals (.slice A3 n3 c3) (.slice A4 n4 c4))) M) := ⟨_, _, rfl, by rw [← hn3]; exact H1.out.next (below_drew hWb), by rw [← hn4]; exact H2.out.next (below_drew hWb)⟩
  clear hW hWx hWy hWb hWs hn3 hn4 hrw
  by_cases h0 : way = 0
  · have t0 : ((way : Int) == 0) = true := by rw [h0]; rfl
    have hx := hx (Or.inl h0)
    obtain ⟨k, hk⟩ : ∃ k : Nat, k = M.w - x := ⟨_, rfl⟩
    have hwk : IntKind.i64.wrap ((M.w : Int) - (x : Int)) = (k : Int) := by rw [IntWalk.i64_in _ (by omega)]; omega
    obtain ⟨R, hR⟩ : ∃ R : ByteArray, R = bs (List.replicate k 32) := ⟨_, rfl⟩
    have HRs : Hid (R.size = k) := by rw [hR, bs_size, List.length_replicate]; exact Lib.hid rfl
    have HM : Hid (M.erase y way x = M.lay y x R.data.toList) := by unfold Ref.erase; rw [if_pos h0, hR, bs_list, hk]; exact Lib.hid rfl
    have HR := Lib.hid hR
    have hkx : x + k ≤ M.w := by omega
    clear h0 hk hR
    go_enter Tryd.func51, Tryd.ntmps51
    go_upto_region 3 with fail
    rw [← HW.out]
    clear HW
    go_region_held3 (fun w' => w'.cell? ⟨w.heap.size, 0, none⟩ = some (.int .i64 M.w) ∧ w'.cell? ⟨w.heap.size, 1, none⟩ = some (.int .i64 M.h) ∧ w'.cell? ⟨w.heap.size, 2, none⟩ = some (.int .i64 M.most) ∧ w'.cell? ⟨w.heap.size, 3, none⟩ = some (.slice A3 n3 c3) ∧ w'.cell? ⟨w.heap.size, 4, none⟩ = some (.slice A4 n4 c4) ∧ w'.cell? ⟨w.heap.size, 5, none⟩ = some (.int .i64 M.x) ∧ w'.cell? ⟨w.heap.size, 6, none⟩ = some (.int .i64 M.y) ∧ w'.cell? ⟨w.heap.size, 7, none⟩ = some (.int .i64 M.begun) ∧ w'.cell? ⟨w.heap.size, 8, none⟩ = some (.string (bs M.args)) ∧ Hid (Below (w.heap.size + 1) W w')) (exact keepE HX (by repeat (first | with_reducible refine below_setB ?_ _ _ | with_reducible refine below_drew ?_ | with_reducible exact Below.refl _ _ | with_reducible refine below_nextE ?_ (by with_reducible assumption) hBW)))
      (first
        | (go_at_call 39; refine (rblanks_any (k) _ (by omega)).mono ?_; rintro e w' ⟨rfl, rfl⟩; rw [← HR.out])
        | (go_at_call 50; refine (lay_walk (.agg (M.vals (.slice A3 n3 c3) (.slice A4 n4 c4))) M y x R W.drew HRV.out (by rw [← HN3.out]; exact hr2) (by rw [← HN3.out]; exact hy) (by rw [HRs.out, HRw.out]; omega) (by rw [HRw.out]; omega)).mono ?_; rintro e w' ⟨v', rfl, ⟨vr', vk', rfl, h1', h2'⟩, hb'⟩; have hy' := (hb'.block _ lb1).trans HY.out; have h3' := h1'.1; have h4' := h2'.1; obtain ⟨-, A5, c5, rfl, -, -, -, -⟩ := h3'; obtain ⟨-, A6, c6, rfl, -, -, -, -⟩ := h4'; unfold Ref.vals; have d0 : w'.cell? ⟨w.heap.size + 1, 0, none⟩ = some (.int .i64 0) := cell_of_row _ _ _ _ _ _ hy'; have z0 : w'.frozen? ⟨w.heap.size + 1, 0, none⟩ = false := frozen_of_row _ _ _ _ _ hy'; have d1 : w'.cell? ⟨w.heap.size + 1, 1, none⟩ = some (.int .i64 0) := cell_of_row _ _ _ _ _ _ hy'; have z1 : w'.frozen? ⟨w.heap.size + 1, 1, none⟩ = false := frozen_of_row _ _ _ _ _ hy'; have d2 : w'.cell? ⟨w.heap.size + 1, 2, none⟩ = some (.int .i64 0) := cell_of_row _ _ _ _ _ _ hy'; have z2 : w'.frozen? ⟨w.heap.size + 1, 2, none⟩ = false := frozen_of_row _ _ _ _ _ hy'; have d3 : w'.cell? ⟨w.heap.size + 1, 3, none⟩ = some (.slice none 0 0) := cell_of_row _ _ _ _ _ _ hy'; have z3 : w'.frozen? ⟨w.heap.size + 1, 3, none⟩ = false := frozen_of_row _ _ _ _ _ hy'; have d4 : w'.cell? ⟨w.heap.size + 1, 4, none⟩ = some (.slice none 0 0) := cell_of_row _ _ _ _ _ _ hy'; have z4 : w'.frozen? ⟨w.heap.size + 1, 4, none⟩ = false := frozen_of_row _ _ _ _ _ hy'; have d5 : w'.cell? ⟨w.heap.size + 1, 5, none⟩ = some (.int .i64 0) := cell_of_row _ _ _ _ _ _ hy'; have z5 : w'.frozen? ⟨w.heap.size + 1, 5, none⟩ = false := frozen_of_row _ _ _ _ _ hy'; have d6 : w'.cell? ⟨w.heap.size + 1, 6, none⟩ = some (.int .i64 0) := cell_of_row _ _ _ _ _ _ hy'; have z6 : w'.frozen? ⟨w.heap.size + 1, 6, none⟩ = false := frozen_of_row _ _ _ _ _ hy'; have d7 : w'.cell? ⟨w.heap.size + 1, 7, none⟩ = some (.int .i64 0) := cell_of_row _ _ _ _ _ _ hy'; have z7 : w'.frozen? ⟨w.heap.size + 1, 7, none⟩ = false := frozen_of_row _ _ _ _ _ hy'; have d8 : w'.cell? ⟨w.heap.size + 1, 8, none⟩ = some (.string ⟨#[]⟩) := cell_of_row _ _ _ _ _ _ hy'; have z8 : w'.frozen? ⟨w.heap.size + 1, 8, none⟩ = false := frozen_of_row _ _ _ _ _ hy';  have HY' := Lib.hid hy'; have HR1 := Lib.hid h1'; have HR2 := Lib.hid h2'; have HBl := Lib.hid hb'; clear hy' h1' h2'))
    obtain ⟨N, hN⟩ : ∃ N : Ref, N = M.lay y x R.data.toList := ⟨_, rfl⟩
    rw [← hN] at HR1 HR2 HM ⊢
    have HM2 := HM.out
    clear hN HM
    change Exit.then _ _ _ _ (w'.setCells (w.heap.size + 1) 0 (N.vals (.slice A5 N.rows.length c5) (.slice A6 N.kept.length c6)).toList)
    have hbf : Below w.heap.size w (w'.setCells (w.heap.size + 1) 0 (N.vals (.slice A5 N.rows.length c5) (.slice A6 N.kept.length c6)).toList) := below_cells ((below_drew HB.out).trans (HBl.out.mono (by show w.heap.size ≤ W.heap.size; omega))) _ _ _ (by omega) (by have := HBl.out.size; have e : W.drew.heap.size = W.heap.size := rfl; omega)
    have hre := ref_over HY'.out N (.slice A5 N.rows.length c5) (.slice A6 N.kept.length c6)
    have hr1 := HR1.out.ne HY'.out (by decide) (grown_setCells w' (w.heap.size + 1) 0 (N.vals (.slice A5 N.rows.length c5) (.slice A6 N.kept.length c6)).toList)
    have hr2' := HR2.out.ne HY'.out (by decide) (grown_setCells w' (w.heap.size + 1) 0 (N.vals (.slice A5 N.rows.length c5) (.slice A6 N.kept.length c6)).toList)
    generalize w'.setCells (w.heap.size + 1) 0 (N.vals (.slice A5 N.rows.length c5) (.slice A6 N.kept.length c6)).toList = wf at *
    have g0 : wf.cell? ⟨w.heap.size + 1, 0, none⟩ = some (.int .i64 N.w) := cell_of_row _ _ _ _ _ _ hre
    have g1 : wf.cell? ⟨w.heap.size + 1, 1, none⟩ = some (.int .i64 N.h) := cell_of_row _ _ _ _ _ _ hre
    have g2 : wf.cell? ⟨w.heap.size + 1, 2, none⟩ = some (.int .i64 N.most) := cell_of_row _ _ _ _ _ _ hre
    have g3 : wf.cell? ⟨w.heap.size + 1, 3, none⟩ = some (.slice A5 N.rows.length c5) := cell_of_row _ _ _ _ _ _ hre
    have g4 : wf.cell? ⟨w.heap.size + 1, 4, none⟩ = some (.slice A6 N.kept.length c6) := cell_of_row _ _ _ _ _ _ hre
    have g5 : wf.cell? ⟨w.heap.size + 1, 5, none⟩ = some (.int .i64 N.x) := cell_of_row _ _ _ _ _ _ hre
    have g6 : wf.cell? ⟨w.heap.size + 1, 6, none⟩ = some (.int .i64 N.y) := cell_of_row _ _ _ _ _ _ hre
    have g7 : wf.cell? ⟨w.heap.size + 1, 7, none⟩ = some (.int .i64 N.begun) := cell_of_row _ _ _ _ _ _ hre
    have g8 : wf.cell? ⟨w.heap.size + 1, 8, none⟩ = some (.string (bs N.args)) := cell_of_row _ _ _ _ _ _ hre
    have HBF := Lib.hid hbf; have HF1 := Lib.hid hr1; have HF2 := Lib.hid hr2'; have HMM := Lib.hid HM2
    clear hbf hr1 hr2' HM2 hre hb' d0 z0 d1 z1 d2 z2 d3 z3 d4 z4 d5 z5 d6 z6 d7 z7 d8 z8
    go_wp2_with fail
    rw [HMM.out]
    refine bodyPost_ret (v := .agg (N.vals (.slice A5 N.rows.length c5) (.slice A6 N.kept.length c6))) (by simp [results, Tryd.results51, go_sem, Ref.vals, g0, g1, g2, g3, g4, g5, g6, g7, g8]) rfl ⟨_, rfl, ⟨_, _, rfl, HF1.out, HF2.out⟩, HBF.out⟩
  · have t0 : ((way : Int) == 0) = false := by simp; omega
    by_cases h1 : way = 1
    · have t1 : ((way : Int) == 1) = true := by rw [h1]; rfl
      have hx := hx (Or.inr h1)
      obtain ⟨k, hk⟩ : ∃ k : Nat, k = x + 1 := ⟨_, rfl⟩
      have hwk : IntKind.i64.wrap ((x : Int) + 1) = (k : Int) := by rw [IntWalk.i64_in _ (by omega)]; omega
      obtain ⟨R, hR⟩ : ∃ R : ByteArray, R = bs (List.replicate k 32) := ⟨_, rfl⟩
      have HRs : Hid (R.size = k) := by rw [hR, bs_size, List.length_replicate]; exact Lib.hid rfl
      have HM : Hid (M.erase y way x = M.lay y 0 R.data.toList) := by unfold Ref.erase; rw [if_neg h0, if_pos h1, hR, bs_list, hk]; exact Lib.hid rfl
      have HR := Lib.hid hR
      have hkx : 0 + k ≤ M.w := by omega
      clear h0 h1 hk hR
      go_enter Tryd.func51, Tryd.ntmps51
      go_upto_region 5 with fail
      rw [← HW.out]
      clear HW
      go_region_held3 (fun w' => w'.cell? ⟨w.heap.size, 0, none⟩ = some (.int .i64 M.w) ∧ w'.cell? ⟨w.heap.size, 1, none⟩ = some (.int .i64 M.h) ∧ w'.cell? ⟨w.heap.size, 2, none⟩ = some (.int .i64 M.most) ∧ w'.cell? ⟨w.heap.size, 3, none⟩ = some (.slice A3 n3 c3) ∧ w'.cell? ⟨w.heap.size, 4, none⟩ = some (.slice A4 n4 c4) ∧ w'.cell? ⟨w.heap.size, 5, none⟩ = some (.int .i64 M.x) ∧ w'.cell? ⟨w.heap.size, 6, none⟩ = some (.int .i64 M.y) ∧ w'.cell? ⟨w.heap.size, 7, none⟩ = some (.int .i64 M.begun) ∧ w'.cell? ⟨w.heap.size, 8, none⟩ = some (.string (bs M.args)) ∧ Hid (Below (w.heap.size + 1) W w')) (exact keepE HX (by repeat (first | with_reducible refine below_setB ?_ _ _ | with_reducible refine below_drew ?_ | with_reducible exact Below.refl _ _ | with_reducible refine below_nextE ?_ (by with_reducible assumption) hBW)))
        (first
          | (go_at_call 39; refine (rblanks_any (k) _ (by omega)).mono ?_; rintro e w' ⟨rfl, rfl⟩; rw [← HR.out])
          | (go_at_call 50; refine (lay_walk (.agg (M.vals (.slice A3 n3 c3) (.slice A4 n4 c4))) M y 0 R W.drew HRV.out (by rw [← HN3.out]; exact hr2) (by rw [← HN3.out]; exact hy) (by rw [HRs.out, HRw.out]; omega) (by rw [HRw.out]; omega)).mono ?_; rintro e w' ⟨v', rfl, ⟨vr', vk', rfl, h1', h2'⟩, hb'⟩; have hy' := (hb'.block _ lb1).trans HY.out; have h3' := h1'.1; have h4' := h2'.1; obtain ⟨-, A5, c5, rfl, -, -, -, -⟩ := h3'; obtain ⟨-, A6, c6, rfl, -, -, -, -⟩ := h4'; unfold Ref.vals; have d0 : w'.cell? ⟨w.heap.size + 1, 0, none⟩ = some (.int .i64 0) := cell_of_row _ _ _ _ _ _ hy'; have z0 : w'.frozen? ⟨w.heap.size + 1, 0, none⟩ = false := frozen_of_row _ _ _ _ _ hy'; have d1 : w'.cell? ⟨w.heap.size + 1, 1, none⟩ = some (.int .i64 0) := cell_of_row _ _ _ _ _ _ hy'; have z1 : w'.frozen? ⟨w.heap.size + 1, 1, none⟩ = false := frozen_of_row _ _ _ _ _ hy'; have d2 : w'.cell? ⟨w.heap.size + 1, 2, none⟩ = some (.int .i64 0) := cell_of_row _ _ _ _ _ _ hy'; have z2 : w'.frozen? ⟨w.heap.size + 1, 2, none⟩ = false := frozen_of_row _ _ _ _ _ hy'; have d3 : w'.cell? ⟨w.heap.size + 1, 3, none⟩ = some (.slice none 0 0) := cell_of_row _ _ _ _ _ _ hy'; have z3 : w'.frozen? ⟨w.heap.size + 1, 3, none⟩ = false := frozen_of_row _ _ _ _ _ hy'; have d4 : w'.cell? ⟨w.heap.size + 1, 4, none⟩ = some (.slice none 0 0) := cell_of_row _ _ _ _ _ _ hy'; have z4 : w'.frozen? ⟨w.heap.size + 1, 4, none⟩ = false := frozen_of_row _ _ _ _ _ hy'; have d5 : w'.cell? ⟨w.heap.size + 1, 5, none⟩ = some (.int .i64 0) := cell_of_row _ _ _ _ _ _ hy'; have z5 : w'.frozen? ⟨w.heap.size + 1, 5, none⟩ = false := frozen_of_row _ _ _ _ _ hy'; have d6 : w'.cell? ⟨w.heap.size + 1, 6, none⟩ = some (.int .i64 0) := cell_of_row _ _ _ _ _ _ hy'; have z6 : w'.frozen? ⟨w.heap.size + 1, 6, none⟩ = false := frozen_of_row _ _ _ _ _ hy'; have d7 : w'.cell? ⟨w.heap.size + 1, 7, none⟩ = some (.int .i64 0) := cell_of_row _ _ _ _ _ _ hy'; have z7 : w'.frozen? ⟨w.heap.size + 1, 7, none⟩ = false := frozen_of_row _ _ _ _ _ hy'; have d8 : w'.cell? ⟨w.heap.size + 1, 8, none⟩ = some (.string ⟨#[]⟩) := cell_of_row _ _ _ _ _ _ hy'; have z8 : w'.frozen? ⟨w.heap.size + 1, 8, none⟩ = false := frozen_of_row _ _ _ _ _ hy';  have HY' := Lib.hid hy'; have HR1 := Lib.hid h1'; have HR2 := Lib.hid h2'; have HBl := Lib.hid hb'; clear hy' h1' h2'))
      obtain ⟨N, hN⟩ : ∃ N : Ref, N = M.lay y 0 R.data.toList := ⟨_, rfl⟩
      rw [← hN] at HR1 HR2 HM ⊢
      have HM2 := HM.out
      clear hN HM
      change Exit.then _ _ _ _ (w'.setCells (w.heap.size + 1) 0 (N.vals (.slice A5 N.rows.length c5) (.slice A6 N.kept.length c6)).toList)
      have hbf : Below w.heap.size w (w'.setCells (w.heap.size + 1) 0 (N.vals (.slice A5 N.rows.length c5) (.slice A6 N.kept.length c6)).toList) := below_cells ((below_drew HB.out).trans (HBl.out.mono (by show w.heap.size ≤ W.heap.size; omega))) _ _ _ (by omega) (by have := HBl.out.size; have e : W.drew.heap.size = W.heap.size := rfl; omega)
      have hre := ref_over HY'.out N (.slice A5 N.rows.length c5) (.slice A6 N.kept.length c6)
      have hr1 := HR1.out.ne HY'.out (by decide) (grown_setCells w' (w.heap.size + 1) 0 (N.vals (.slice A5 N.rows.length c5) (.slice A6 N.kept.length c6)).toList)
      have hr2' := HR2.out.ne HY'.out (by decide) (grown_setCells w' (w.heap.size + 1) 0 (N.vals (.slice A5 N.rows.length c5) (.slice A6 N.kept.length c6)).toList)
      generalize w'.setCells (w.heap.size + 1) 0 (N.vals (.slice A5 N.rows.length c5) (.slice A6 N.kept.length c6)).toList = wf at *
      have g0 : wf.cell? ⟨w.heap.size + 1, 0, none⟩ = some (.int .i64 N.w) := cell_of_row _ _ _ _ _ _ hre
      have g1 : wf.cell? ⟨w.heap.size + 1, 1, none⟩ = some (.int .i64 N.h) := cell_of_row _ _ _ _ _ _ hre
      have g2 : wf.cell? ⟨w.heap.size + 1, 2, none⟩ = some (.int .i64 N.most) := cell_of_row _ _ _ _ _ _ hre
      have g3 : wf.cell? ⟨w.heap.size + 1, 3, none⟩ = some (.slice A5 N.rows.length c5) := cell_of_row _ _ _ _ _ _ hre
      have g4 : wf.cell? ⟨w.heap.size + 1, 4, none⟩ = some (.slice A6 N.kept.length c6) := cell_of_row _ _ _ _ _ _ hre
      have g5 : wf.cell? ⟨w.heap.size + 1, 5, none⟩ = some (.int .i64 N.x) := cell_of_row _ _ _ _ _ _ hre
      have g6 : wf.cell? ⟨w.heap.size + 1, 6, none⟩ = some (.int .i64 N.y) := cell_of_row _ _ _ _ _ _ hre
      have g7 : wf.cell? ⟨w.heap.size + 1, 7, none⟩ = some (.int .i64 N.begun) := cell_of_row _ _ _ _ _ _ hre
      have g8 : wf.cell? ⟨w.heap.size + 1, 8, none⟩ = some (.string (bs N.args)) := cell_of_row _ _ _ _ _ _ hre
      have HBF := Lib.hid hbf; have HF1 := Lib.hid hr1; have HF2 := Lib.hid hr2'; have HMM := Lib.hid HM2
      clear hbf hr1 hr2' HM2 hre hb' d0 z0 d1 z1 d2 z2 d3 z3 d4 z4 d5 z5 d6 z6 d7 z7 d8 z8
      go_wp2_with fail
      rw [HMM.out]
      refine bodyPost_ret (v := .agg (N.vals (.slice A5 N.rows.length c5) (.slice A6 N.kept.length c6))) (by simp [results, Tryd.results51, go_sem, Ref.vals, g0, g1, g2, g3, g4, g5, g6, g7, g8]) rfl ⟨_, rfl, ⟨_, _, rfl, HF1.out, HF2.out⟩, HBF.out⟩
    · have t1 : ((way : Int) == 1) = false := by simp; omega
      obtain ⟨R, hR⟩ : ∃ R : ByteArray, R = bs (List.replicate M.w 32) := ⟨_, rfl⟩
      have HRs : Hid (R.size = M.w) := by rw [hR, bs_size, List.length_replicate]; exact Lib.hid rfl
      have HM : Hid (M.erase y way x = M.lay y 0 R.data.toList) := by unfold Ref.erase; rw [if_neg h0, if_neg h1, hR, bs_list]; exact Lib.hid rfl
      have HR := Lib.hid hR
      clear h0 h1 hR
      go_enter Tryd.func51, Tryd.ntmps51
      go_upto_region 6 with fail
      rw [← HW.out]
      clear HW
      go_region_held3 (fun w' => w'.cell? ⟨w.heap.size, 0, none⟩ = some (.int .i64 M.w) ∧ w'.cell? ⟨w.heap.size, 1, none⟩ = some (.int .i64 M.h) ∧ w'.cell? ⟨w.heap.size, 2, none⟩ = some (.int .i64 M.most) ∧ w'.cell? ⟨w.heap.size, 3, none⟩ = some (.slice A3 n3 c3) ∧ w'.cell? ⟨w.heap.size, 4, none⟩ = some (.slice A4 n4 c4) ∧ w'.cell? ⟨w.heap.size, 5, none⟩ = some (.int .i64 M.x) ∧ w'.cell? ⟨w.heap.size, 6, none⟩ = some (.int .i64 M.y) ∧ w'.cell? ⟨w.heap.size, 7, none⟩ = some (.int .i64 M.begun) ∧ w'.cell? ⟨w.heap.size, 8, none⟩ = some (.string (bs M.args)) ∧ Hid (Below (w.heap.size + 1) W w')) (exact keepE HX (by repeat (first | with_reducible refine below_setB ?_ _ _ | with_reducible refine below_drew ?_ | with_reducible exact Below.refl _ _ | with_reducible refine below_nextE ?_ (by with_reducible assumption) hBW)))
        (first
          | (go_at_call 39; refine (rblanks_any (M.w) _ (by omega)).mono ?_; rintro e w' ⟨rfl, rfl⟩; rw [← HR.out])
          | (go_at_call 50; refine (lay_walk (.agg (M.vals (.slice A3 n3 c3) (.slice A4 n4 c4))) M y 0 R W.drew HRV.out (by rw [← HN3.out]; exact hr2) (by rw [← HN3.out]; exact hy) (by rw [HRs.out, HRw.out]; omega) (by rw [HRw.out]; omega)).mono ?_; rintro e w' ⟨v', rfl, ⟨vr', vk', rfl, h1', h2'⟩, hb'⟩; have hy' := (hb'.block _ lb1).trans HY.out; have h3' := h1'.1; have h4' := h2'.1; obtain ⟨-, A5, c5, rfl, -, -, -, -⟩ := h3'; obtain ⟨-, A6, c6, rfl, -, -, -, -⟩ := h4'; unfold Ref.vals; have d0 : w'.cell? ⟨w.heap.size + 1, 0, none⟩ = some (.int .i64 0) := cell_of_row _ _ _ _ _ _ hy'; have z0 : w'.frozen? ⟨w.heap.size + 1, 0, none⟩ = false := frozen_of_row _ _ _ _ _ hy'; have d1 : w'.cell? ⟨w.heap.size + 1, 1, none⟩ = some (.int .i64 0) := cell_of_row _ _ _ _ _ _ hy'; have z1 : w'.frozen? ⟨w.heap.size + 1, 1, none⟩ = false := frozen_of_row _ _ _ _ _ hy'; have d2 : w'.cell? ⟨w.heap.size + 1, 2, none⟩ = some (.int .i64 0) := cell_of_row _ _ _ _ _ _ hy'; have z2 : w'.frozen? ⟨w.heap.size + 1, 2, none⟩ = false := frozen_of_row _ _ _ _ _ hy'; have d3 : w'.cell? ⟨w.heap.size + 1, 3, none⟩ = some (.slice none 0 0) := cell_of_row _ _ _ _ _ _ hy'; have z3 : w'.frozen? ⟨w.heap.size + 1, 3, none⟩ = false := frozen_of_row _ _ _ _ _ hy'; have d4 : w'.cell? ⟨w.heap.size + 1, 4, none⟩ = some (.slice none 0 0) := cell_of_row _ _ _ _ _ _ hy'; have z4 : w'.frozen? ⟨w.heap.size + 1, 4, none⟩ = false := frozen_of_row _ _ _ _ _ hy'; have d5 : w'.cell? ⟨w.heap.size + 1, 5, none⟩ = some (.int .i64 0) := cell_of_row _ _ _ _ _ _ hy'; have z5 : w'.frozen? ⟨w.heap.size + 1, 5, none⟩ = false := frozen_of_row _ _ _ _ _ hy'; have d6 : w'.cell? ⟨w.heap.size + 1, 6, none⟩ = some (.int .i64 0) := cell_of_row _ _ _ _ _ _ hy'; have z6 : w'.frozen? ⟨w.heap.size + 1, 6, none⟩ = false := frozen_of_row _ _ _ _ _ hy'; have d7 : w'.cell? ⟨w.heap.size + 1, 7, none⟩ = some (.int .i64 0) := cell_of_row _ _ _ _ _ _ hy'; have z7 : w'.frozen? ⟨w.heap.size + 1, 7, none⟩ = false := frozen_of_row _ _ _ _ _ hy'; have d8 : w'.cell? ⟨w.heap.size + 1, 8, none⟩ = some (.string ⟨#[]⟩) := cell_of_row _ _ _ _ _ _ hy'; have z8 : w'.frozen? ⟨w.heap.size + 1, 8, none⟩ = false := frozen_of_row _ _ _ _ _ hy';  have HY' := Lib.hid hy'; have HR1 := Lib.hid h1'; have HR2 := Lib.hid h2'; have HBl := Lib.hid hb'; clear hy' h1' h2'))
      obtain ⟨N, hN⟩ : ∃ N : Ref, N = M.lay y 0 R.data.toList := ⟨_, rfl⟩
      rw [← hN] at HR1 HR2 HM ⊢
      have HM2 := HM.out
      clear hN HM
      change Exit.then _ _ _ _ (w'.setCells (w.heap.size + 1) 0 (N.vals (.slice A5 N.rows.length c5) (.slice A6 N.kept.length c6)).toList)
      have hbf : Below w.heap.size w (w'.setCells (w.heap.size + 1) 0 (N.vals (.slice A5 N.rows.length c5) (.slice A6 N.kept.length c6)).toList) := below_cells ((below_drew HB.out).trans (HBl.out.mono (by show w.heap.size ≤ W.heap.size; omega))) _ _ _ (by omega) (by have := HBl.out.size; have e : W.drew.heap.size = W.heap.size := rfl; omega)
      have hre := ref_over HY'.out N (.slice A5 N.rows.length c5) (.slice A6 N.kept.length c6)
      have hr1 := HR1.out.ne HY'.out (by decide) (grown_setCells w' (w.heap.size + 1) 0 (N.vals (.slice A5 N.rows.length c5) (.slice A6 N.kept.length c6)).toList)
      have hr2' := HR2.out.ne HY'.out (by decide) (grown_setCells w' (w.heap.size + 1) 0 (N.vals (.slice A5 N.rows.length c5) (.slice A6 N.kept.length c6)).toList)
      generalize w'.setCells (w.heap.size + 1) 0 (N.vals (.slice A5 N.rows.length c5) (.slice A6 N.kept.length c6)).toList = wf at *
      have g0 : wf.cell? ⟨w.heap.size + 1, 0, none⟩ = some (.int .i64 N.w) := cell_of_row _ _ _ _ _ _ hre
      have g1 : wf.cell? ⟨w.heap.size + 1, 1, none⟩ = some (.int .i64 N.h) := cell_of_row _ _ _ _ _ _ hre
      have g2 : wf.cell? ⟨w.heap.size + 1, 2, none⟩ = some (.int .i64 N.most) := cell_of_row _ _ _ _ _ _ hre
      have g3 : wf.cell? ⟨w.heap.size + 1, 3, none⟩ = some (.slice A5 N.rows.length c5) := cell_of_row _ _ _ _ _ _ hre
      have g4 : wf.cell? ⟨w.heap.size + 1, 4, none⟩ = some (.slice A6 N.kept.length c6) := cell_of_row _ _ _ _ _ _ hre
      have g5 : wf.cell? ⟨w.heap.size + 1, 5, none⟩ = some (.int .i64 N.x) := cell_of_row _ _ _ _ _ _ hre
      have g6 : wf.cell? ⟨w.heap.size + 1, 6, none⟩ = some (.int .i64 N.y) := cell_of_row _ _ _ _ _ _ hre
      have g7 : wf.cell? ⟨w.heap.size + 1, 7, none⟩ = some (.int .i64 N.begun) := cell_of_row _ _ _ _ _ _ hre
      have g8 : wf.cell? ⟨w.heap.size + 1, 8, none⟩ = some (.string (bs N.args)) := cell_of_row _ _ _ _ _ _ hre
      have HBF := Lib.hid hbf; have HF1 := Lib.hid hr1; have HF2 := Lib.hid hr2'; have HMM := Lib.hid HM2
      clear hbf hr1 hr2' HM2 hre hb' d0 z0 d1 z1 d2 z2 d3 z3 d4 z4 d5 z5 d6 z6 d7 z7 d8 z8
      go_wp2_with fail
      rw [HMM.out]
      refine bodyPost_ret (v := .agg (N.vals (.slice A5 N.rows.length c5) (.slice A6 N.kept.length c6))) (by simp [results, Tryd.results51, go_sem, Ref.vals, g0, g1, g2, g3, g4, g5, g6, g7, g8]) rfl ⟨_, rfl, ⟨_, _, rfl, HF1.out, HF2.out⟩, HBF.out⟩
end Go.Proofs.YtiefpodmdpnppaaDoor
