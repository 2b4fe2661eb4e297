/-
  WALKS of layer 56's document: command, J and K.
-/
import Derived.Test.YtiefpodmdpnppaaDoorCelW
namespace Go.Proofs.YtiefpodmdpnppaaDoor
open Go.RowKit

theorem Ref.vals_eq (M : Ref) (vr vk : Value) : M.vals vr vk = #[.int .i64 M.w, .int .i64 M.h, .int .i64 M.most, vr, vk, .int .i64 M.x, .int .i64 M.y, .int .i64 M.begun, .string (bs M.args)] := rfl
def RB (w : World) (b : Nat) (N : Ref) : Prop := ∃ vr vk, w.heap[b]? = some (.cells (N.vals vr vk) 31 (0, 0)) ∧ RdT w 9 vr N.rows.length (N.rows.map strV) ∧ RdT w 9 vk N.kept.length (N.kept.map strV)
theorem erase_w (M : Ref) (y a x : Nat) : (M.erase y a x).w = M.w ∧ (M.erase y a x).h = M.h ∧ (M.erase y a x).y = M.y ∧ (M.erase y a x).x = M.x ∧ (M.erase y a x).rows.length = M.rows.length := by
  unfold Ref.erase Ref.lay
  split
  · simp
  · split <;> simp
theorem wipeTo_w (M : Ref) (n k : Nat) : (M.wipeTo n k).w = M.w ∧ (M.wipeTo n k).h = M.h ∧ (M.wipeTo n k).y = M.y ∧ (M.wipeTo n k).x = M.x ∧ (M.wipeTo n k).rows.length = M.rows.length := by
  induction k with
  | zero => simp [Ref.wipeTo]
  | succ k ih =>
    unfold Ref.wipeTo
    split
    · have := erase_w (M.wipeTo n k) k 2 0
      simp_all
    · exact ih
theorem spl_len (r : List UInt8) (f : Nat) (s : List UInt8) (h : f + s.length ≤ r.length) : (spl r f s).length = r.length := by
  unfold spl
  simp only [List.length_append, List.length_take, List.length_drop]
  omega
theorem lay_rows (M : Ref) (y f : Nat) (s : List UInt8) (hr : ∀ r ∈ M.rows, r.length = M.w) (h : f + s.length ≤ M.w) (hy : y < M.rows.length) : ∀ r ∈ (M.lay y f s).rows, r.length = M.w := by
  intro r hmem
  rcases List.mem_or_eq_of_mem_set hmem with h1 | h1
  · exact hr r h1
  · rw [h1]
    have hm : M.rows.getD y [] ∈ M.rows := by rw [List.getD_eq_getElem?_getD, List.getElem?_eq_getElem hy]; exact List.getElem_mem _
    rw [spl_len _ _ _ (by rw [hr _ hm]; exact h), hr _ hm]
theorem erase_rows (M : Ref) (y a x : Nat) (hr : ∀ r ∈ M.rows, r.length = M.w) (hy : y < M.rows.length) (hx : a = 0 ∨ a = 1 → x < M.w) : ∀ r ∈ (M.erase y a x).rows, r.length = M.w := by
  unfold Ref.erase
  split
  · rename_i h0
    have := hx (Or.inl h0)
    exact lay_rows M y x _ hr (by rw [List.length_replicate]; omega) hy
  · split
    · rename_i h1
      have := hx (Or.inr h1)
      exact lay_rows M y 0 _ hr (by rw [List.length_replicate]; omega) hy
    · exact lay_rows M y 0 _ hr (by rw [List.length_replicate]; omega) hy
theorem wipeTo_rows (M : Ref) (n k : Nat) (hr : ∀ r ∈ M.rows, r.length = M.w) (hk : k ≤ M.rows.length) : ∀ r ∈ (M.wipeTo n k).rows, r.length = M.w := by
  induction k with
  | zero => exact hr
  | succ k ih =>
    unfold Ref.wipeTo
    have hw := wipeTo_w M n k
    split
    · have := erase_rows (M.wipeTo n k) k 2 0 (by rw [hw.1]; exact ih (by omega)) (by rw [hw.2.2.2.2]; omega) (by omega)
      rw [hw.1] at this
      exact this
    · exact ih (by omega)
theorem erase_lit (v : Value) (M : Ref) (y : Nat) (w : World) (h : RV w v M) (hr2 : M.rows.length ≤ 1000) (hy : y < M.rows.length) (hrw : (M.rows.getD y []).length = M.w) (hw : M.w ≤ 128) :
    Calls Tryd.prog 51 #[v, .int .i64 y, .int .i64 2, .int .i64 0] w (RVPost w (M.erase y 2 0)) := erase_walk v M y 2 0 w h hr2 hy hrw hw (by omega)

set_option maxRecDepth 100000 in
set_option maxHeartbeats 1600000 in
theorem rcmd_none (v : Value) (M : Ref) (e : Nat) (w : World) (h : RV w v M) (ok : M.Ok) (ha : M.args.length ≤ 100000) (x65 : ¬ e = 65) (x66 : ¬ e = 66) (x67 : ¬ e = 67) (x68 : ¬ e = 68) (x72 : ¬ e = 72) (x74 : ¬ e = 74) (x75 : ¬ e = 75) :
    Calls Tryd.prog 48 #[v, .int .u8 e] w (RVPost w (M.command e)) := by
  obtain ⟨vr, vk, rfl, h1, h2⟩ := h
  have H1 := Lib.hid h1; have H2 := Lib.hid h2
  obtain ⟨-, A4, c4, rfl, -, -, -, -⟩ := h2.1
  obtain ⟨-, A3, c3, rfl, -, -, -, -⟩ := h1.1
  clear h1 h2
  have hw1 := ok.w1; have hw2 := ok.w2; have hh1 := ok.h1; have hh2 := ok.h2; have hx := ok.x; have hy := ok.y
  have HA := Lib.hid ok.a
  have hn0 := numL_le M.args 0; have hn1 := numL_le M.args 1
  obtain ⟨f, hf⟩ : ∃ f : Int → Nat, ∀ i, f i = numL M.args i.toNat := ⟨_, fun _ => rfl⟩
  have NF : ∀ (i : Int) (w : World), 0 ≤ i → Calls Tryd.prog 66 #[.string (bs M.args), .int .i64 i] w (fun e w' => e = .returned (.int .i64 (f i)) ∧ w' = w) := fun i w hi => by
    obtain ⟨k, rfl⟩ := Int.eq_ofNat_of_zero_le hi
    rw [hf]
    exact (number_any M.args k w HA.out ha).mono fun _ _ ⟨h1, h2⟩ => ⟨h1, h2.symm⟩
  have HNF := Lib.hid NF
  have e0 : f 0 = numL M.args 0 := hf 0
  have e1 : f 1 = numL M.args 1 := hf 1
  have HM : Hid (M.command e = M) := by unfold Ref.command; rw [if_neg x65, if_neg x66, if_neg x67, if_neg x68, if_neg x72, if_neg x74, if_neg x75]; exact Lib.hid rfl
  have t65 : ((e : Int) == 65) = false := by simp; omega
  have t66 : ((e : Int) == 66) = false := by simp; omega
  have t67 : ((e : Int) == 67) = false := by simp; omega
  have t68 : ((e : Int) == 68) = false := by simp; omega
  have t72 : ((e : Int) == 72) = false := by simp; omega
  have t74 : ((e : Int) == 74) = false := by simp; omega
  have t75 : ((e : Int) == 75) = false := by simp; omega
  clear x65 x66 x67 x68 x72 x74 x75
  rw [← e0] at hn0
  rw [← e1] at hn1
  have HE0 := Lib.hid e0; have HE1 := Lib.hid e1
  clear NF ok ha hf e0 e1
  obtain ⟨n3, hn3⟩ : ∃ n : Nat, n = M.rows.length := ⟨_, rfl⟩
  obtain ⟨n4, hn4⟩ : ∃ n : Nat, n = M.kept.length := ⟨_, rfl⟩
  rw [← hn3] at H1 ⊢
  rw [← hn4] at H2 ⊢
  obtain ⟨W, hW⟩ : ∃ W, W = (w.alloc (.cells (M.vals (.slice A3 n3 c3) (.slice A4 n4 c4)) 31)).alloc (.cells #[.int .i64 0, .int .i64 0, .int .i64 0, .slice none 0 0, .slice none 0 0, .int .i64 0, .int .i64 0, .int .i64 0, .string ⟨#[]⟩] 31) := ⟨_, rfl⟩
  have hWx : W.heap[w.heap.size]? = some (.cells (M.vals (.slice A3 n3 c3) (.slice A4 n4 c4)) 31 (0, 0)) := by rw [hW]; exact alloc2_fst _ _ _
  have hWy : W.heap[w.heap.size + 1]? = some (.cells (zeroRef.vals nilS nilS) 31 (0, 0)) := by rw [hW]; exact alloc2_snd _ _ _
  have hWb : Below w.heap.size w W := by rw [hW]; exact below_alloc2 _ _ _
  have hWs : W.heap.size = w.heap.size + 2 := by rw [hW]; simp
  have k8 : W.cell? ⟨w.heap.size, 8, none⟩ = some (.string (bs M.args)) := cell_of_row _ _ _ _ _ _ hWx
  have HW := Lib.hid hW; have HX := Lib.hid hWx; have HY := Lib.hid hWy; have HB := Lib.hid hWb; have HS := Lib.hid hWs; have HN3 := Lib.hid hn3; have HN4 := Lib.hid hn4
  clear hW hWx hWy hWb hWs hn3 hn4
  go_enter Tryd.func48, Tryd.ntmps48
  go_upto_region 1 with fail
  rw [← HW.out]
  clear HW
  go_quiet ((go_at_call 66; exact Calls.quiet_of_same (HNF.out _ _ (by decide))))
  obtain ⟨W1, hW1⟩ : ∃ W1, W1 = W.drewN nq := ⟨_, rfl⟩
  rw [← hW1]
  have hx1 : W1.heap[w.heap.size]? = some (.cells (M.vals (.slice A3 n3 c3) (.slice A4 n4 c4)) 31 (0, 0)) := by rw [hW1]; exact HX.out
  have hy1 : W1.heap[w.heap.size + 1]? = some (.cells (zeroRef.vals nilS nilS) 31 (0, 0)) := by rw [hW1]; exact HY.out
  have hbW1 : Below w.heap.size w W1 := by rw [hW1]; exact below_dn HB.out nq
  have hs1 : W1.heap.size = w.heap.size + 2 := by rw [hW1]; exact HS.out
  have e0 : W1.cell? ⟨w.heap.size, 0, none⟩ = some (.int .i64 M.w) := cell_of_row _ _ _ _ _ _ hx1
  have e1 : W1.cell? ⟨w.heap.size, 1, none⟩ = some (.int .i64 M.h) := cell_of_row _ _ _ _ _ _ hx1
  have e2 : W1.cell? ⟨w.heap.size, 2, none⟩ = some (.int .i64 M.most) := cell_of_row _ _ _ _ _ _ hx1
  have e3 : W1.cell? ⟨w.heap.size, 3, none⟩ = some (.slice A3 n3 c3) := cell_of_row _ _ _ _ _ _ hx1
  have e4 : W1.cell? ⟨w.heap.size, 4, none⟩ = some (.slice A4 n4 c4) := cell_of_row _ _ _ _ _ _ hx1
  have e5 : W1.cell? ⟨w.heap.size, 5, none⟩ = some (.int .i64 M.x) := cell_of_row _ _ _ _ _ _ hx1
  have e6 : W1.cell? ⟨w.heap.size, 6, none⟩ = some (.int .i64 M.y) := cell_of_row _ _ _ _ _ _ hx1
  have e7 : W1.cell? ⟨w.heap.size, 7, none⟩ = some (.int .i64 M.begun) := cell_of_row _ _ _ _ _ _ hx1
  have e8 : W1.cell? ⟨w.heap.size, 8, none⟩ = some (.string (bs M.args)) := cell_of_row _ _ _ _ _ _ hx1
  have f5 : W1.frozen? ⟨w.heap.size, 5, none⟩ = false := frozen_of_row _ _ _ _ _ hx1
  have f6 : W1.frozen? ⟨w.heap.size, 6, none⟩ = false := frozen_of_row _ _ _ _ _ hx1
  have d0 : W1.cell? ⟨w.heap.size + 1, 0, none⟩ = some (.int .i64 0) := cell_of_row _ _ _ _ _ _ hy1
  have d1 : W1.cell? ⟨w.heap.size + 1, 1, none⟩ = some (.int .i64 0) := cell_of_row _ _ _ _ _ _ hy1
  have d2 : W1.cell? ⟨w.heap.size + 1, 2, none⟩ = some (.int .i64 0) := cell_of_row _ _ _ _ _ _ hy1
  have d3 : W1.cell? ⟨w.heap.size + 1, 3, none⟩ = some (.slice none 0 0) := cell_of_row _ _ _ _ _ _ hy1
  have d4 : W1.cell? ⟨w.heap.size + 1, 4, none⟩ = some (.slice none 0 0) := cell_of_row _ _ _ _ _ _ hy1
  have d5 : W1.cell? ⟨w.heap.size + 1, 5, none⟩ = some (.int .i64 0) := cell_of_row _ _ _ _ _ _ hy1
  have d6 : W1.cell? ⟨w.heap.size + 1, 6, none⟩ = some (.int .i64 0) := cell_of_row _ _ _ _ _ _ hy1
  have d7 : W1.cell? ⟨w.heap.size + 1, 7, none⟩ = some (.int .i64 0) := cell_of_row _ _ _ _ _ _ hy1
  have d8 : W1.cell? ⟨w.heap.size + 1, 8, none⟩ = some (.string ⟨#[]⟩) := cell_of_row _ _ _ _ _ _ hy1
  have z0 : W1.frozen? ⟨w.heap.size + 1, 0, none⟩ = false := frozen_of_row _ _ _ _ _ hy1
  have z1 : W1.frozen? ⟨w.heap.size + 1, 1, none⟩ = false := frozen_of_row _ _ _ _ _ hy1
  have z2 : W1.frozen? ⟨w.heap.size + 1, 2, none⟩ = false := frozen_of_row _ _ _ _ _ hy1
  have z3 : W1.frozen? ⟨w.heap.size + 1, 3, none⟩ = false := frozen_of_row _ _ _ _ _ hy1
  have z4 : W1.frozen? ⟨w.heap.size + 1, 4, none⟩ = false := frozen_of_row _ _ _ _ _ hy1
  have z5 : W1.frozen? ⟨w.heap.size + 1, 5, none⟩ = false := frozen_of_row _ _ _ _ _ hy1
  have z6 : W1.frozen? ⟨w.heap.size + 1, 6, none⟩ = false := frozen_of_row _ _ _ _ _ hy1
  have z7 : W1.frozen? ⟨w.heap.size + 1, 7, none⟩ = false := frozen_of_row _ _ _ _ _ hy1
  have z8 : W1.frozen? ⟨w.heap.size + 1, 8, none⟩ = false := frozen_of_row _ _ _ _ _ hy1
  have HX1 := Lib.hid hx1; have HY1 := Lib.hid hy1; have HB1 := Lib.hid hbW1; have HS1 := Lib.hid hs1
  clear hx1 hy1 hbW1 hs1 hW1 k8
  go_wp2_with fail
  rw [HM.out]
  have h3 := HB1.out.grown (grown_setCells _ (w.heap.size + 1) 0 (Ref.vals M (.slice A3 n3 c3) (.slice A4 n4 c4)).toList) (by have := HS1.out; omega) (fun q hq => by injection hq with hq; omega)
  refine bodyPost_ret (v := .agg (Ref.vals M (.slice A3 n3 c3) (.slice A4 n4 c4))) (by simp [results, Tryd.results48, go_sem, Ref.vals, d0, d1, d2, d3, d4, d5, d6, d7, d8]) rfl ⟨_, rfl, ⟨_, _, rfl, ?_, ?_⟩, ?_⟩
  · show RdT _ _ _ M.rows.length (M.rows.map strV)
    rw [← HN3.out]
    exact H1.out.next h3
  · show RdT _ _ _ M.kept.length (M.kept.map strV)
    rw [← HN4.out]
    exact H2.out.next h3
  · exact h3

set_option maxRecDepth 100000 in
set_option maxHeartbeats 1600000 in
theorem rcmd_big74 (v : Value) (M : Ref) (w : World) (h : RV w v M) (ok : M.Ok) (ha : M.args.length ≤ 100000) (hbig : 2 < numL M.args 0) :
    Calls Tryd.prog 48 #[v, .int .u8 74] w (RVPost w (M.command 74)) := by
  obtain ⟨vr, vk, rfl, h1, h2⟩ := h
  have H1 := Lib.hid h1; have H2 := Lib.hid h2
  obtain ⟨-, A4, c4, rfl, -, -, -, -⟩ := h2.1
  obtain ⟨-, A3, c3, rfl, -, -, -, -⟩ := h1.1
  clear h1 h2
  have hw1 := ok.w1; have hw2 := ok.w2; have hh1 := ok.h1; have hh2 := ok.h2; have hx := ok.x; have hy := ok.y
  have HA := Lib.hid ok.a
  have hn0 := numL_le M.args 0; have hn1 := numL_le M.args 1
  obtain ⟨f, hf⟩ : ∃ f : Int → Nat, ∀ i, f i = numL M.args i.toNat := ⟨_, fun _ => rfl⟩
  have NF : ∀ (i : Int) (w : World), 0 ≤ i → Calls Tryd.prog 66 #[.string (bs M.args), .int .i64 i] w (fun e w' => e = .returned (.int .i64 (f i)) ∧ w' = w) := fun i w hi => by
    obtain ⟨k, rfl⟩ := Int.eq_ofNat_of_zero_le hi
    rw [hf]
    exact (number_any M.args k w HA.out ha).mono fun _ _ ⟨h1, h2⟩ => ⟨h1, h2.symm⟩
  have HNF := Lib.hid NF
  have e0 : f 0 = numL M.args 0 := hf 0
  have e1 : f 1 = numL M.args 1 := hf 1
  have HM : Hid (M.command 74 = M) := by
    show Hid ((if 2 < numL M.args 0 then M else _) = M)
    rw [if_pos hbig]
    exact Lib.hid rfl
  rw [← e0] at hbig
  have hbi : decide ((f 0 : Int) > 2) = true := by simp; omega
  rw [← e0] at hn0
  rw [← e1] at hn1
  have HE0 := Lib.hid e0; have HE1 := Lib.hid e1
  clear NF ok ha hf e0 e1
  obtain ⟨n3, hn3⟩ : ∃ n : Nat, n = M.rows.length := ⟨_, rfl⟩
  obtain ⟨n4, hn4⟩ : ∃ n : Nat, n = M.kept.length := ⟨_, rfl⟩
  rw [← hn3] at H1 ⊢
  rw [← hn4] at H2 ⊢
  obtain ⟨W, hW⟩ : ∃ W, W = (w.alloc (.cells (M.vals (.slice A3 n3 c3) (.slice A4 n4 c4)) 31)).alloc (.cells #[.int .i64 0, .int .i64 0, .int .i64 0, .slice none 0 0, .slice none 0 0, .int .i64 0, .int .i64 0, .int .i64 0, .string ⟨#[]⟩] 31) := ⟨_, rfl⟩
  have hWx : W.heap[w.heap.size]? = some (.cells (M.vals (.slice A3 n3 c3) (.slice A4 n4 c4)) 31 (0, 0)) := by rw [hW]; exact alloc2_fst _ _ _
  have hWy : W.heap[w.heap.size + 1]? = some (.cells (zeroRef.vals nilS nilS) 31 (0, 0)) := by rw [hW]; exact alloc2_snd _ _ _
  have hWb : Below w.heap.size w W := by rw [hW]; exact below_alloc2 _ _ _
  have hWs : W.heap.size = w.heap.size + 2 := by rw [hW]; simp
  have k8 : W.cell? ⟨w.heap.size, 8, none⟩ = some (.string (bs M.args)) := cell_of_row _ _ _ _ _ _ hWx
  have HW := Lib.hid hW; have HX := Lib.hid hWx; have HY := Lib.hid hWy; have HB := Lib.hid hWb; have HS := Lib.hid hWs; have HN3 := Lib.hid hn3; have HN4 := Lib.hid hn4
  clear hW hWx hWy hWb hWs hn3 hn4
  go_enter Tryd.func48, Tryd.ntmps48
  go_upto_region 1 with fail
  rw [← HW.out]
  clear HW
  go_quiet ((go_at_call 66; exact Calls.quiet_of_same (HNF.out _ _ (by decide))))
  obtain ⟨W1, hW1⟩ : ∃ W1, W1 = W.drewN nq := ⟨_, rfl⟩
  rw [← hW1]
  have hx1 : W1.heap[w.heap.size]? = some (.cells (M.vals (.slice A3 n3 c3) (.slice A4 n4 c4)) 31 (0, 0)) := by rw [hW1]; exact HX.out
  have hy1 : W1.heap[w.heap.size + 1]? = some (.cells (zeroRef.vals nilS nilS) 31 (0, 0)) := by rw [hW1]; exact HY.out
  have hbW1 : Below w.heap.size w W1 := by rw [hW1]; exact below_dn HB.out nq
  have hs1 : W1.heap.size = w.heap.size + 2 := by rw [hW1]; exact HS.out
  have e0 : W1.cell? ⟨w.heap.size, 0, none⟩ = some (.int .i64 M.w) := cell_of_row _ _ _ _ _ _ hx1
  have e1 : W1.cell? ⟨w.heap.size, 1, none⟩ = some (.int .i64 M.h) := cell_of_row _ _ _ _ _ _ hx1
  have e2 : W1.cell? ⟨w.heap.size, 2, none⟩ = some (.int .i64 M.most) := cell_of_row _ _ _ _ _ _ hx1
  have e3 : W1.cell? ⟨w.heap.size, 3, none⟩ = some (.slice A3 n3 c3) := cell_of_row _ _ _ _ _ _ hx1
  have e4 : W1.cell? ⟨w.heap.size, 4, none⟩ = some (.slice A4 n4 c4) := cell_of_row _ _ _ _ _ _ hx1
  have e5 : W1.cell? ⟨w.heap.size, 5, none⟩ = some (.int .i64 M.x) := cell_of_row _ _ _ _ _ _ hx1
  have e6 : W1.cell? ⟨w.heap.size, 6, none⟩ = some (.int .i64 M.y) := cell_of_row _ _ _ _ _ _ hx1
  have e7 : W1.cell? ⟨w.heap.size, 7, none⟩ = some (.int .i64 M.begun) := cell_of_row _ _ _ _ _ _ hx1
  have e8 : W1.cell? ⟨w.heap.size, 8, none⟩ = some (.string (bs M.args)) := cell_of_row _ _ _ _ _ _ hx1
  have f5 : W1.frozen? ⟨w.heap.size, 5, none⟩ = false := frozen_of_row _ _ _ _ _ hx1
  have f6 : W1.frozen? ⟨w.heap.size, 6, none⟩ = false := frozen_of_row _ _ _ _ _ hx1
  have d0 : W1.cell? ⟨w.heap.size + 1, 0, none⟩ = some (.int .i64 0) := cell_of_row _ _ _ _ _ _ hy1
  have d1 : W1.cell? ⟨w.heap.size + 1, 1, none⟩ = some (.int .i64 0) := cell_of_row _ _ _ _ _ _ hy1
  have d2 : W1.cell? ⟨w.heap.size + 1, 2, none⟩ = some (.int .i64 0) := cell_of_row _ _ _ _ _ _ hy1
  have d3 : W1.cell? ⟨w.heap.size + 1, 3, none⟩ = some (.slice none 0 0) := cell_of_row _ _ _ _ _ _ hy1
  have d4 : W1.cell? ⟨w.heap.size + 1, 4, none⟩ = some (.slice none 0 0) := cell_of_row _ _ _ _ _ _ hy1
  have d5 : W1.cell? ⟨w.heap.size + 1, 5, none⟩ = some (.int .i64 0) := cell_of_row _ _ _ _ _ _ hy1
  have d6 : W1.cell? ⟨w.heap.size + 1, 6, none⟩ = some (.int .i64 0) := cell_of_row _ _ _ _ _ _ hy1
  have d7 : W1.cell? ⟨w.heap.size + 1, 7, none⟩ = some (.int .i64 0) := cell_of_row _ _ _ _ _ _ hy1
  have d8 : W1.cell? ⟨w.heap.size + 1, 8, none⟩ = some (.string ⟨#[]⟩) := cell_of_row _ _ _ _ _ _ hy1
  have z0 : W1.frozen? ⟨w.heap.size + 1, 0, none⟩ = false := frozen_of_row _ _ _ _ _ hy1
  have z1 : W1.frozen? ⟨w.heap.size + 1, 1, none⟩ = false := frozen_of_row _ _ _ _ _ hy1
  have z2 : W1.frozen? ⟨w.heap.size + 1, 2, none⟩ = false := frozen_of_row _ _ _ _ _ hy1
  have z3 : W1.frozen? ⟨w.heap.size + 1, 3, none⟩ = false := frozen_of_row _ _ _ _ _ hy1
  have z4 : W1.frozen? ⟨w.heap.size + 1, 4, none⟩ = false := frozen_of_row _ _ _ _ _ hy1
  have z5 : W1.frozen? ⟨w.heap.size + 1, 5, none⟩ = false := frozen_of_row _ _ _ _ _ hy1
  have z6 : W1.frozen? ⟨w.heap.size + 1, 6, none⟩ = false := frozen_of_row _ _ _ _ _ hy1
  have z7 : W1.frozen? ⟨w.heap.size + 1, 7, none⟩ = false := frozen_of_row _ _ _ _ _ hy1
  have z8 : W1.frozen? ⟨w.heap.size + 1, 8, none⟩ = false := frozen_of_row _ _ _ _ _ hy1
  have HX1 := Lib.hid hx1; have HY1 := Lib.hid hy1; have HB1 := Lib.hid hbW1; have HS1 := Lib.hid hs1
  clear hx1 hy1 hbW1 hs1 hW1 k8
  go_wp2_with fail
  rw [HM.out]
  have h3 := HB1.out.grown (grown_setCells _ (w.heap.size + 1) 0 (Ref.vals M (.slice A3 n3 c3) (.slice A4 n4 c4)).toList) (by have := HS1.out; omega) (fun q hq => by injection hq with hq; omega)
  refine bodyPost_ret (v := .agg (Ref.vals M (.slice A3 n3 c3) (.slice A4 n4 c4))) (by simp [results, Tryd.results48, go_sem, Ref.vals, d0, d1, d2, d3, d4, d5, d6, d7, d8]) rfl ⟨_, rfl, ⟨_, _, rfl, ?_, ?_⟩, ?_⟩
  · show RdT _ _ _ M.rows.length (M.rows.map strV)
    rw [← HN3.out]
    exact H1.out.next h3
  · show RdT _ _ _ M.kept.length (M.kept.map strV)
    rw [← HN4.out]
    exact H2.out.next h3
  · exact h3
set_option maxRecDepth 100000 in
set_option maxHeartbeats 1600000 in
theorem rcmd_big75 (v : Value) (M : Ref) (w : World) (h : RV w v M) (ok : M.Ok) (ha : M.args.length ≤ 100000) (hbig : 2 < numL M.args 0) :
    Calls Tryd.prog 48 #[v, .int .u8 75] w (RVPost w (M.command 75)) := by
  obtain ⟨vr, vk, rfl, h1, h2⟩ := h
  have H1 := Lib.hid h1; have H2 := Lib.hid h2
  obtain ⟨-, A4, c4, rfl, -, -, -, -⟩ := h2.1
  obtain ⟨-, A3, c3, rfl, -, -, -, -⟩ := h1.1
  clear h1 h2
  have hw1 := ok.w1; have hw2 := ok.w2; have hh1 := ok.h1; have hh2 := ok.h2; have hx := ok.x; have hy := ok.y
  have HA := Lib.hid ok.a
  have hn0 := numL_le M.args 0; have hn1 := numL_le M.args 1
  obtain ⟨f, hf⟩ : ∃ f : Int → Nat, ∀ i, f i = numL M.args i.toNat := ⟨_, fun _ => rfl⟩
  have NF : ∀ (i : Int) (w : World), 0 ≤ i → Calls Tryd.prog 66 #[.string (bs M.args), .int .i64 i] w (fun e w' => e = .returned (.int .i64 (f i)) ∧ w' = w) := fun i w hi => by
    obtain ⟨k, rfl⟩ := Int.eq_ofNat_of_zero_le hi
    rw [hf]
    exact (number_any M.args k w HA.out ha).mono fun _ _ ⟨h1, h2⟩ => ⟨h1, h2.symm⟩
  have HNF := Lib.hid NF
  have e0 : f 0 = numL M.args 0 := hf 0
  have e1 : f 1 = numL M.args 1 := hf 1
  have HM : Hid (M.command 75 = M) := by
    show Hid ((if 2 < numL M.args 0 then M else _) = M)
    rw [if_pos hbig]
    exact Lib.hid rfl
  rw [← e0] at hbig
  have hbi : decide ((f 0 : Int) > 2) = true := by simp; omega
  rw [← e0] at hn0
  rw [← e1] at hn1
  have HE0 := Lib.hid e0; have HE1 := Lib.hid e1
  clear NF ok ha hf e0 e1
  obtain ⟨n3, hn3⟩ : ∃ n : Nat, n = M.rows.length := ⟨_, rfl⟩
  obtain ⟨n4, hn4⟩ : ∃ n : Nat, n = M.kept.length := ⟨_, rfl⟩
  rw [← hn3] at H1 ⊢
  rw [← hn4] at H2 ⊢
  obtain ⟨W, hW⟩ : ∃ W, W = (w.alloc (.cells (M.vals (.slice A3 n3 c3) (.slice A4 n4 c4)) 31)).alloc (.cells #[.int .i64 0, .int .i64 0, .int .i64 0, .slice none 0 0, .slice none 0 0, .int .i64 0, .int .i64 0, .int .i64 0, .string ⟨#[]⟩] 31) := ⟨_, rfl⟩
  have hWx : W.heap[w.heap.size]? = some (.cells (M.vals (.slice A3 n3 c3) (.slice A4 n4 c4)) 31 (0, 0)) := by rw [hW]; exact alloc2_fst _ _ _
  have hWy : W.heap[w.heap.size + 1]? = some (.cells (zeroRef.vals nilS nilS) 31 (0, 0)) := by rw [hW]; exact alloc2_snd _ _ _
  have hWb : Below w.heap.size w W := by rw [hW]; exact below_alloc2 _ _ _
  have hWs : W.heap.size = w.heap.size + 2 := by rw [hW]; simp
  have k8 : W.cell? ⟨w.heap.size, 8, none⟩ = some (.string (bs M.args)) := cell_of_row _ _ _ _ _ _ hWx
  have HW := Lib.hid hW; have HX := Lib.hid hWx; have HY := Lib.hid hWy; have HB := Lib.hid hWb; have HS := Lib.hid hWs; have HN3 := Lib.hid hn3; have HN4 := Lib.hid hn4
  clear hW hWx hWy hWb hWs hn3 hn4
  go_enter Tryd.func48, Tryd.ntmps48
  go_upto_region 1 with fail
  rw [← HW.out]
  clear HW
  go_quiet ((go_at_call 66; exact Calls.quiet_of_same (HNF.out _ _ (by decide))))
  obtain ⟨W1, hW1⟩ : ∃ W1, W1 = W.drewN nq := ⟨_, rfl⟩
  rw [← hW1]
  have hx1 : W1.heap[w.heap.size]? = some (.cells (M.vals (.slice A3 n3 c3) (.slice A4 n4 c4)) 31 (0, 0)) := by rw [hW1]; exact HX.out
  have hy1 : W1.heap[w.heap.size + 1]? = some (.cells (zeroRef.vals nilS nilS) 31 (0, 0)) := by rw [hW1]; exact HY.out
  have hbW1 : Below w.heap.size w W1 := by rw [hW1]; exact below_dn HB.out nq
  have hs1 : W1.heap.size = w.heap.size + 2 := by rw [hW1]; exact HS.out
  have e0 : W1.cell? ⟨w.heap.size, 0, none⟩ = some (.int .i64 M.w) := cell_of_row _ _ _ _ _ _ hx1
  have e1 : W1.cell? ⟨w.heap.size, 1, none⟩ = some (.int .i64 M.h) := cell_of_row _ _ _ _ _ _ hx1
  have e2 : W1.cell? ⟨w.heap.size, 2, none⟩ = some (.int .i64 M.most) := cell_of_row _ _ _ _ _ _ hx1
  have e3 : W1.cell? ⟨w.heap.size, 3, none⟩ = some (.slice A3 n3 c3) := cell_of_row _ _ _ _ _ _ hx1
  have e4 : W1.cell? ⟨w.heap.size, 4, none⟩ = some (.slice A4 n4 c4) := cell_of_row _ _ _ _ _ _ hx1
  have e5 : W1.cell? ⟨w.heap.size, 5, none⟩ = some (.int .i64 M.x) := cell_of_row _ _ _ _ _ _ hx1
  have e6 : W1.cell? ⟨w.heap.size, 6, none⟩ = some (.int .i64 M.y) := cell_of_row _ _ _ _ _ _ hx1
  have e7 : W1.cell? ⟨w.heap.size, 7, none⟩ = some (.int .i64 M.begun) := cell_of_row _ _ _ _ _ _ hx1
  have e8 : W1.cell? ⟨w.heap.size, 8, none⟩ = some (.string (bs M.args)) := cell_of_row _ _ _ _ _ _ hx1
  have f5 : W1.frozen? ⟨w.heap.size, 5, none⟩ = false := frozen_of_row _ _ _ _ _ hx1
  have f6 : W1.frozen? ⟨w.heap.size, 6, none⟩ = false := frozen_of_row _ _ _ _ _ hx1
  have d0 : W1.cell? ⟨w.heap.size + 1, 0, none⟩ = some (.int .i64 0) := cell_of_row _ _ _ _ _ _ hy1
  have d1 : W1.cell? ⟨w.heap.size + 1, 1, none⟩ = some (.int .i64 0) := cell_of_row _ _ _ _ _ _ hy1
  have d2 : W1.cell? ⟨w.heap.size + 1, 2, none⟩ = some (.int .i64 0) := cell_of_row _ _ _ _ _ _ hy1
  have d3 : W1.cell? ⟨w.heap.size + 1, 3, none⟩ = some (.slice none 0 0) := cell_of_row _ _ _ _ _ _ hy1
  have d4 : W1.cell? ⟨w.heap.size + 1, 4, none⟩ = some (.slice none 0 0) := cell_of_row _ _ _ _ _ _ hy1
  have d5 : W1.cell? ⟨w.heap.size + 1, 5, none⟩ = some (.int .i64 0) := cell_of_row _ _ _ _ _ _ hy1
  have d6 : W1.cell? ⟨w.heap.size + 1, 6, none⟩ = some (.int .i64 0) := cell_of_row _ _ _ _ _ _ hy1
  have d7 : W1.cell? ⟨w.heap.size + 1, 7, none⟩ = some (.int .i64 0) := cell_of_row _ _ _ _ _ _ hy1
  have d8 : W1.cell? ⟨w.heap.size + 1, 8, none⟩ = some (.string ⟨#[]⟩) := cell_of_row _ _ _ _ _ _ hy1
  have z0 : W1.frozen? ⟨w.heap.size + 1, 0, none⟩ = false := frozen_of_row _ _ _ _ _ hy1
  have z1 : W1.frozen? ⟨w.heap.size + 1, 1, none⟩ = false := frozen_of_row _ _ _ _ _ hy1
  have z2 : W1.frozen? ⟨w.heap.size + 1, 2, none⟩ = false := frozen_of_row _ _ _ _ _ hy1
  have z3 : W1.frozen? ⟨w.heap.size + 1, 3, none⟩ = false := frozen_of_row _ _ _ _ _ hy1
  have z4 : W1.frozen? ⟨w.heap.size + 1, 4, none⟩ = false := frozen_of_row _ _ _ _ _ hy1
  have z5 : W1.frozen? ⟨w.heap.size + 1, 5, none⟩ = false := frozen_of_row _ _ _ _ _ hy1
  have z6 : W1.frozen? ⟨w.heap.size + 1, 6, none⟩ = false := frozen_of_row _ _ _ _ _ hy1
  have z7 : W1.frozen? ⟨w.heap.size + 1, 7, none⟩ = false := frozen_of_row _ _ _ _ _ hy1
  have z8 : W1.frozen? ⟨w.heap.size + 1, 8, none⟩ = false := frozen_of_row _ _ _ _ _ hy1
  have HX1 := Lib.hid hx1; have HY1 := Lib.hid hy1; have HB1 := Lib.hid hbW1; have HS1 := Lib.hid hs1
  clear hx1 hy1 hbW1 hs1 hW1 k8
  go_wp2_with fail
  rw [HM.out]
  have h3 := HB1.out.grown (grown_setCells _ (w.heap.size + 1) 0 (Ref.vals M (.slice A3 n3 c3) (.slice A4 n4 c4)).toList) (by have := HS1.out; omega) (fun q hq => by injection hq with hq; omega)
  refine bodyPost_ret (v := .agg (Ref.vals M (.slice A3 n3 c3) (.slice A4 n4 c4))) (by simp [results, Tryd.results48, go_sem, Ref.vals, d0, d1, d2, d3, d4, d5, d6, d7, d8]) rfl ⟨_, rfl, ⟨_, _, rfl, ?_, ?_⟩, ?_⟩
  · show RdT _ _ _ M.rows.length (M.rows.map strV)
    rw [← HN3.out]
    exact H1.out.next h3
  · show RdT _ _ _ M.kept.length (M.kept.map strV)
    rw [← HN4.out]
    exact H2.out.next h3
  · exact h3

set_option maxRecDepth 100000 in
set_option maxHeartbeats 1600000 in
theorem rcmd_75 (v : Value) (M : Ref) (w : World) (h : RV w v M) (ok : M.Ok) (ha : M.args.length ≤ 100000) (hbig : ¬ 2 < numL M.args 0) :
    Calls Tryd.prog 48 #[v, .int .u8 75] w (RVPost w (M.command 75)) := by
  have hyr : M.y < M.rows.length := by rw [ok.r]; exact ok.y
  have hrl : M.rows.length ≤ 64 := by rw [ok.r]; exact ok.h2
  have HRW := Lib.hid ok.rw
  obtain ⟨vr, vk, rfl, h1, h2⟩ := h
  have H1 := Lib.hid h1; have H2 := Lib.hid h2
  obtain ⟨-, A4, c4, rfl, -, -, -, -⟩ := h2.1
  obtain ⟨-, A3, c3, rfl, -, -, -, -⟩ := h1.1
  clear h1 h2
  have hw1 := ok.w1; have hw2 := ok.w2; have hh1 := ok.h1; have hh2 := ok.h2; have hx := ok.x; have hy := ok.y
  have HA := Lib.hid ok.a
  have hn0 := numL_le M.args 0; have hn1 := numL_le M.args 1
  obtain ⟨f, hf⟩ : ∃ f : Int → Nat, ∀ i, f i = numL M.args i.toNat := ⟨_, fun _ => rfl⟩
  have NF : ∀ (i : Int) (w : World), 0 ≤ i → Calls Tryd.prog 66 #[.string (bs M.args), .int .i64 i] w (fun e w' => e = .returned (.int .i64 (f i)) ∧ w' = w) := fun i w hi => by
    obtain ⟨k, rfl⟩ := Int.eq_ofNat_of_zero_le hi
    rw [hf]
    exact (number_any M.args k w HA.out ha).mono fun _ _ ⟨h1, h2⟩ => ⟨h1, h2.symm⟩
  have HNF := Lib.hid NF
  have e0 : f 0 = numL M.args 0 := hf 0
  have e1 : f 1 = numL M.args 1 := hf 1
  obtain ⟨q, hq⟩ : ∃ q : Nat, q = min M.x (M.w - 1) := ⟨_, rfl⟩
  have HMf : Hid (M.command 75 = M.erase M.y (f 0) q) := by
    show Hid ((if 2 < numL M.args 0 then M else M.erase M.y (numL M.args 0) (min M.x (M.w - 1))) = _)
    rw [if_neg hbig, ← e0, hq]
    exact Lib.hid rfl
  rw [← e0] at hbig
  have hbi : decide ((f 0 : Int) > 2) = false := by simp; omega
  have hmin : min (M.x : Int) ((M.w : Int) - 1) = (q : Int) := by omega
  have hqw : q < M.w := by omega
  clear hq
  rw [← e0] at hn0
  rw [← e1] at hn1
  have HE0 := Lib.hid e0; have HE1 := Lib.hid e1
  clear NF ok ha hf e0 e1
  obtain ⟨n3, hn3⟩ : ∃ n : Nat, n = M.rows.length := ⟨_, rfl⟩
  obtain ⟨n4, hn4⟩ : ∃ n : Nat, n = M.kept.length := ⟨_, rfl⟩
  rw [← hn3] at H1 ⊢
  rw [← hn4] at H2 ⊢
  obtain ⟨W, hW⟩ : ∃ W, W = (w.alloc (.cells (M.vals (.slice A3 n3 c3) (.slice A4 n4 c4)) 31)).alloc (.cells #[.int .i64 0, .int .i64 0, .int .i64 0, .slice none 0 0, .slice none 0 0, .int .i64 0, .int .i64 0, .int .i64 0, .string ⟨#[]⟩] 31) := ⟨_, rfl⟩
  have hWx : W.heap[w.heap.size]? = some (.cells (M.vals (.slice A3 n3 c3) (.slice A4 n4 c4)) 31 (0, 0)) := by rw [hW]; exact alloc2_fst _ _ _
  have hWy : W.heap[w.heap.size + 1]? = some (.cells (zeroRef.vals nilS nilS) 31 (0, 0)) := by rw [hW]; exact alloc2_snd _ _ _
  have hWb : Below w.heap.size w W := by rw [hW]; exact below_alloc2 _ _ _
  have hWs : W.heap.size = w.heap.size + 2 := by rw [hW]; simp
  have k8 : W.cell? ⟨w.heap.size, 8, none⟩ = some (.string (bs M.args)) := cell_of_row _ _ _ _ _ _ hWx
  have HW := Lib.hid hW; have HX := Lib.hid hWx; have HY := Lib.hid hWy; have HB := Lib.hid hWb; have HS := Lib.hid hWs; have HN3 := Lib.hid hn3; have HN4 := Lib.hid hn4
  clear hW hWx hWy hWb hWs hn3 hn4
  go_enter Tryd.func48, Tryd.ntmps48
  go_upto_region 1 with fail
  rw [← HW.out]
  clear HW
  go_quiet ((go_at_call 66; exact Calls.quiet_of_same (HNF.out _ _ (by decide))))
  obtain ⟨W1, hW1⟩ : ∃ W1, W1 = W.drewN nq := ⟨_, rfl⟩
  rw [← hW1]
  have hx1 : W1.heap[w.heap.size]? = some (.cells (M.vals (.slice A3 n3 c3) (.slice A4 n4 c4)) 31 (0, 0)) := by rw [hW1]; exact HX.out
  have hy1 : W1.heap[w.heap.size + 1]? = some (.cells (zeroRef.vals nilS nilS) 31 (0, 0)) := by rw [hW1]; exact HY.out
  have hbW1 : Below w.heap.size w W1 := by rw [hW1]; exact below_dn HB.out nq
  have hs1 : W1.heap.size = w.heap.size + 2 := by rw [hW1]; exact HS.out
  have e0 : W1.cell? ⟨w.heap.size, 0, none⟩ = some (.int .i64 M.w) := cell_of_row _ _ _ _ _ _ hx1
  have e1 : W1.cell? ⟨w.heap.size, 1, none⟩ = some (.int .i64 M.h) := cell_of_row _ _ _ _ _ _ hx1
  have e2 : W1.cell? ⟨w.heap.size, 2, none⟩ = some (.int .i64 M.most) := cell_of_row _ _ _ _ _ _ hx1
  have e3 : W1.cell? ⟨w.heap.size, 3, none⟩ = some (.slice A3 n3 c3) := cell_of_row _ _ _ _ _ _ hx1
  have e4 : W1.cell? ⟨w.heap.size, 4, none⟩ = some (.slice A4 n4 c4) := cell_of_row _ _ _ _ _ _ hx1
  have e5 : W1.cell? ⟨w.heap.size, 5, none⟩ = some (.int .i64 M.x) := cell_of_row _ _ _ _ _ _ hx1
  have e6 : W1.cell? ⟨w.heap.size, 6, none⟩ = some (.int .i64 M.y) := cell_of_row _ _ _ _ _ _ hx1
  have e7 : W1.cell? ⟨w.heap.size, 7, none⟩ = some (.int .i64 M.begun) := cell_of_row _ _ _ _ _ _ hx1
  have e8 : W1.cell? ⟨w.heap.size, 8, none⟩ = some (.string (bs M.args)) := cell_of_row _ _ _ _ _ _ hx1
  have f5 : W1.frozen? ⟨w.heap.size, 5, none⟩ = false := frozen_of_row _ _ _ _ _ hx1
  have f6 : W1.frozen? ⟨w.heap.size, 6, none⟩ = false := frozen_of_row _ _ _ _ _ hx1
  have d0 : W1.cell? ⟨w.heap.size + 1, 0, none⟩ = some (.int .i64 0) := cell_of_row _ _ _ _ _ _ hy1
  have d1 : W1.cell? ⟨w.heap.size + 1, 1, none⟩ = some (.int .i64 0) := cell_of_row _ _ _ _ _ _ hy1
  have d2 : W1.cell? ⟨w.heap.size + 1, 2, none⟩ = some (.int .i64 0) := cell_of_row _ _ _ _ _ _ hy1
  have d3 : W1.cell? ⟨w.heap.size + 1, 3, none⟩ = some (.slice none 0 0) := cell_of_row _ _ _ _ _ _ hy1
  have d4 : W1.cell? ⟨w.heap.size + 1, 4, none⟩ = some (.slice none 0 0) := cell_of_row _ _ _ _ _ _ hy1
  have d5 : W1.cell? ⟨w.heap.size + 1, 5, none⟩ = some (.int .i64 0) := cell_of_row _ _ _ _ _ _ hy1
  have d6 : W1.cell? ⟨w.heap.size + 1, 6, none⟩ = some (.int .i64 0) := cell_of_row _ _ _ _ _ _ hy1
  have d7 : W1.cell? ⟨w.heap.size + 1, 7, none⟩ = some (.int .i64 0) := cell_of_row _ _ _ _ _ _ hy1
  have d8 : W1.cell? ⟨w.heap.size + 1, 8, none⟩ = some (.string ⟨#[]⟩) := cell_of_row _ _ _ _ _ _ hy1
  have z0 : W1.frozen? ⟨w.heap.size + 1, 0, none⟩ = false := frozen_of_row _ _ _ _ _ hy1
  have z1 : W1.frozen? ⟨w.heap.size + 1, 1, none⟩ = false := frozen_of_row _ _ _ _ _ hy1
  have z2 : W1.frozen? ⟨w.heap.size + 1, 2, none⟩ = false := frozen_of_row _ _ _ _ _ hy1
  have z3 : W1.frozen? ⟨w.heap.size + 1, 3, none⟩ = false := frozen_of_row _ _ _ _ _ hy1
  have z4 : W1.frozen? ⟨w.heap.size + 1, 4, none⟩ = false := frozen_of_row _ _ _ _ _ hy1
  have z5 : W1.frozen? ⟨w.heap.size + 1, 5, none⟩ = false := frozen_of_row _ _ _ _ _ hy1
  have z6 : W1.frozen? ⟨w.heap.size + 1, 6, none⟩ = false := frozen_of_row _ _ _ _ _ hy1
  have z7 : W1.frozen? ⟨w.heap.size + 1, 7, none⟩ = false := frozen_of_row _ _ _ _ _ hy1
  have z8 : W1.frozen? ⟨w.heap.size + 1, 8, none⟩ = false := frozen_of_row _ _ _ _ _ hy1
  have HX1 := Lib.hid hx1; have HY1 := Lib.hid hy1; have HB1 := Lib.hid hbW1; have HS1 := Lib.hid hs1
  clear hx1 hy1 hbW1 hs1 hW1 k8
  go_wp2_with fail
  go_loopw [9] (fun iv wr => iv = .int .i64 0 ∧ wr = W1) (fun _ _ => 0)
  case atStart => exact ⟨rfl, rfl⟩
  case round =>
    obtain ⟨rfl, rfl⟩ := hrel
    go_wp2_with fail
    have HR1 := Lib.hid (H1.out.next HB1.out)
    have HR2 := Lib.hid (H2.out.next HB1.out)
    have HXr := HX1; have HYr := HY1; have HBr := HB1; have HL5 := HN3; have HL6 := HN4
    have HNr : Hid (M.rows.length = M.rows.length) := Lib.hid rfl
    have HNw : Hid (M.w = M.w) := Lib.hid rfl
    have HNrw := HRW
    clear e0 e1 e2 e3 e4 e5 e6 e7 e8 f5 f6 d0 z0 d1 z1 d2 z2 d3 z3 d4 z4 d5 z5 d6 z6 d7 z7 d8 z8
    have hrwN : (M.rows.getD M.y []).length = M.w := by
      have hm : M.rows.getD M.y [] ∈ M.rows := by rw [List.getD_eq_getElem?_getD, List.getElem?_eq_getElem (by rw [HNr.out]; exact hyr)]; exact List.getElem_mem _
      rw [HNrw.out _ hm, HNw.out]
    refine (erase_walk (.agg (M.vals (.slice A3 n3 c3) (.slice A4 n4 c4))) M M.y (f 0) q _ (by exact ⟨_, _, rfl, by rw [← HL5.out]; exact HR1.out, by rw [← HL6.out]; exact HR2.out⟩) (by rw [HNr.out]; omega) (by rw [HNr.out]; exact hyr) hrwN (by rw [HNw.out]; omega) (by rw [HNw.out]; omega)).mono ?_
    rintro e w5 ⟨v5, rfl, ⟨vr5, vk5, rfl, h15, h25⟩, hb5⟩
    have h35 := h15.1; have h45 := h25.1
    obtain ⟨-, A7, c7, rfl, -, -, -, -⟩ := h35
    obtain ⟨-, A8, c8, rfl, -, -, -, -⟩ := h45
    obtain ⟨K, hK⟩ : ∃ K : Ref, K = M.erase M.y (f 0) q := ⟨_, rfl⟩
    rw [← hK] at h15 h25 ⊢
    have HM2 : Hid (M.command 75 = K) := by rw [hK]; exact HMf.out
    have hx5 : w5.heap[w.heap.size]? = some (.cells (M.vals (.slice A3 n3 c3) (.slice A4 n4 c4)) 31 (0, 0)) := (hb5.block _ (block_lt HXr.out)).trans HXr.out
    have hy5 : w5.heap[w.heap.size + 1]? = some (.cells (zeroRef.vals nilS nilS) 31 (0, 0)) := (hb5.block _ (block_lt HYr.out)).trans HYr.out
    have hbw5 : Below w.heap.size w w5 := below_next HBr.out hb5
    have hs5 : w.heap.size + 2 ≤ w5.heap.size := by have := block_lt hy5; omega
    have p0 : w5.cell? ⟨w.heap.size, 0, none⟩ = some (.int .i64 M.w) := cell_of_row _ _ _ _ _ _ hx5
    have p1 : w5.cell? ⟨w.heap.size, 1, none⟩ = some (.int .i64 M.h) := cell_of_row _ _ _ _ _ _ hx5
    have p2 : w5.cell? ⟨w.heap.size, 2, none⟩ = some (.int .i64 M.most) := cell_of_row _ _ _ _ _ _ hx5
    have p3 : w5.cell? ⟨w.heap.size, 3, none⟩ = some (.slice A3 n3 c3) := cell_of_row _ _ _ _ _ _ hx5
    have p4 : w5.cell? ⟨w.heap.size, 4, none⟩ = some (.slice A4 n4 c4) := cell_of_row _ _ _ _ _ _ hx5
    have p5 : w5.cell? ⟨w.heap.size, 5, none⟩ = some (.int .i64 M.x) := cell_of_row _ _ _ _ _ _ hx5
    have p6 : w5.cell? ⟨w.heap.size, 6, none⟩ = some (.int .i64 M.y) := cell_of_row _ _ _ _ _ _ hx5
    have p7 : w5.cell? ⟨w.heap.size, 7, none⟩ = some (.int .i64 M.begun) := cell_of_row _ _ _ _ _ _ hx5
    have p8 : w5.cell? ⟨w.heap.size, 8, none⟩ = some (.string (bs M.args)) := cell_of_row _ _ _ _ _ _ hx5
    have u0 : w5.frozen? ⟨w.heap.size, 0, none⟩ = false := frozen_of_row _ _ _ _ _ hx5
    have u1 : w5.frozen? ⟨w.heap.size, 1, none⟩ = false := frozen_of_row _ _ _ _ _ hx5
    have u2 : w5.frozen? ⟨w.heap.size, 2, none⟩ = false := frozen_of_row _ _ _ _ _ hx5
    have u3 : w5.frozen? ⟨w.heap.size, 3, none⟩ = false := frozen_of_row _ _ _ _ _ hx5
    have u4 : w5.frozen? ⟨w.heap.size, 4, none⟩ = false := frozen_of_row _ _ _ _ _ hx5
    have u5 : w5.frozen? ⟨w.heap.size, 5, none⟩ = false := frozen_of_row _ _ _ _ _ hx5
    have u6 : w5.frozen? ⟨w.heap.size, 6, none⟩ = false := frozen_of_row _ _ _ _ _ hx5
    have u7 : w5.frozen? ⟨w.heap.size, 7, none⟩ = false := frozen_of_row _ _ _ _ _ hx5
    have u8 : w5.frozen? ⟨w.heap.size, 8, none⟩ = false := frozen_of_row _ _ _ _ _ hx5
    have dd0 : w5.cell? ⟨w.heap.size + 1, 0, none⟩ = some (.int .i64 0) := cell_of_row _ _ _ _ _ _ hy5
    have dd1 : w5.cell? ⟨w.heap.size + 1, 1, none⟩ = some (.int .i64 0) := cell_of_row _ _ _ _ _ _ hy5
    have dd2 : w5.cell? ⟨w.heap.size + 1, 2, none⟩ = some (.int .i64 0) := cell_of_row _ _ _ _ _ _ hy5
    have dd3 : w5.cell? ⟨w.heap.size + 1, 3, none⟩ = some (.slice none 0 0) := cell_of_row _ _ _ _ _ _ hy5
    have dd4 : w5.cell? ⟨w.heap.size + 1, 4, none⟩ = some (.slice none 0 0) := cell_of_row _ _ _ _ _ _ hy5
    have dd5 : w5.cell? ⟨w.heap.size + 1, 5, none⟩ = some (.int .i64 0) := cell_of_row _ _ _ _ _ _ hy5
    have dd6 : w5.cell? ⟨w.heap.size + 1, 6, none⟩ = some (.int .i64 0) := cell_of_row _ _ _ _ _ _ hy5
    have dd7 : w5.cell? ⟨w.heap.size + 1, 7, none⟩ = some (.int .i64 0) := cell_of_row _ _ _ _ _ _ hy5
    have dd8 : w5.cell? ⟨w.heap.size + 1, 8, none⟩ = some (.string ⟨#[]⟩) := cell_of_row _ _ _ _ _ _ hy5
    have zz0 : w5.frozen? ⟨w.heap.size + 1, 0, none⟩ = false := frozen_of_row _ _ _ _ _ hy5
    have zz1 : w5.frozen? ⟨w.heap.size + 1, 1, none⟩ = false := frozen_of_row _ _ _ _ _ hy5
    have zz2 : w5.frozen? ⟨w.heap.size + 1, 2, none⟩ = false := frozen_of_row _ _ _ _ _ hy5
    have zz3 : w5.frozen? ⟨w.heap.size + 1, 3, none⟩ = false := frozen_of_row _ _ _ _ _ hy5
    have zz4 : w5.frozen? ⟨w.heap.size + 1, 4, none⟩ = false := frozen_of_row _ _ _ _ _ hy5
    have zz5 : w5.frozen? ⟨w.heap.size + 1, 5, none⟩ = false := frozen_of_row _ _ _ _ _ hy5
    have zz6 : w5.frozen? ⟨w.heap.size + 1, 6, none⟩ = false := frozen_of_row _ _ _ _ _ hy5
    have zz7 : w5.frozen? ⟨w.heap.size + 1, 7, none⟩ = false := frozen_of_row _ _ _ _ _ hy5
    have zz8 : w5.frozen? ⟨w.heap.size + 1, 8, none⟩ = false := frozen_of_row _ _ _ _ _ hy5
    have HX5 := Lib.hid hx5; have HY5 := Lib.hid hy5; have HB5 := Lib.hid hbw5; have HR15 := Lib.hid h15; have HR25 := Lib.hid h25
    rw [Ref.vals_eq K]
    clear hx5 hy5 hbw5 h15 h25 hb5 hK hrwN
    go_wp2_with fail
    rw [HM2.out]
    have g1 := grown_setCells w5 w.heap.size 0 (K.vals (.slice A7 K.rows.length c7) (.slice A8 K.kept.length c8)).toList
    have g2 := grown_setCells (w5.setCells w.heap.size 0 (K.vals (.slice A7 K.rows.length c7) (.slice A8 K.kept.length c8)).toList) (w.heap.size + 1) 0 (K.vals (.slice A7 K.rows.length c7) (.slice A8 K.kept.length c8)).toList
    have hy6 := (g1.block (w.heap.size + 1) (by omega) (fun he => by injection he with he; omega)).trans HY5.out
    have h3 := (HB5.out.grown g1 (by omega) (fun q hq => by injection hq with hq; omega)).grown g2 (by rw [size_setCells]; omega) (fun q hq => by injection hq with hq; omega)
    refine bodyPost_ret (v := .agg (K.vals (.slice A7 K.rows.length c7) (.slice A8 K.kept.length c8))) (by simp [results, Tryd.results48, go_sem, Ref.vals, dd0, dd1, dd2, dd3, dd4, dd5, dd6, dd7, dd8]) rfl ⟨_, rfl, ⟨_, _, rfl, ?_, ?_⟩, h3⟩
    · exact (HR15.out.ne HX5.out (by decide) g1).ne hy6 (by decide) g2
    · exact (HR25.out.ne HX5.out (by decide) g1).ne hy6 (by decide) g2
end Go.Proofs.YtiefpodmdpnppaaDoor
