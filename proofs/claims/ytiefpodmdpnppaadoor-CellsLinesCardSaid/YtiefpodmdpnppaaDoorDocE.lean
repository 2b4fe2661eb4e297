/-
  WALKS of layer 56's document: New.
-/
import Derived.Test.YtiefpodmdpnppaaDoorDocD
namespace Go.Proofs.YtiefpodmdpnppaaDoor
open Go.RowKit
attribute [local go_sem ↓] Go.wp_at_zero Go.wp_at_succ

def newRefI (c r k i : Nat) : Ref := ⟨c, r, k, List.replicate i (List.replicate c 32), [], 0, 0, 0, []⟩
def newRef (c r k : Nat) : Ref := newRefI c r k r
theorem newRef_ok (c r k : Nat) (h1 : 1 ≤ c) (h2 : c ≤ 128) (h3 : 1 ≤ r) (h4 : r ≤ 64) (h5 : k ≤ 1000) : (newRef c r k).Ok :=
  ⟨h1, h2, h3, h4, h5, List.length_replicate, fun q hq => by rw [(List.mem_replicate.1 hq).2]; exact List.length_replicate, Nat.zero_le _, Nat.zero_le _, h3, Nat.zero_le _, fun _ h => by cases h⟩
def RNewPost (w : World) (M : Ref) (b : Bool) (e : Ending) (w' : World) : Prop := ∃ v, e = .returned (.tuple #[v, .bool b]) ∧ RV w' v M ∧ Below w.heap.size w w'
theorem rv_zero (w : World) : RV w (.agg (zeroRef.vals nilS nilS)) zeroRef := ⟨nilS, nilS, rfl, RdT.nil _ _, RdT.nil _ _⟩

set_option maxRecDepth 100000 in
set_option maxHeartbeats 1600000 in
theorem rnew_no (c r k : Int) (w : World) (h : newB c r k = false) :
    Calls Tryd.prog 23 #[.int .i64 c, .int .i64 r, .int .i64 k] w (RNewPost w zeroRef false) := by
  have hcase : c < 1 ∨ (1 ≤ c ∧ 128 < c) ∨ (1 ≤ c ∧ c ≤ 128 ∧ r < 1) ∨ (1 ≤ c ∧ c ≤ 128 ∧ 1 ≤ r ∧ 64 < r) ∨ (1 ≤ c ∧ c ≤ 128 ∧ 1 ≤ r ∧ r ≤ 64 ∧ k < 0) ∨ (1 ≤ c ∧ c ≤ 128 ∧ 1 ≤ r ∧ r ≤ 64 ∧ 0 ≤ k ∧ 1000 < k) := by
    unfold newB fitsB at h
    simp at h
    omega
  clear h
  rcases hcase with h1 | ⟨h1, h2⟩ | ⟨h1, h2, h3⟩ | ⟨h1, h2, h3, h4⟩ | ⟨h1, h2, h3, h4, h5⟩ | ⟨h1, h2, h3, h4, h5, h6⟩
  all_goals
    go_enter Tryd.func23, Tryd.ntmps23
    go_wp2_with fail
    refine bodyPost_ret (v := .tuple #[.agg (zeroRef.vals nilS nilS), .bool false]) (by simp [results, Tryd.results23, go_sem, Ref.vals, zeroRef, nilS, bs_nil]) rfl ⟨_, rfl, rv_zero _, ?_⟩
    exact (Below.refl _ _).alloc (Nat.le_refl _) _

/-- the rows so far, in block b -/
def NB (w : World) (B b c r k i : Nat) : Prop := ∃ vr, w.heap[b]? = some (.cells ((newRefI c r k i).vals vr nilS) 31 (0, 0)) ∧ Own w B 9 1 vr i ((List.replicate i (List.replicate c 32)).map strV)

set_option maxRecDepth 100000 in
set_option maxHeartbeats 1600000 in
theorem rnew_yes (c r k : Nat) (w : World) (q1 : 1 ≤ c) (q2 : c ≤ 128) (q3 : 1 ≤ r) (q4 : r ≤ 64) (q5 : k ≤ 1000) :
    Calls Tryd.prog 23 #[.int .i64 c, .int .i64 r, .int .i64 k] w (RNewPost w (newRef c r k) true) := by
  obtain ⟨i0, hi, hz0, hz1, hz2⟩ := info_parts infoS
  have HI := Lib.hid hi; have HZ0 := Lib.hid hz0; have HZ1 := Lib.hid hz1; have HZ2 := Lib.hid hz2
  clear hi hz0 hz1 hz2
  obtain ⟨W, hW⟩ : ∃ W, W = (w.alloc (.cells #[.int .i64 0, .int .i64 0, .int .i64 0, .slice none 0 0, .slice none 0 0, .int .i64 0, .int .i64 0, .int .i64 0, .string ⟨#[]⟩] 31)).alloc (.cells #[.int .i64 c, .int .i64 r, .int .i64 k, .slice none 0 0, .slice none 0 0, .int .i64 0, .int .i64 0, .int .i64 0, .string ⟨#[]⟩] 31) := ⟨_, rfl⟩
  have hWx : W.heap[w.heap.size + 1]? = some (.cells ((newRefI c r k 0).vals nilS nilS) 31 (0, 0)) := by rw [hW]; exact alloc2_snd _ _ _
  have hWy : W.heap[w.heap.size]? = some (.cells (zeroRef.vals nilS nilS) 31 (0, 0)) := by rw [hW]; exact alloc2_fst _ _ _
  have hWb : Below w.heap.size w W := by rw [hW]; exact below_alloc2 _ _ _
  have HW := Lib.hid hW; have HX := Lib.hid hWx; have HY := Lib.hid hWy; have HB := Lib.hid hWb
  clear hW hWx hWy hWb
  go_enter Tryd.func23, Tryd.ntmps23
  go_wp2_with fail
  rw [← HW.out]
  clear HW
  go_loopw [9] (fun iv wr => ∃ i : Nat, i ≤ r ∧ iv = .int .i64 i ∧ Hid (NB wr (w.heap.size + 2) (w.heap.size + 1) c r k i) ∧ Hid (wr.heap[w.heap.size]? = some (.cells (zeroRef.vals nilS nilS) 31 (0, 0))) ∧ Hid (Below w.heap.size w wr)) (fun iv _ => r - (intOf iv).toNat)
  case atStart => exact ⟨0, Nat.zero_le _, rfl, ⟨_, HX.out, Own.nil _ _ _ _⟩, HY.out, HB.out⟩
  case round =>
    obtain ⟨i, hir, rfl, hNB, HYr, HBr⟩ := hrel
    obtain ⟨vr, hxr, hor⟩ := hNB.out
    clear hNB
    obtain ⟨-, A5, c5, rfl, -, -, -, -⟩ := hor.rd
    have HXr := Lib.hid hxr; have HOr := Lib.hid hor
    have hs2 : w.heap.size + 2 ≤ wr.heap.size := by have := block_lt hxr; omega
    have lb : w.heap.size < wr.heap.size := by omega
    have lb1 : w.heap.size + 1 < wr.heap.size := by omega
    have k3 : wr.cell? ⟨w.heap.size + 1, 3, none⟩ = some (.slice A5 i c5) := cell_of_row _ _ _ _ _ _ hxr
    have f3 : wr.frozen? ⟨w.heap.size + 1, 3, none⟩ = false := frozen_of_row _ _ _ _ _ hxr
    by_cases hlt : i < r
    · obtain ⟨R, hR⟩ : ∃ R : ByteArray, R = bs (List.replicate c 32) := ⟨_, rfl⟩
      have HR := Lib.hid hR
      have HOr2 : Hid (Own wr (w.heap.size + 2) 9 1 (.slice A5 i c5) i (List.replicate i (.string R))) := by rw [hR, ← strV_bs, ← List.map_replicate]; exact hor
      clear hR hxr hor
      go_wp2_with fail
      go_region_law (first
        | (refine step_app (by rfl) (.tmp 43) (.tmp 46) 26 26 (by rfl) (w.heap.size + 2) 9 i0 _ 1 16 Tryd.underlying26 HI.out HZ0.out HZ1.out HZ2.out rfl i (List.replicate i (.string R)) 1 [.string R] (by unfold maxLen; omega) (by omega) (by simp; omega) (by simp [Act.eval]; exact HOr2.out.next (by repeat (first | exact Below.refl _ _ | refine below_alloc' ?_ (Nat.le_refl _) _ | refine below_drew ?_))) (by simp [Act.eval]; exact (rd_blk (w := (wr.alloc _).drew) (heap_alloc_new wr _)).src _ Tryd.underlying26 (one_str R)) ?_; intro v3 w3 hown3 hrow3 hb3; have hx0 : (wr.alloc (.cells #[.string R] 9)).drew.heap[w.heap.size + 1]? = some (.cells ((newRefI c r k i).vals (.slice A5 i c5) nilS) 31 (0, 0)) := (Below.heap_alloc _ _ _ lb1).trans HXr.out; have hx3 := (hrow3.block hx0 (by decide)).trans hx0; obtain ⟨-, A7, c7, rfl, -, -, -, -⟩ := hown3.rd; have k3' : w3.cell? ⟨w.heap.size + 1, 3, none⟩ = some (.slice A5 i c5) := cell_of_row _ _ _ _ _ _ hx3; have q3' : w3.frozen? ⟨w.heap.size + 1, 3, none⟩ = false := frozen_of_row _ _ _ _ _ hx3; have HX3 := Lib.hid hx3; have HO3 := Lib.hid hown3; have HR3 := Lib.hid hrow3; have HB3 := Lib.hid hb3; clear hx0 hx3 hown3 hrow3 hb3)
        | (go_simp; go_at_call 39; refine (rblanks_any c _ (by omega)).mono ?_; rintro e w' ⟨rfl, rfl⟩; rw [← HR.out]))
      all_goals
        have hy3 : w3.heap[w.heap.size]? = some (.cells (zeroRef.vals nilS nilS) 31 (0, 0)) := (HR3.out.block ((Below.heap_alloc _ _ _ lb).trans HYr.out) (by decide)).trans ((Below.heap_alloc _ _ _ lb).trans HYr.out)
        have HY3 : Hid ((w3.setCell ⟨w.heap.size + 1, 3, none⟩ (.slice A7 (i + 1) c7)).heap[w.heap.size]? = some (.cells (zeroRef.vals nilS nilS) 31 (0, 0))) := (Below.heap_setCell _ _ _ _ (by show w.heap.size ≠ w.heap.size + 1; omega)).trans hy3
        have HX4 : Hid ((w3.setCell ⟨w.heap.size + 1, 3, none⟩ (.slice A7 (i + 1) c7)).heap[w.heap.size + 1]? = some (.cells ((newRefI c r k (i + 1)).vals (.slice A7 (i + 1) c7) nilS) 31 (0, 0))) := heap_setCell_same w3 _ 3 _ _ _ HX3.out
        have HO4 := Lib.hid (own_ne HO3.out HX3.out (by decide) (grown_setCell w3 (w.heap.size + 1) 3 (.slice A7 (i + 1) c7)))
        have HB4 : Hid (Below w.heap.size w (w3.setCell ⟨w.heap.size + 1, 3, none⟩ (.slice A7 (i + 1) c7))) := below_setG (((HBr.out.alloc (by omega) _).drew).trans (HB3.out.mono (by omega))) _ (by omega) _ _
        clear hy3 k3 f3
        go_wp2_with fail
        go_roundw
        case rel =>
          refine ⟨i + 1, by omega, by go_num, ⟨_, HX4.out, ?_⟩, HY3.out, HB4.out⟩
          have := HO4.out
          rw [← List.replicate_succ', HR.out, ← strV_bs, ← List.map_replicate] at this
          exact this
        case measure => simp [intOf]; omega
    · obtain rfl : i = r := by omega
      have o0 : wr.cell? ⟨w.heap.size + 1, 0, none⟩ = some (.int .i64 (newRef c i k).w) := cell_of_row _ _ _ _ _ _ hxr
      have o1 : wr.cell? ⟨w.heap.size + 1, 1, none⟩ = some (.int .i64 (newRef c i k).h) := cell_of_row _ _ _ _ _ _ hxr
      have o2 : wr.cell? ⟨w.heap.size + 1, 2, none⟩ = some (.int .i64 (newRef c i k).most) := cell_of_row _ _ _ _ _ _ hxr
      have o3 : wr.cell? ⟨w.heap.size + 1, 3, none⟩ = some (.slice A5 i c5) := cell_of_row _ _ _ _ _ _ hxr
      have o4 : wr.cell? ⟨w.heap.size + 1, 4, none⟩ = some (.slice none 0 0) := cell_of_row _ _ _ _ _ _ hxr
      have o5 : wr.cell? ⟨w.heap.size + 1, 5, none⟩ = some (.int .i64 (newRef c i k).x) := cell_of_row _ _ _ _ _ _ hxr
      have o6 : wr.cell? ⟨w.heap.size + 1, 6, none⟩ = some (.int .i64 (newRef c i k).y) := cell_of_row _ _ _ _ _ _ hxr
      have o7 : wr.cell? ⟨w.heap.size + 1, 7, none⟩ = some (.int .i64 (newRef c i k).begun) := cell_of_row _ _ _ _ _ _ hxr
      have o8 : wr.cell? ⟨w.heap.size + 1, 8, none⟩ = some (.string (bs (newRef c i k).args)) := cell_of_row _ _ _ _ _ _ hxr
      have dd0 : wr.cell? ⟨w.heap.size, 0, none⟩ = some (.int .i64 0) := cell_of_row _ _ _ _ _ _ HYr.out
      have dd1 : wr.cell? ⟨w.heap.size, 1, none⟩ = some (.int .i64 0) := cell_of_row _ _ _ _ _ _ HYr.out
      have dd2 : wr.cell? ⟨w.heap.size, 2, none⟩ = some (.int .i64 0) := cell_of_row _ _ _ _ _ _ HYr.out
      have dd3 : wr.cell? ⟨w.heap.size, 3, none⟩ = some (.slice none 0 0) := cell_of_row _ _ _ _ _ _ HYr.out
      have dd4 : wr.cell? ⟨w.heap.size, 4, none⟩ = some (.slice none 0 0) := cell_of_row _ _ _ _ _ _ HYr.out
      have dd5 : wr.cell? ⟨w.heap.size, 5, none⟩ = some (.int .i64 0) := cell_of_row _ _ _ _ _ _ HYr.out
      have dd6 : wr.cell? ⟨w.heap.size, 6, none⟩ = some (.int .i64 0) := cell_of_row _ _ _ _ _ _ HYr.out
      have dd7 : wr.cell? ⟨w.heap.size, 7, none⟩ = some (.int .i64 0) := cell_of_row _ _ _ _ _ _ HYr.out
      have dd8 : wr.cell? ⟨w.heap.size, 8, none⟩ = some (.string ⟨#[]⟩) := cell_of_row _ _ _ _ _ _ HYr.out
      have zz0 : wr.frozen? ⟨w.heap.size, 0, none⟩ = false := frozen_of_row _ _ _ _ _ HYr.out
      have zz1 : wr.frozen? ⟨w.heap.size, 1, none⟩ = false := frozen_of_row _ _ _ _ _ HYr.out
      have zz2 : wr.frozen? ⟨w.heap.size, 2, none⟩ = false := frozen_of_row _ _ _ _ _ HYr.out
      have zz3 : wr.frozen? ⟨w.heap.size, 3, none⟩ = false := frozen_of_row _ _ _ _ _ HYr.out
      have zz4 : wr.frozen? ⟨w.heap.size, 4, none⟩ = false := frozen_of_row _ _ _ _ _ HYr.out
      have zz5 : wr.frozen? ⟨w.heap.size, 5, none⟩ = false := frozen_of_row _ _ _ _ _ HYr.out
      have zz6 : wr.frozen? ⟨w.heap.size, 6, none⟩ = false := frozen_of_row _ _ _ _ _ HYr.out
      have zz7 : wr.frozen? ⟨w.heap.size, 7, none⟩ = false := frozen_of_row _ _ _ _ _ HYr.out
      have zz8 : wr.frozen? ⟨w.heap.size, 8, none⟩ = false := frozen_of_row _ _ _ _ _ HYr.out
      clear hxr hor k3 f3
      go_wp2_with fail
      have g1 := grown_setCells wr w.heap.size 0 ((newRef c i k).vals (.slice A5 i c5) nilS).toList
      refine bodyPost_ret (v := .tuple #[.agg ((newRef c i k).vals (.slice A5 i c5) nilS), .bool true]) (by simp [results, Tryd.results23, go_sem, Ref.vals, nilS, dd0, dd1, dd2, dd3, dd4, dd5, dd6, dd7, dd8]) rfl ⟨_, rfl, ⟨_, _, rfl, ?_, ?_⟩, ?_⟩
      · have := (own_ne HOr.out HYr.out (by decide) g1).rdt
        show RdT _ _ _ (List.replicate i (List.replicate c 32)).length _
        rw [List.length_replicate]
        exact this
      · exact RdT.nil _ _
      · exact HBr.out.grown g1 (by omega) (fun q hq => by injection hq with hq; omega)
end Go.Proofs.YtiefpodmdpnppaaDoor
