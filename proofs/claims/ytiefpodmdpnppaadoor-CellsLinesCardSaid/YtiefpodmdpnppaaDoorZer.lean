/-
  WALKS of layer 56: the zero screen; sizes that are none.
-/
import Derived.Test.YtiefpodmdpnppaaDoorLwE
import Derived.Test.YtiefpodmdpnppaaDoorDocF
namespace Go.Proofs.YtiefpodmdpnppaaDoor
open Go.RowKit
attribute [local go_sem ↓] Go.wp_at_zero Go.wp_at_succ

theorem CK.zero {w : World} {v : Value} (h : CK w v zeroScr) : ∃ A1 k1 A2 k2, v = .agg (zeroScr.vals (.slice A1 0 k1) (.slice A2 0 k2)) := h.form

set_option maxRecDepth 100000 in
set_option maxHeartbeats 800000 in
theorem text_zero (v : Value) (w : World) (h : CV w v zeroScr) :
    Calls Tryd.prog 14 #[v] w (ValPost w (strV zeroScr.text)) := by
  obtain ⟨vc, vk, rfl, h1, h2, h3, h4⟩ := h
  obtain ⟨-, A3, c3, rfl, -, -, -, -⟩ := h1
  obtain ⟨-, A4, c4, rfl, -, -, -, -⟩ := h2
  obtain ⟨S, hS⟩ : ∃ S : Scr, S = zeroScr := ⟨_, rfl⟩
  have hr0 : Hid (S.rows = 0) := by rw [hS]; exact Lib.hid rfl
  rw [← hS]
  clear h3 h4 hS
  unfold Scr.vals
  obtain ⟨W, hW⟩ : ∃ W, W = (w.alloc (.cells (S.vals (.slice A3 S.grid.length c3) (.slice A4 S.kept.length c4)) 29)).alloc (.cells #[.pointer none, .slice none 0 0] 62) := ⟨_, rfl⟩
  have hWb : Below w.heap.size w W := by rw [hW]; exact below_alloc2 _ _ _
  have hWs : W.heap.size = w.heap.size + 2 := by rw [hW]; simp
  have hWB : Tryd.Bd W (w.heap.size + 1) (w.heap.size + 1) [] := by
    rw [hW]
    have := Tryd.Bd.new (w.alloc (.cells (S.vals (.slice A3 S.grid.length c3) (.slice A4 S.kept.length c4)) 29))
    simpa using this
  have HW := Lib.hid hW; have HB := Lib.hid hWb; have HS := Lib.hid hWs; have HD := Lib.hid hWB
  clear hW hWb hWs hWB
  go_enter Tryd.func14, Tryd.ntmps14
  go_wp2_with fail
  unfold Scr.vals at HW
  rw [← HW.out]
  go_loopw [7] (fun iv wr => iv = .int .i64 0 ∧ wr = W) (fun iv _ => 0)
  case atStart => exact ⟨rfl, rfl⟩
  case round =>
    obtain ⟨rfl, rfl⟩ := hrel
    have hd : decide (0 < S.rows) = false := by rw [hr0.out]; rfl
    go_wp2_with fail
    refine (Tryd.bString (w.heap.size + 1) (w.heap.size + 1) [] _ HD.out (by rw [HS.out]; omega)).mono ?_
    rintro e w1 ⟨rfl, hb1⟩
    have HB1 := Lib.hid hb1
    have ht : strV S.text = strV [] := by unfold Scr.text; rw [hr0.out]; rfl
    clear hb1
    go_wp2_with fail
    go_ret
    exact ⟨by rw [ht]; rfl, HB.out.trans (HB1.out.mono (by omega))⟩
theorem text_any (v : Value) (S : Scr) (w : World) (h : CV w v S) (ok : S.Ok ∨ S = zeroScr) :
    Calls Tryd.prog 14 #[v] w (ValPost w (strV S.text)) := by
  rcases ok with ok | rfl
  · exact text_walk v S w h ok
  · exact text_zero v w h
theorem row_all (v : Value) (S : Scr) (y : Int) (w : World) (h : CV w v S) (ok : S.Ok ∨ S = zeroScr) :
    Calls Tryd.prog 24 #[v, .int .i64 y] w (ValPost w (strV (S.row y))) := by
  rcases ok with ok | rfl
  · exact row_any v S y w h ok
  · have e : zeroScr.row y = [] := by unfold Scr.row; rw [if_neg (by show ¬ (0 ≤ y ∧ y < ((0 : Nat) : Int)); omega)]
    rw [e]
    exact row_no v zeroScr y w h (by show y < 0 ∨ ((0 : Nat) : Int) ≤ y; omega)

set_option maxRecDepth 100000 in
set_option maxHeartbeats 800000 in
theorem rtext_zero (v : Value) (w : World) (h : RV w v zeroRef) :
    Calls Tryd.prog 33 #[v] w (ValPost w (strV zeroRef.text)) := by
  obtain ⟨vr, vk, rfl, h1, h2⟩ := h
  obtain ⟨-, A3, c3, rfl, -⟩ := h1.1
  obtain ⟨-, A4, c4, rfl, -⟩ := h2.1
  obtain ⟨M, hM⟩ : ∃ M : Ref, M = zeroRef := ⟨_, rfl⟩
  have hh : M.h = 0 := by rw [hM]; rfl
  rw [← hM]
  clear h1 h2 hM
  unfold Ref.vals
  have ht : strV M.text = .string ⟨#[]⟩ := by unfold Ref.text; rw [hh]; rfl
  rw [ht]
  clear ht
  go_enter Tryd.func33, Tryd.ntmps33
  go_wp2_with fail
  go_loop [3, 4, 5] (fun sv yv _ => yv = .int .i64 0 ∧ sv = .string ⟨#[]⟩) (fun _ yv _ => 0)
  case atStart => exact ⟨rfl, rfl⟩
  case round =>
    obtain ⟨rfl, rfl⟩ := hrel
    have hd1 : decide (0 < M.h) = false := by simp; omega
    go_wp2_with fail
    go_ret
    exact ⟨rfl, (Below.refl _ _).alloc (Nat.le_refl _) _⟩
theorem rtext_any (v : Value) (M : Ref) (w : World) (h : RV w v M) (ok : M.Ok ∨ M = zeroRef) :
    Calls Tryd.prog 33 #[v] w (ValPost w (strV M.text)) := by
  rcases ok with ok | rfl
  · exact rtext_walk v M w h ok
  · exact rtext_zero v w h

set_option maxRecDepth 100000 in
set_option maxHeartbeats 800000 in
theorem write_zero (v : Value) (s : ByteArray) (w : World) (h : CK w v zeroScr) :
    Calls Tryd.prog 12 #[v, .string s] w (ScrPost w zeroScr) := by
  have HV := Lib.hid h
  obtain ⟨A1, k1, A2, k2, rfl⟩ := h.form
  obtain ⟨S, hS⟩ : ∃ S : Scr, S = zeroScr := ⟨_, rfl⟩
  have hc : ((S.cols : Int) == 0) = true := by rw [hS]; rfl
  rw [← hS] at HV ⊢
  clear h hS
  rw [Scr.vals_eq]
  go_enter Tryd.func12, Tryd.ntmps12
  go_wp2_with fail
  go_step3
  go_wp2_with fail
  refine bodyPost_ret (v := .agg (S.vals (.slice A1 S.grid.length k1) (.slice A2 S.kept.length k2))) (by simp [results, Tryd.results12, go_sem, Scr.vals]) rfl ⟨_, rfl, ?_, ?_⟩
  · exact HV.out.next (below_alloc2 _ _ _)
  · exact below_alloc2 _ _ _

set_option maxRecDepth 100000 in
set_option maxHeartbeats 800000 in
theorem resize_no (v : Value) (S : Scr) (c r : Int) (w : World) (h : CK w v S) (hn : S.cols = 0 ∨ fitsB c r = false) :
    Calls Tryd.prog 20 #[v, .int .i64 c, .int .i64 r] w (NewPost w S 17) := by
  have HV := Lib.hid h
  obtain ⟨A1, k1, A2, k2, rfl⟩ := h.form
  have HN := Lib.hid hn
  clear h hn
  rw [Scr.vals_eq]
  by_cases h0 : S.cols = 0
  · have hc : ((S.cols : Int) == 0) = true := by rw [h0]; rfl
    clear h0
    go_enter Tryd.func20, Tryd.ntmps20
    go_wp2_with fail
    refine bodyPost_ret (v := .tuple #[.agg (S.vals (.slice A1 S.grid.length k1) (.slice A2 S.kept.length k2)), .int .i64 17]) (by simp [results, Tryd.results20, go_sem, Scr.vals]) rfl ⟨_, rfl, ?_, ?_⟩
    · exact HV.out.next (below_alloc2 _ _ _)
    · exact below_alloc2 _ _ _
  · have hc : ((S.cols : Int) == 0) = false := by simp; omega
    have HF : Hid (fitsB c r = false) := by rcases HN.out with h | h; exact absurd h h0; exact h
    clear h0
    go_enter Tryd.func20, Tryd.ntmps20
    go_wp2_with fail
    refine (fits_any _ _ _).mono ?_
    rintro e w' ⟨rfl, rfl⟩
    rw [HF.out]
    go_wp2_with fail
    refine bodyPost_ret (v := .tuple #[.agg (S.vals (.slice A1 S.grid.length k1) (.slice A2 S.kept.length k2)), .int .i64 17]) (by simp [results, Tryd.results20, go_sem, Scr.vals]) rfl ⟨_, rfl, ?_, ?_⟩
    · exact HV.out.next (below_alloc2 _ _ _)
    · exact below_alloc2 _ _ _
end Go.Proofs.YtiefpodmdpnppaaDoor
