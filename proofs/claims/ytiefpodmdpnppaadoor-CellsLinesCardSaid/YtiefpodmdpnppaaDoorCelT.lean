/-
  WALKS of layer 56's document: down.
-/
import Derived.Test.YtiefpodmdpnppaaDoorCelS
namespace Go.Proofs.YtiefpodmdpnppaaDoor
open Go.RowKit
attribute [local go_sem ↓] Go.wp_at_zero Go.wp_at_succ

def Ref.down (M : Ref) : Ref :=
  if M.y + 1 < M.h then { M with x := 0, y := M.y + 1 } else { ({ M with x := 0 } : Ref).leave with rows := M.rows.tail ++ [List.replicate M.w 32] }
theorem Rd.heap {w w' : World} {k n : Nat} {v : Value} {xs : List Value} (h : Rd w k v n xs) (q : w'.heap = w.heap) : Rd w' k v n xs := by
  obtain ⟨h1, A, c, hv, h2, h3, h4, h5⟩ := h
  refine ⟨h1, A, c, hv, h2, h3, h4, fun hn => ?_⟩
  obtain ⟨b, o, hA, hlt, hc⟩ := h5 hn
  exact ⟨b, o, hA, by rw [q]; exact hlt, fun j u hu => (World.cell?_of_block (a := ⟨b, o + j, none⟩) (by rw [q])).trans (hc j u hu)⟩
/-- read in a world that is as before below the first one's end -/
theorem Rd.old {w w' : World} {k n : Nat} {v : Value} {xs : List Value} (h : Rd w k v n xs) (hb : Below w.heap.size w w') : Rd w' k v n xs := h.next hb

theorem Rd.zero {w w' : World} {k n : Nat} {v : Value} {xs : List Value} (h : Rd w k v n xs) (h0 : n = 0) : Rd w' k v n xs := by
  obtain ⟨h1, A, c, hv, h2, h3, h4, h5⟩ := h
  exact ⟨h1, A, c, hv, h2, h3, h4, fun hn => absurd hn (by omega)⟩
def putL : Array Value → Nat → List Value → Array Value
  | cs, _, [] => cs
  | cs, o, v :: vs => putL (cs.setIfInBounds o v) (o + 1) vs
theorem heap_setCells_same (b : Nat) (t : TypeId) : ∀ (vs : List Value) (o : Nat) (cs : Array Value) (w : World), w.heap[b]? = some (.cells cs t (0, 0)) → (w.setCells b o vs).heap[b]? = some (.cells (putL cs o vs) t (0, 0))
  | [], _, _, _, h => h
  | v :: vs, o, cs, w, h => heap_setCells_same b t vs (o + 1) (cs.setIfInBounds o v) (w.setCell ⟨b, o, none⟩ v) (heap_setCell_same w b o _ _ _ h)
theorem putL_ref (M N : Ref) (vr vk ur uk : Value) : putL (M.vals vr vk) 0 (N.vals ur uk).toList = N.vals ur uk := by
  simp [putL, Ref.vals]
theorem ref_over {w : World} {b : Nat} {M : Ref} {vr vk : Value} (h : w.heap[b]? = some (.cells (M.vals vr vk) 31 (0, 0))) (N : Ref) (ur uk : Value) :
    (w.setCells b 0 (N.vals ur uk).toList).heap[b]? = some (.cells (N.vals ur uk) 31 (0, 0)) := by
  rw [heap_setCells_same b _ (N.vals ur uk).toList 0 _ w h, putL_ref]
set_option maxRecDepth 100000 in
set_option maxHeartbeats 1600000 in
theorem down_walk (v : Value) (M : Ref) (w : World) (h : RV w v M) (hh : M.rows.length = M.h) (hh1 : 1 ≤ M.h) (hh2 : M.h ≤ 64) (hy : M.y < M.h) (hw : M.w ≤ 128) (hk : M.kept.length ≤ 2000) (hm : M.most ≤ 2000) :
    Calls Tryd.prog 49 #[v] w (RVPost w M.down) := by
  obtain ⟨vr, vk, rfl, h1, h2⟩ := h
  have H1 := Lib.hid h1; have H2 := Lib.hid h2
  obtain ⟨-, A4, c4, rfl, -, -, -, -⟩ := h2.1
  obtain ⟨-, A3, c3, rfl, -, -, -, -⟩ := h1.1
  clear h1 h2
  unfold Ref.vals
  by_cases hlt : M.y + 1 < M.h
  · have hd : decide ((M.y : Int) < (M.h : Int) - 1) = true := by simp; omega
    have HM : Hid (M.down = { M with x := 0, y := M.y + 1 }) := by unfold Ref.down; rw [if_pos hlt]; exact Lib.hid rfl
    clear hh
    go_enter Tryd.func49, Tryd.ntmps49
    go_wp2_with fail
    rw [HM.out]
    refine bodyPost_ret (v := .agg (Ref.vals { M with x := 0, y := M.y + 1 } (.slice A3 M.rows.length c3) (.slice A4 M.kept.length c4))) (by simp [results, Tryd.results49, go_sem, Ref.vals]) rfl ⟨_, rfl, ⟨_, _, rfl, ?_, ?_⟩, ?_⟩
    · exact H1.out.next (below_alloc2 _ _ _)
    · exact H2.out.next (below_alloc2 _ _ _)
    · exact below_alloc2 _ _ _
  · have hd : decide ((M.y : Int) < (M.h : Int) - 1) = false := by simp; omega
    obtain ⟨i0, hi, hz0, hz1, hz2⟩ := info_parts infoS
    have HI := Lib.hid hi; have HZ0 := Lib.hid hz0; have HZ1 := Lib.hid hz1; have HZ2 := Lib.hid hz2
    clear hi hz0 hz1 hz2
    have HM : Hid (M.down = { ({ M with x := 0 } : Ref).leave with rows := M.rows.tail ++ [List.replicate M.w 32] }) := by unfold Ref.down; rw [if_neg hlt]; exact Lib.hid rfl
    have HH := Lib.hid hh
    clear hh
    go_enter Tryd.func49, Tryd.ntmps49
    go_wp2_with fail
    refine (leave_walk (.agg (Ref.vals { M with x := 0 } (.slice A3 M.rows.length c3) (.slice A4 M.kept.length c4))) { M with x := 0 } _ (by exact ⟨_, _, rfl, H1.out.next (below_alloc2 _ _ _), H2.out.next (below_alloc2 _ _ _)⟩) (by show 1 ≤ M.rows.length; rw [HH.out]; exact hh1) (by show M.rows.length ≤ 1000; rw [HH.out]; omega) hk hm).mono ?_
    rintro e w1 ⟨v1, rfl, ⟨vr1, vk1, rfl, hown1, hkd1, hap1⟩, hb1⟩
    rw [show ((w.alloc _).alloc _).heap.size = w.heap.size + 2 from by simp] at hown1 hkd1
    obtain ⟨N, hN⟩ : ∃ N : Ref, N = ({ M with x := 0 } : Ref).leave := ⟨_, rfl⟩
    rw [← hN] at hown1 hkd1 hap1 ⊢
    have hNw : N.w = M.w := by rw [hN]; rfl
    have hNr : N.rows = M.rows.tail := by rw [hN]; rfl
    have hx1 : w1.heap[w.heap.size]? = some (.cells (Ref.vals { M with x := 0 } (.slice A3 M.rows.length c3) (.slice A4 M.kept.length c4)) 31 (0, 0)) := (hb1.block w.heap.size (by simp; omega)).trans (alloc2_fst _ _ _)
    have hy1 : w1.heap[w.heap.size + 1]? = some (.cells (zeroRef.vals nilS nilS) 31 (0, 0)) := (hb1.block (w.heap.size + 1) (by simp)).trans (alloc2_snd _ _ _)
    have hbw1 : Below w.heap.size w w1 := below_next (below_alloc2 _ _ _) hb1
    have hs1 : w.heap.size + 2 ≤ w1.heap.size := by have := hb1.size; simp at this; omega
    obtain ⟨-, A5, c5, rfl, -, -, -, -⟩ := hown1.rd
    obtain ⟨-, A6, c6, rfl, -, -, -, -⟩ := hkd1.rd
    have e0 : w1.cell? ⟨w.heap.size, 0, none⟩ = some (.int .i64 M.w) := cell_of_row _ _ _ _ _ _ hx1
    have e1 : w1.cell? ⟨w.heap.size, 1, none⟩ = some (.int .i64 M.h) := cell_of_row _ _ _ _ _ _ hx1
    have e2 : w1.cell? ⟨w.heap.size, 2, none⟩ = some (.int .i64 M.most) := cell_of_row _ _ _ _ _ _ hx1
    have e3 : w1.cell? ⟨w.heap.size, 3, none⟩ = some (.slice A3 M.rows.length c3) := cell_of_row _ _ _ _ _ _ hx1
    have e4 : w1.cell? ⟨w.heap.size, 4, none⟩ = some (.slice A4 M.kept.length c4) := cell_of_row _ _ _ _ _ _ hx1
    have e5 : w1.cell? ⟨w.heap.size, 5, none⟩ = some (.int .i64 0) := cell_of_row _ _ _ _ _ _ hx1
    have e6 : w1.cell? ⟨w.heap.size, 6, none⟩ = some (.int .i64 M.y) := cell_of_row _ _ _ _ _ _ hx1
    have e7 : w1.cell? ⟨w.heap.size, 7, none⟩ = some (.int .i64 M.begun) := cell_of_row _ _ _ _ _ _ hx1
    have e8 : w1.cell? ⟨w.heap.size, 8, none⟩ = some (.string (bs M.args)) := cell_of_row _ _ _ _ _ _ hx1
    have f0 : w1.frozen? ⟨w.heap.size, 0, none⟩ = false := frozen_of_row _ _ _ _ _ hx1
    have f1 : w1.frozen? ⟨w.heap.size, 1, none⟩ = false := frozen_of_row _ _ _ _ _ hx1
    have f2 : w1.frozen? ⟨w.heap.size, 2, none⟩ = false := frozen_of_row _ _ _ _ _ hx1
    have f3 : w1.frozen? ⟨w.heap.size, 3, none⟩ = false := frozen_of_row _ _ _ _ _ hx1
    have f4 : w1.frozen? ⟨w.heap.size, 4, none⟩ = false := frozen_of_row _ _ _ _ _ hx1
    have f5 : w1.frozen? ⟨w.heap.size, 5, none⟩ = false := frozen_of_row _ _ _ _ _ hx1
    have f6 : w1.frozen? ⟨w.heap.size, 6, none⟩ = false := frozen_of_row _ _ _ _ _ hx1
    have f7 : w1.frozen? ⟨w.heap.size, 7, none⟩ = false := frozen_of_row _ _ _ _ _ hx1
    have f8 : w1.frozen? ⟨w.heap.size, 8, none⟩ = false := frozen_of_row _ _ _ _ _ hx1
    have hx2 : (w1.setCells w.heap.size 0 (N.vals (.slice A5 N.rows.length c5) (.slice A6 N.kept.length c6)).toList).heap[w.heap.size]? = some (.cells (N.vals (.slice A5 N.rows.length c5) (.slice A6 N.kept.length c6)) 31 (0, 0)) := ref_over hx1 _ _ _
    have hy2 : (w1.setCells w.heap.size 0 (N.vals (.slice A5 N.rows.length c5) (.slice A6 N.kept.length c6)).toList).heap[w.heap.size + 1]? = some (.cells (zeroRef.vals nilS nilS) 31 (0, 0)) := ((grown_setCells w1 w.heap.size 0 _).block _ (by omega) (fun he => by injection he with he; omega)).trans hy1
    have hown2 := own_ne hown1 hx1 (by decide) (grown_setCells w1 w.heap.size 0 (N.vals (.slice A5 N.rows.length c5) (.slice A6 N.kept.length c6)).toList)
    have hkd2 := own_ne hkd1 hx1 (by decide) (grown_setCells w1 w.heap.size 0 (N.vals (.slice A5 N.rows.length c5) (.slice A6 N.kept.length c6)).toList)
    have hbw2 : Below w.heap.size w (w1.setCells w.heap.size 0 (N.vals (.slice A5 N.rows.length c5) (.slice A6 N.kept.length c6)).toList) := below_cells hbw1 _ _ _ (Nat.le_refl _) (by omega)
    have hs2 : w.heap.size + 2 ≤ (w1.setCells w.heap.size 0 (N.vals (.slice A5 N.rows.length c5) (.slice A6 N.kept.length c6)).toList).heap.size := by rw [size_setCells]; exact hs1
    unfold Ref.vals
    clear hx1 hy1 hb1 hbw1
    have HX2 := Lib.hid hx2; have HY2 := Lib.hid hy2; have HO2 := Lib.hid hown2; have HK2 := Lib.hid hkd2; have HB2 := Lib.hid hbw2; have HN := Lib.hid hN; have HNw := Lib.hid hNw; have HNr := Lib.hid hNr; have HS2 := Lib.hid hs2; have HAP := Lib.hid hap1
    clear hx2 hy2 hown2 hkd2 hbw2 hN hNw hNr hs2 hown1 hkd1 hs1 hap1
    obtain ⟨n5, hn5⟩ : ∃ n : Nat, n = N.rows.length := ⟨_, rfl⟩
    obtain ⟨n6, hn6⟩ : ∃ n : Nat, n = N.kept.length := ⟨_, rfl⟩
    have hn5b : n5 ≤ 1000 := by rw [hn5, HNr.out, List.length_tail, HH.out]; omega
    rw [← hn5, ← hn6] at HX2 HY2 HO2 HK2 HB2 HS2 HAP ⊢
    have HN5 := Lib.hid hn5; have HN6 := Lib.hid hn6
    clear hn5 hn6
    go_wp2_with fail
    change Code.wp _ _ _ _ (w1.setCells w.heap.size 0 (N.vals (.slice A5 n5 c5) (.slice A6 n6 c6)).toList)
    generalize w1.setCells w.heap.size 0 (N.vals (.slice A5 n5 c5) (.slice A6 n6 c6)).toList = w2 at *
    have k3 : w2.cell? ⟨w.heap.size, 3, none⟩ = some (.slice A5 n5 c5) := cell_of_row _ _ _ _ _ _ HX2.out
    have k0 : w2.cell? ⟨w.heap.size, 0, none⟩ = some (.int .i64 M.w) := by rw [← HNw.out]; exact cell_of_row _ _ _ _ _ _ HX2.out
    have q3 : w2.frozen? ⟨w.heap.size, 3, none⟩ = false := frozen_of_row _ _ _ _ _ HX2.out
    have lb : w.heap.size < w2.heap.size := by have := HS2.out; omega
    obtain ⟨R, hR⟩ : ∃ R : ByteArray, R = bs (List.replicate M.w 32) := ⟨_, rfl⟩
    have HR := Lib.hid hR
    clear e0 e1 e2 e3 e4 e5 e6 e7 e8 f0 f1 f2 f3 f4 f5 f6 f7 f8 hR
    go_region_law (first
      | (refine step_app (by rfl) (.tmp 18) (.tmp 22) 26 26 (by rfl) (w.heap.size + 2) 9 i0 _ 1 16 Tryd.underlying26 HI.out HZ0.out HZ1.out HZ2.out rfl n5 (N.rows.map strV) 1 [.string R] (by unfold maxLen; omega) (by omega) (by have := HS2.out; simp; omega) (by simp [Act.eval]; exact HO2.out.next (by repeat (first | exact Below.refl _ _ | refine below_alloc' ?_ (Nat.le_refl _) _ | refine below_drew ?_))) (by simp [Act.eval]; exact (rd_blk (w := (w2.alloc _).drew) (heap_alloc_new w2 _)).src _ Tryd.underlying26 (one_str R)) ?_; intro v3 w3 hown3 hrow3 hb3; have hx0 : (w2.alloc (.cells #[.string R] 9)).drew.heap[w.heap.size]? = some (.cells (N.vals (.slice A5 n5 c5) (.slice A6 n6 c6)) 31 (0, 0)) := (Below.heap_alloc _ _ _ lb).trans HX2.out; have hx3 := (hrow3.block hx0 (by decide)).trans hx0; obtain ⟨-, A7, c7, rfl, -, -, -, -⟩ := hown3.rd; have k3' : w3.cell? ⟨w.heap.size, 3, none⟩ = some (.slice A5 n5 c5) := cell_of_row _ _ _ _ _ _ hx3; have q3' : w3.frozen? ⟨w.heap.size, 3, none⟩ = false := frozen_of_row _ _ _ _ _ hx3; have HX3 := Lib.hid hx3; have HO3 := Lib.hid hown3; have HR3 := Lib.hid hrow3; have HB3 := Lib.hid hb3; clear hx0 hx3 hown3 hrow3 hb3)
      | (go_simp; go_at_call 39; refine (rblanks_any M.w _ (by omega)).mono ?_; rintro e w' ⟨rfl, rfl⟩; rw [← HR.out]))
    all_goals
      have hy3 : w3.heap[w.heap.size + 1]? = some (.cells (zeroRef.vals nilS nilS) 31 (0, 0)) := (HR3.out.block ((Below.heap_alloc _ _ _ (by have := HS2.out; omega)).trans HY2.out) (by decide)).trans ((Below.heap_alloc _ _ _ (by have := HS2.out; omega)).trans HY2.out)
      have hkA : Own (w2.alloc (.cells #[.string R] 9)).drew (w.heap.size + 2) 9 1 (.slice A6 n6 c6) n6 (N.kept.map strV) := HK2.out.next (below_drew ((Below.refl _ _).alloc (Nat.le_refl _) _))
      have hk3 : ∀ w', Two w.heap.size w3 w' → RdT w' 9 (.slice A6 n6 c6) n6 (N.kept.map strV) := by
        intro w' ht
        rcases HAP.out with h0 | hne
        · exact ⟨hkA.rd.zero h0, fun h => absurd h (by omega)⟩
        · rcases HR3.out with hg | ⟨g, cur, fz, hvb, _, hg⟩
          · exact ((hkA.far hg (fun _ _ h => by cases h)).two (b := w.heap.size) (Nat.le_refl _) ht).rdt
          · refine ((hkA.far hg (fun g' h1 h2 => ?_)).two (b := w.heap.size) (Nat.le_refl _) ht).rdt
            injection h2 with h2
            subst h2
            exact hne _ hvb h1
      have hbw3 : Below w.heap.size w w3 := ((HB2.out.alloc (by omega) _).drew).trans (HB3.out.mono (by omega))
      have hs3 : w.heap.size + 2 ≤ w3.heap.size := Nat.le_trans (Nat.le_trans HS2.out (Nat.le_succ _)) (Nat.le_trans (by show w2.heap.size + 1 ≤ (w2.alloc _).heap.size; simp) HB3.out.size)
      obtain ⟨n7, hn7⟩ : ∃ n : Nat, n = n5 + 1 := ⟨_, rfl⟩
      rw [← hn7] at HO3 ⊢
      have g0 : w3.cell? ⟨w.heap.size, 0, none⟩ = some (.int .i64 N.w) := cell_of_row _ _ _ _ _ _ HX3.out
      have g1 : w3.cell? ⟨w.heap.size, 1, none⟩ = some (.int .i64 N.h) := cell_of_row _ _ _ _ _ _ HX3.out
      have g2 : w3.cell? ⟨w.heap.size, 2, none⟩ = some (.int .i64 N.most) := cell_of_row _ _ _ _ _ _ HX3.out
      have g3 : w3.cell? ⟨w.heap.size, 3, none⟩ = some (.slice A5 n5 c5) := cell_of_row _ _ _ _ _ _ HX3.out
      have g4 : w3.cell? ⟨w.heap.size, 4, none⟩ = some (.slice A6 n6 c6) := cell_of_row _ _ _ _ _ _ HX3.out
      have g5 : w3.cell? ⟨w.heap.size, 5, none⟩ = some (.int .i64 N.x) := cell_of_row _ _ _ _ _ _ HX3.out
      have g6 : w3.cell? ⟨w.heap.size, 6, none⟩ = some (.int .i64 N.y) := cell_of_row _ _ _ _ _ _ HX3.out
      have g7 : w3.cell? ⟨w.heap.size, 7, none⟩ = some (.int .i64 N.begun) := cell_of_row _ _ _ _ _ _ HX3.out
      have g8 : w3.cell? ⟨w.heap.size, 8, none⟩ = some (.string (bs N.args)) := cell_of_row _ _ _ _ _ _ HX3.out
      have d0 : w3.cell? ⟨w.heap.size + 1, 0, none⟩ = some (.int .i64 0) := cell_of_row _ _ _ _ _ _ hy3
      have d1 : w3.cell? ⟨w.heap.size + 1, 1, none⟩ = some (.int .i64 0) := cell_of_row _ _ _ _ _ _ hy3
      have d2 : w3.cell? ⟨w.heap.size + 1, 2, none⟩ = some (.int .i64 0) := cell_of_row _ _ _ _ _ _ hy3
      have d3 : w3.cell? ⟨w.heap.size + 1, 3, none⟩ = some (.slice none 0 0) := cell_of_row _ _ _ _ _ _ hy3
      have d4 : w3.cell? ⟨w.heap.size + 1, 4, none⟩ = some (.slice none 0 0) := cell_of_row _ _ _ _ _ _ hy3
      have d5 : w3.cell? ⟨w.heap.size + 1, 5, none⟩ = some (.int .i64 0) := cell_of_row _ _ _ _ _ _ hy3
      have d6 : w3.cell? ⟨w.heap.size + 1, 6, none⟩ = some (.int .i64 0) := cell_of_row _ _ _ _ _ _ hy3
      have d7 : w3.cell? ⟨w.heap.size + 1, 7, none⟩ = some (.int .i64 0) := cell_of_row _ _ _ _ _ _ hy3
      have d8 : w3.cell? ⟨w.heap.size + 1, 8, none⟩ = some (.string ⟨#[]⟩) := cell_of_row _ _ _ _ _ _ hy3
      have z0 : w3.frozen? ⟨w.heap.size + 1, 0, none⟩ = false := frozen_of_row _ _ _ _ _ hy3
      have z1 : w3.frozen? ⟨w.heap.size + 1, 1, none⟩ = false := frozen_of_row _ _ _ _ _ hy3
      have z2 : w3.frozen? ⟨w.heap.size + 1, 2, none⟩ = false := frozen_of_row _ _ _ _ _ hy3
      have z3 : w3.frozen? ⟨w.heap.size + 1, 3, none⟩ = false := frozen_of_row _ _ _ _ _ hy3
      have z4 : w3.frozen? ⟨w.heap.size + 1, 4, none⟩ = false := frozen_of_row _ _ _ _ _ hy3
      have z5 : w3.frozen? ⟨w.heap.size + 1, 5, none⟩ = false := frozen_of_row _ _ _ _ _ hy3
      have z6 : w3.frozen? ⟨w.heap.size + 1, 6, none⟩ = false := frozen_of_row _ _ _ _ _ hy3
      have z7 : w3.frozen? ⟨w.heap.size + 1, 7, none⟩ = false := frozen_of_row _ _ _ _ _ hy3
      have z8 : w3.frozen? ⟨w.heap.size + 1, 8, none⟩ = false := frozen_of_row _ _ _ _ _ hy3
      have HK3 := Lib.hid hk3; have HBW3 := Lib.hid hbw3; have HN7 := Lib.hid hn7
      clear hk3 hbw3 hy3 hn7 hkA k0 k3 q3 k3'
      go_wp2_with fail
      have h2 := (Two.setA (b := w.heap.size) (a := w3) (w := w3) (fun _ _ _ => rfl) 3 (.slice A7 n7 c7)).cells 0 (N.vals (.slice A7 n7 c7) (.slice A6 n6 c6)).toList
      have h3 := ((Below.refl w.heap.size w3).setCell (p := ⟨w.heap.size, 3, none⟩) (Nat.le_refl _) (.slice A7 n7 c7)).grown (grown_setCells _ (w.heap.size + 1) 0 (N.vals (.slice A7 n7 c7) (.slice A6 n6 c6)).toList) (by simp; omega) (fun q hq => by injection hq with hq; omega)
      have HM2 : Hid (M.down = { N with rows := M.rows.tail ++ [List.replicate M.w 32] }) := by rw [HM.out, HN.out]; exact Lib.hid rfl
      rw [HM2.out]
      refine bodyPost_ret (v := .agg (Ref.vals { N with rows := M.rows.tail ++ [List.replicate M.w 32] } (.slice A7 n7 c7) (.slice A6 n6 c6))) (by simp [results, Tryd.results49, go_sem, Ref.vals, d0, d1, d2, d3, d4, d5, d6, d7, d8]) rfl ⟨_, rfl, ⟨_, _, rfl, ?_, ?_⟩, ?_⟩
      · have := (HO3.out.two (b := w.heap.size) (Nat.le_refl _) h2).rdt
        show RdT _ _ _ (M.rows.tail ++ [List.replicate M.w 32]).length ((M.rows.tail ++ [List.replicate M.w 32]).map strV)
        rw [List.length_append, List.map_append, ← HNr.out, ← HN5.out, List.map_cons, List.map_nil, strV_bs, ← HR.out, show n5 + [List.replicate M.w (32 : UInt8)].length = n7 from HN7.out.symm]
        exact this
      · show RdT _ _ _ N.kept.length (N.kept.map strV)
        rw [← HN6.out]
        exact HK3.out _ h2
      · exact HBW3.out.trans h3
end Go.Proofs.YtiefpodmdpnppaaDoor
