/-
  WALKS of layer 56's document: lay, erase.
-/
import Derived.Test.YtiefpodmdpnppaaDoorCelT
namespace Go.Proofs.YtiefpodmdpnppaaDoor
open Go.RowKit
attribute [local go_sem ↓] Go.wp_at_zero Go.wp_at_succ

def spl (r : List UInt8) (f : Nat) (s : List UInt8) : List UInt8 := r.take f ++ (s ++ r.drop (f + s.length))
def Ref.lay (M : Ref) (y f : Nat) (s : List UInt8) : Ref := { M with rows := M.rows.set y (spl (M.rows.getD y []) f s) }
theorem extract_end (t : ByteArray) (a : Nat) : (t.extract a t.size).data.toList = t.data.toList.drop a := by
  have h : (t.extract a t.size).data = t.data.extract a t.data.size := ByteArray.data_extract
  rw [h]
  have hl : t.data.toList.length = t.data.size := Array.length_toList
  simp only [Array.toList_extract, List.extract_eq_take_drop]
  rw [List.take_of_length_le (by rw [List.length_drop, hl]; exact Nat.le_refl _)]
theorem ba_append (a b : ByteArray) : (a ++ b).data.toList = a.data.toList ++ b.data.toList := by
  show (ByteArray.append a b).data.toList = _
  simp
theorem ba_ext {a b : ByteArray} (h : a.data.toList = b.data.toList) : a = b := by
  apply ByteArray.ext
  exact Array.toList_inj.1 h
theorem spl_bytes (R S : ByteArray) (f : Nat) : R.extract 0 f ++ S ++ R.extract (f + S.size) R.size = bs (spl R.data.toList f S.data.toList) := by
  apply ba_ext
  rw [ba_append, ba_append, extract_list, extract_end, bs_list, spl, List.append_assoc]
  congr 2
theorem Own.drew {w : World} {B : Nat} {e : TypeId} {k n : Nat} {v : Value} {xs : List Value} (h : Own w B e k v n xs) : Own w.drew B e k v n xs := h.heap rfl
/-- the world behind the two new blocks of a call -/
theorem ref_blocks (w : World) (X Y : Obj) : ((w.alloc X).alloc Y).heap.size = w.heap.size + 2 := by simp

set_option maxRecDepth 100000 in
set_option maxHeartbeats 1600000 in
theorem lay_walk (v : Value) (M : Ref) (y f : Nat) (s : ByteArray) (w : World) (h : RV w v M) (hr2 : M.rows.length ≤ 1000) (hy : y < M.rows.length) (hf : f + s.size ≤ (M.rows.getD y []).length) (hl : (M.rows.getD y []).length ≤ 1000) :
    Calls Tryd.prog 50 #[v, .int .i64 y, .int .i64 f, .string s] w (RVPost w (M.lay y f s.data.toList)) := by
  obtain ⟨vr, vk, rfl, h1, h2⟩ := h
  obtain ⟨i0, hi, hz0, hz1, hz2⟩ := info_parts infoS
  have HI := Lib.hid hi; have HZ0 := Lib.hid hz0; have HZ1 := Lib.hid hz1; have HZ2 := Lib.hid hz2
  clear hi hz0 hz1 hz2
  have H1 := Lib.hid h1; have H2 := Lib.hid h2
  obtain ⟨-, A4, c4, rfl, -, -, -, -⟩ := h2.1
  obtain ⟨-, A3, c3, rfl, -, -, -, -⟩ := h1.1
  clear h1 h2
  obtain ⟨n3, hn3⟩ : ∃ n : Nat, n = M.rows.length := ⟨_, rfl⟩
  obtain ⟨n4, hn4⟩ : ∃ n : Nat, n = M.kept.length := ⟨_, rfl⟩
  rw [← hn3] at H1 hr2 hy ⊢
  rw [← hn4] at H2 ⊢
  obtain ⟨W, hW⟩ : ∃ W, W = (w.alloc (.cells (M.vals (.slice A3 n3 c3) (.slice A4 n4 c4)) 31)).alloc (.cells #[.int .i64 0, .int .i64 0, .int .i64 0, .slice none 0 0, .slice none 0 0, .int .i64 0, .int .i64 0, .int .i64 0, .string ⟨#[]⟩] 31) := ⟨_, rfl⟩
  have hWx : W.heap[w.heap.size]? = some (.cells (M.vals (.slice A3 n3 c3) (.slice A4 n4 c4)) 31 (0, 0)) := by rw [hW]; exact alloc2_fst _ _ _
  have hWy : W.heap[w.heap.size + 1]? = some (.cells (zeroRef.vals nilS nilS) 31 (0, 0)) := by rw [hW]; exact alloc2_snd _ _ _
  have hWb : Below w.heap.size w W := by rw [hW]; exact below_alloc2 _ _ _
  have hWs : W.heap.size = w.heap.size + 2 := by rw [hW]; simp
  have k3 : W.cell? ⟨w.heap.size, 3, none⟩ = some (.slice A3 n3 c3) := cell_of_row _ _ _ _ _ _ hWx
  have lb : w.heap.size < W.heap.size := by omega
  have HW := Lib.hid hW; have HX := Lib.hid hWx; have HY := Lib.hid hWy; have HB := Lib.hid hWb; have HS := Lib.hid hWs; have HN3 := Lib.hid hn3; have HN4 := Lib.hid hn4
  clear hW hWx hWy hWb hWs hn3 hn4
  go_enter Tryd.func50, Tryd.ntmps50
  go_upto_region 1 with fail
  rw [← HW.out]
  clear HW
  go_wp2_with (at_builtin; refine wpList_appE rfl (.tmp 10) (.tmp 12) 26 26 rfl W.heap.size 9 i0 _ 1 16 Tryd.underlying26 HI.out HZ0.out HZ1.out HZ2.out rfl _ _ rfl _ rfl n3 (M.rows.map strV) (((H1.out.next HB.out).next ((Below.refl _ _).alloc (Nat.le_refl _) _)).1.src _ Tryd.underlying26 (strV_one _)) (by unfold maxLen; omega) (by omega) (by simp) ?_)
  intro v9 w9 hown9 hb9 hob9
  obtain ⟨g, o, c9, rfl, ho9⟩ : ∃ g o c, v9 = .slice (some ⟨g, o, none⟩) n3 c ∧ OwnAt w9 W.heap.size 9 1 g o n3 c (M.rows.map strV) := by
    rcases hown9.2 with ⟨A, hv, h0, _⟩ | ⟨g, o, c, hv, ho⟩
    · omega
    · exact ⟨g, o, c, hv, ho⟩
  have hs9 : (W.alloc (.cells #[] 9)).heap.size = W.heap.size + 1 := by simp
  have hb9' : Below W.heap.size W w9 := below_next ((Below.refl _ _).alloc (Nat.le_refl _) _) (by rw [hs9]; exact hb9)
  have hx9 : w9.heap[w.heap.size]? = some (.cells (M.vals (.slice A3 n3 c3) (.slice A4 n4 c4)) 31 (0, 0)) := (hb9'.block _ lb).trans HX.out
  have hy9 : w9.heap[w.heap.size + 1]? = some (.cells (zeroRef.vals nilS nilS) 31 (0, 0)) := (hb9'.block _ (by have := HS.out; omega)).trans HY.out
  have hbw9 : Below w.heap.size w w9 := below_next HB.out hb9'
  obtain ⟨R, hR⟩ : ∃ R : ByteArray, R = bs (M.rows.getD y []) := ⟨_, rfl⟩
  have hRl : R.data.toList = M.rows.getD y [] := by rw [hR, bs_list]
  have hRs : R.size = (M.rows.getD y []).length := by rw [hR, bs_size]
  rw [← hRs] at hf hl
  have kR : w9.cell? ⟨g, o + y, none⟩ = some (.string R) := by
    refine ho9.holds y _ ?_
    rw [List.getElem?_map, List.getElem?_eq_getElem (by rw [← HN3.out]; exact hy), hR, List.getD_eq_getElem?_getD, List.getElem?_eq_getElem (by rw [← HN3.out]; exact hy)]
    rfl
  have fR : w9.frozen? ⟨g, o + y, none⟩ = false := (ho9.room y (by have := ho9.le; omega)).2
  have hset := ho9.set (by rw [List.length_map, ← HN3.out, Nat.mul_one]) y (.string (R.extract 0 f ++ s ++ R.extract (f + s.size) R.size)) (by omega)
  rw [spl_bytes, hRl, ← strV_bs, ← List.map_set] at hset
  have hsp := spl_bytes R s f
  rw [hRl] at hsp
  have hgb : g ≠ w.heap.size := by have := ho9.base; omega
  have hgb1 : g ≠ w.heap.size + 1 := by have := ho9.base; have := HS.out; omega
  have hgW := ho9.base
  have HSP := Lib.hid hsp; have HSET := Lib.hid hset; have HX9 := Lib.hid hx9; have HY9 := Lib.hid hy9; have HBW9 := Lib.hid hbw9; have HB9 := Lib.hid hb9'
  have hyI : (y : Int) < (n3 : Int) := by omega
  have hy0 : (0 : Int) ≤ (y : Int) := by omega
  have hf0 : (f : Int) ≤ (R.size : Int) := by omega
  have hfI : IntKind.i64.wrap ((f : Int) + (s.size : Int)) = ((f + s.size : Nat) : Int) := by rw [IntWalk.i64_in _ (by omega)]; omega
  obtain ⟨q, hq⟩ : ∃ q : Nat, q = f + s.size := ⟨_, rfl⟩
  rw [← hq] at hfI HSP
  have hqR : q ≤ R.size := by omega
  clear hown9 hb9 hob9 ho9 hs9 hb9' hx9 hy9 hbw9 hR hRl hRs hset hsp k3 hq
  have z1 : (R.extract 0 f).size ≤ 1000 := by rw [ByteArray.size_extract]; omega
  have z2 : (R.extract q R.size).size ≤ 1000 := by rw [ByteArray.size_extract]; omega
  have z3 : (R.extract 0 f ++ s).size ≤ 2000 := by rw [ByteArray.size_append]; omega
  have a1 : ∀ W : World, (Op.stringOp .add (R.extract 0 f) s).run Tryd.prog W = .ok (.string (R.extract 0 f ++ s)) W := fun W => run_string_add_sum W _ _ (by omega)
  have a2 : ∀ W : World, (Op.stringOp .add (R.extract 0 f ++ s) (R.extract q R.size)).run Tryd.prog W = .ok (.string (R.extract 0 f ++ s ++ R.extract q R.size)) W := fun W => run_string_add_sum W _ _ (by omega)
  clear z1 z2 z3
  go_wp2_with fail
  go_still_tail 21, (by kernel_rfl)
  change wpList _ _ _ _ _ w9.drew
  clear a1 a2
  rw [HSP.out]
  have hgb' := hgb.symm
  have hgb1' := hgb1.symm
  have e0 : w9.cell? ⟨w.heap.size, 0, none⟩ = some (.int .i64 M.w) := cell_of_row _ _ _ _ _ _ HX9.out
  have e1 : w9.cell? ⟨w.heap.size, 1, none⟩ = some (.int .i64 M.h) := cell_of_row _ _ _ _ _ _ HX9.out
  have e2 : w9.cell? ⟨w.heap.size, 2, none⟩ = some (.int .i64 M.most) := cell_of_row _ _ _ _ _ _ HX9.out
  have e3 : w9.cell? ⟨w.heap.size, 3, none⟩ = some (.slice A3 n3 c3) := cell_of_row _ _ _ _ _ _ HX9.out
  have e4 : w9.cell? ⟨w.heap.size, 4, none⟩ = some (.slice A4 n4 c4) := cell_of_row _ _ _ _ _ _ HX9.out
  have e5 : w9.cell? ⟨w.heap.size, 5, none⟩ = some (.int .i64 M.x) := cell_of_row _ _ _ _ _ _ HX9.out
  have e6 : w9.cell? ⟨w.heap.size, 6, none⟩ = some (.int .i64 M.y) := cell_of_row _ _ _ _ _ _ HX9.out
  have e7 : w9.cell? ⟨w.heap.size, 7, none⟩ = some (.int .i64 M.begun) := cell_of_row _ _ _ _ _ _ HX9.out
  have e8 : w9.cell? ⟨w.heap.size, 8, none⟩ = some (.string (bs M.args)) := cell_of_row _ _ _ _ _ _ HX9.out
  have f3 : w9.frozen? ⟨w.heap.size, 3, none⟩ = false := frozen_of_row _ _ _ _ _ HX9.out
  have d0 : w9.cell? ⟨w.heap.size + 1, 0, none⟩ = some (.int .i64 0) := cell_of_row _ _ _ _ _ _ HY9.out
  have d1 : w9.cell? ⟨w.heap.size + 1, 1, none⟩ = some (.int .i64 0) := cell_of_row _ _ _ _ _ _ HY9.out
  have d2 : w9.cell? ⟨w.heap.size + 1, 2, none⟩ = some (.int .i64 0) := cell_of_row _ _ _ _ _ _ HY9.out
  have d3 : w9.cell? ⟨w.heap.size + 1, 3, none⟩ = some (.slice none 0 0) := cell_of_row _ _ _ _ _ _ HY9.out
  have d4 : w9.cell? ⟨w.heap.size + 1, 4, none⟩ = some (.slice none 0 0) := cell_of_row _ _ _ _ _ _ HY9.out
  have d5 : w9.cell? ⟨w.heap.size + 1, 5, none⟩ = some (.int .i64 0) := cell_of_row _ _ _ _ _ _ HY9.out
  have d6 : w9.cell? ⟨w.heap.size + 1, 6, none⟩ = some (.int .i64 0) := cell_of_row _ _ _ _ _ _ HY9.out
  have d7 : w9.cell? ⟨w.heap.size + 1, 7, none⟩ = some (.int .i64 0) := cell_of_row _ _ _ _ _ _ HY9.out
  have d8 : w9.cell? ⟨w.heap.size + 1, 8, none⟩ = some (.string ⟨#[]⟩) := cell_of_row _ _ _ _ _ _ HY9.out
  have z0 : w9.frozen? ⟨w.heap.size + 1, 0, none⟩ = false := frozen_of_row _ _ _ _ _ HY9.out
  have z1 : w9.frozen? ⟨w.heap.size + 1, 1, none⟩ = false := frozen_of_row _ _ _ _ _ HY9.out
  have z2 : w9.frozen? ⟨w.heap.size + 1, 2, none⟩ = false := frozen_of_row _ _ _ _ _ HY9.out
  have z3 : w9.frozen? ⟨w.heap.size + 1, 3, none⟩ = false := frozen_of_row _ _ _ _ _ HY9.out
  have z4 : w9.frozen? ⟨w.heap.size + 1, 4, none⟩ = false := frozen_of_row _ _ _ _ _ HY9.out
  have z5 : w9.frozen? ⟨w.heap.size + 1, 5, none⟩ = false := frozen_of_row _ _ _ _ _ HY9.out
  have z6 : w9.frozen? ⟨w.heap.size + 1, 6, none⟩ = false := frozen_of_row _ _ _ _ _ HY9.out
  have z7 : w9.frozen? ⟨w.heap.size + 1, 7, none⟩ = false := frozen_of_row _ _ _ _ _ HY9.out
  have z8 : w9.frozen? ⟨w.heap.size + 1, 8, none⟩ = false := frozen_of_row _ _ _ _ _ HY9.out
  obtain ⟨T, hT⟩ : ∃ T : ByteArray, T = bs (spl (M.rows.getD y []) f s.data.toList) := ⟨_, rfl⟩
  rw [← hT]
  have HT := Lib.hid hT
  clear hT hf0 hqR hfI hl hf
  go_wp2_with fail
  have hW9 : W.heap.size ≤ w9.heap.size := HB9.out.size
  have h1 : Own (w9.setCell ⟨g, o + y, none⟩ (.string T)) W.heap.size 9 1 (.slice (some ⟨g, o, none⟩) n3 c9) n3 ((M.rows.set y (spl (M.rows.getD y []) f s.data.toList)).map strV) := ⟨by rw [List.length_map, List.length_set, ← HN3.out, Nat.mul_one], Or.inr ⟨g, o, c9, rfl, by rw [HT.out]; exact HSET.out⟩⟩
  have h2 := (Two.setA (b := w.heap.size) (a := w9.setCell ⟨g, o + y, none⟩ (.string T)) (w := w9.setCell ⟨g, o + y, none⟩ (.string T)) (fun _ _ _ => rfl) 3 (.slice (some ⟨g, o, none⟩) n3 c9)).cells 0 (M.vals (.slice (some ⟨g, o, none⟩) n3 c9) (.slice A4 n4 c4)).toList
  have h3 := ((HBW9.out.setCell (p := ⟨g, o + y, none⟩) (by show w.heap.size ≤ g; omega) (.string T)).setCell (p := ⟨w.heap.size, 3, none⟩) (Nat.le_refl _) (.slice (some ⟨g, o, none⟩) n3 c9)).grown (grown_setCells _ (w.heap.size + 1) 0 (M.vals (.slice (some ⟨g, o, none⟩) n3 c9) (.slice A4 n4 c4)).toList) (by simp; omega) (fun q hq => by injection hq with hq; omega)
  refine bodyPost_ret (v := .agg (Ref.vals (M.lay y f s.data.toList) (.slice (some ⟨g, o, none⟩) n3 c9) (.slice A4 n4 c4))) (by simp [results, Tryd.results50, go_sem, Ref.vals, Ref.lay, d0, d1, d2, d3, d4, d5, d6, d7, d8]) rfl ⟨_, rfl, ⟨_, _, rfl, ?_, ?_⟩, ?_⟩
  · have := (h1.two (b := w.heap.size) (by have := HS.out; omega) h2).drew.rdt
    show RdT _ _ _ (M.rows.set y (spl (M.rows.getD y []) f s.data.toList)).length ((M.rows.set y (spl (M.rows.getD y []) f s.data.toList)).map strV)
    rw [List.length_set, ← HN3.out]
    exact this
  · show RdT _ _ _ M.kept.length (M.kept.map strV)
    rw [← HN4.out]
    exact H2.out.next h3.drew
  · exact h3.drew
end Go.Proofs.YtiefpodmdpnppaaDoor
