/-
  WALKS of layer 56's document: Byte, where nothing is called.
-/
import Derived.Test.YtiefpodmdpnppaaDoorCelY
namespace Go.Proofs.YtiefpodmdpnppaaDoor
open Go.RowKit

def Ref.wipeAll (M : Ref) : Nat → Ref
  | 0 => M
  | k + 1 => (M.wipeAll k).erase k 2 0
def Ref.letter (M : Ref) (v : UInt8) : Ref :=
  let N := if M.w ≤ M.x then M.down else M
  { N.lay N.y N.x [v] with x := N.x + 1 }
def Ref.byte (M : Ref) (v : UInt8) : Ref :=
  if M.begun = 1 then (if v.toNat = 91 then { M with begun := 2, args := [] } else { M with begun := 0, args := [] })
  else if M.begun = 2 then
    (if (48 ≤ v.toNat ∧ v.toNat ≤ 57) ∨ v.toNat = 59 then { M with args := M.args ++ [v] }
     else if 64 ≤ v.toNat ∧ v.toNat ≤ 126 then { ({ M with begun := 0 } : Ref).command v.toNat with args := [] } else { M with begun := 0, args := [] })
  else if 32 ≤ v.toNat ∧ v.toNat ≤ 126 then M.letter v
  else if v.toNat = 10 then M.down
  else if v.toNat = 13 then { M with x := 0 }
  else if v.toNat = 8 then { M with x := M.x - 1 }
  else if v.toNat = 9 then { M with x := max M.x (min (M.x / 8 * 8 + 8) (M.w - 1)) }
  else if v.toNat = 12 then { M.wipeAll M.h with x := 0, y := 0 }
  else if v.toNat = 27 then { M with begun := 1 }
  else M

theorem bs_nil : bs [] = ⟨#[]⟩ := rfl
theorem below_setG {B : Nat} {a w : World} (h : Below B a w) (b : Nat) (hb : B ≤ b) (j : Nat) (u : Value) : Below B a (w.setCell ⟨b, j, none⟩ u) := h.setCell (p := ⟨b, j, none⟩) hb u
theorem Two.setC {b : Nat} {a w : World} (h : Two b a w) (j : Nat) (u : Value) : Two b a (w.setCell ⟨b + 1, j, none⟩ u) :=
  fun k h1 h2 => (Below.heap_setCell _ _ _ _ h2).trans (h k h1 h2)
theorem Two.refl (b : Nat) (w : World) : Two b w w := fun _ _ _ => rfl
theorem RdT.two {w w' : World} {e t : TypeId} {b n : Nat} {v : Value} {xs : List Value} {c1 c2 : Array Value} {f1 f2 : Nat × Nat} (h : RdT w e v n xs) (h1 : w.heap[b]? = some (.cells c1 t f1)) (h2 : w.heap[b + 1]? = some (.cells c2 t f2)) (hne : e ≠ t) (ht : Two b w w') : RdT w' e v n xs := by
  rcases Nat.eq_zero_or_pos n with h0 | hn
  · obtain ⟨q1, A, c, hv, q2, q3, q4, q5⟩ := h.1
    exact ⟨⟨q1, A, c, hv, q2, q3, q4, fun hn => absurd hn (by omega)⟩, fun hn => absurd hn (by omega)⟩
  · obtain ⟨q1, A, c, hv, q2, q3, q4, q5⟩ := h.1
    obtain ⟨g, o, hA, hlt, hc⟩ := q5 hn
    obtain ⟨cur, fz', hk⟩ := h.2 hn g (by rw [hv, hA]; rfl)
    have hg1 : g ≠ b := by
      rintro rfl
      rw [hk] at h1
      injection h1 with h1
      injection h1 with _ hh
      exact hne hh
    have hg2 : g ≠ b + 1 := by
      rintro rfl
      rw [hk] at h2
      injection h2 with h2
      injection h2 with _ hh
      exact hne hh
    have hblk := ht g hg1 hg2
    have hlt' : g < w'.heap.size := block_lt (hblk.trans hk)
    refine ⟨⟨q1, A, c, hv, q2, q3, q4, fun _ => ⟨g, o, hA, hlt', fun j u hu => (World.cell?_of_block (a := ⟨g, o + j, none⟩) hblk).trans (hc j u hu)⟩⟩, fun _ g' hg' => ?_⟩
    rw [hv, hA] at hg'
    injection hg' with hg'
    subst hg'
    exact ⟨cur, fz', hblk.trans hk⟩


set_option maxRecDepth 100000 in
set_option maxHeartbeats 1600000 in
theorem rbyte_esc91 (v : Value) (M : Ref) (w : World) (h : RV w v M) (ok : M.Ok)(hb1 : M.begun = 1) :
    Calls Tryd.prog 34 #[v, .int .u8 91] w (RVPost w ({ M with begun := 2, args := [] })) := by
  have tb1 : ((M.begun : Int) == 1) = true := by rw [hb1]; rfl
  clear hb1
  obtain ⟨vr, vk, rfl, h1, h2⟩ := h
  have H1 := Lib.hid h1; have H2 := Lib.hid h2
  obtain ⟨-, A4, c4, rfl, -, -, -, -⟩ := h2.1
  obtain ⟨-, A3, c3, rfl, -, -, -, -⟩ := h1.1
  clear h1 h2
  have hw1 := ok.w1; have hw2 := ok.w2; have hh1 := ok.h1; have hh2 := ok.h2; have hx := ok.x; have hy := ok.y
  have hw0 : ((M.w : Int) == 0) = false := by simp; omega
  obtain ⟨n3, hn3⟩ : ∃ n : Nat, n = M.rows.length := ⟨_, rfl⟩
  obtain ⟨n4, hn4⟩ : ∃ n : Nat, n = M.kept.length := ⟨_, rfl⟩
  rw [← hn3] at H1 ⊢
  rw [← hn4] at H2 ⊢
  obtain ⟨W, hW⟩ : ∃ W, W = (w.alloc (.cells (M.vals (.slice A3 n3 c3) (.slice A4 n4 c4)) 31)).alloc (.cells #[.int .i64 0, .int .i64 0, .int .i64 0, .slice none 0 0, .slice none 0 0, .int .i64 0, .int .i64 0, .int .i64 0, .string ⟨#[]⟩] 31) := ⟨_, rfl⟩
  have hWx : W.heap[w.heap.size]? = some (.cells (M.vals (.slice A3 n3 c3) (.slice A4 n4 c4)) 31 (0, 0)) := by rw [hW]; exact alloc2_fst _ _ _
  have hWy : W.heap[w.heap.size + 1]? = some (.cells (zeroRef.vals nilS nilS) 31 (0, 0)) := by rw [hW]; exact alloc2_snd _ _ _
  have hWb : Below w.heap.size w W := by rw [hW]; exact below_alloc2 _ _ _
  have hWs : W.heap.size = w.heap.size + 2 := by rw [hW]; simp
  have e0 : W.cell? ⟨w.heap.size, 0, none⟩ = some (.int .i64 M.w) := cell_of_row _ _ _ _ _ _ hWx
  have e1 : W.cell? ⟨w.heap.size, 1, none⟩ = some (.int .i64 M.h) := cell_of_row _ _ _ _ _ _ hWx
  have e2 : W.cell? ⟨w.heap.size, 2, none⟩ = some (.int .i64 M.most) := cell_of_row _ _ _ _ _ _ hWx
  have e3 : W.cell? ⟨w.heap.size, 3, none⟩ = some (.slice A3 n3 c3) := cell_of_row _ _ _ _ _ _ hWx
  have e4 : W.cell? ⟨w.heap.size, 4, none⟩ = some (.slice A4 n4 c4) := cell_of_row _ _ _ _ _ _ hWx
  have e5 : W.cell? ⟨w.heap.size, 5, none⟩ = some (.int .i64 M.x) := cell_of_row _ _ _ _ _ _ hWx
  have e6 : W.cell? ⟨w.heap.size, 6, none⟩ = some (.int .i64 M.y) := cell_of_row _ _ _ _ _ _ hWx
  have e7 : W.cell? ⟨w.heap.size, 7, none⟩ = some (.int .i64 M.begun) := cell_of_row _ _ _ _ _ _ hWx
  have e8 : W.cell? ⟨w.heap.size, 8, none⟩ = some (.string (bs M.args)) := cell_of_row _ _ _ _ _ _ hWx
  have f0 : W.frozen? ⟨w.heap.size, 0, none⟩ = false := frozen_of_row _ _ _ _ _ hWx
  have f1 : W.frozen? ⟨w.heap.size, 1, none⟩ = false := frozen_of_row _ _ _ _ _ hWx
  have f2 : W.frozen? ⟨w.heap.size, 2, none⟩ = false := frozen_of_row _ _ _ _ _ hWx
  have f3 : W.frozen? ⟨w.heap.size, 3, none⟩ = false := frozen_of_row _ _ _ _ _ hWx
  have f4 : W.frozen? ⟨w.heap.size, 4, none⟩ = false := frozen_of_row _ _ _ _ _ hWx
  have f5 : W.frozen? ⟨w.heap.size, 5, none⟩ = false := frozen_of_row _ _ _ _ _ hWx
  have f6 : W.frozen? ⟨w.heap.size, 6, none⟩ = false := frozen_of_row _ _ _ _ _ hWx
  have f7 : W.frozen? ⟨w.heap.size, 7, none⟩ = false := frozen_of_row _ _ _ _ _ hWx
  have f8 : W.frozen? ⟨w.heap.size, 8, none⟩ = false := frozen_of_row _ _ _ _ _ hWx
  have d0 : W.cell? ⟨w.heap.size + 1, 0, none⟩ = some (.int .i64 0) := cell_of_row _ _ _ _ _ _ hWy
  have d1 : W.cell? ⟨w.heap.size + 1, 1, none⟩ = some (.int .i64 0) := cell_of_row _ _ _ _ _ _ hWy
  have d2 : W.cell? ⟨w.heap.size + 1, 2, none⟩ = some (.int .i64 0) := cell_of_row _ _ _ _ _ _ hWy
  have d3 : W.cell? ⟨w.heap.size + 1, 3, none⟩ = some (.slice none 0 0) := cell_of_row _ _ _ _ _ _ hWy
  have d4 : W.cell? ⟨w.heap.size + 1, 4, none⟩ = some (.slice none 0 0) := cell_of_row _ _ _ _ _ _ hWy
  have d5 : W.cell? ⟨w.heap.size + 1, 5, none⟩ = some (.int .i64 0) := cell_of_row _ _ _ _ _ _ hWy
  have d6 : W.cell? ⟨w.heap.size + 1, 6, none⟩ = some (.int .i64 0) := cell_of_row _ _ _ _ _ _ hWy
  have d7 : W.cell? ⟨w.heap.size + 1, 7, none⟩ = some (.int .i64 0) := cell_of_row _ _ _ _ _ _ hWy
  have d8 : W.cell? ⟨w.heap.size + 1, 8, none⟩ = some (.string ⟨#[]⟩) := cell_of_row _ _ _ _ _ _ hWy
  have z0 : W.frozen? ⟨w.heap.size + 1, 0, none⟩ = false := frozen_of_row _ _ _ _ _ hWy
  have z1 : W.frozen? ⟨w.heap.size + 1, 1, none⟩ = false := frozen_of_row _ _ _ _ _ hWy
  have z2 : W.frozen? ⟨w.heap.size + 1, 2, none⟩ = false := frozen_of_row _ _ _ _ _ hWy
  have z3 : W.frozen? ⟨w.heap.size + 1, 3, none⟩ = false := frozen_of_row _ _ _ _ _ hWy
  have z4 : W.frozen? ⟨w.heap.size + 1, 4, none⟩ = false := frozen_of_row _ _ _ _ _ hWy
  have z5 : W.frozen? ⟨w.heap.size + 1, 5, none⟩ = false := frozen_of_row _ _ _ _ _ hWy
  have z6 : W.frozen? ⟨w.heap.size + 1, 6, none⟩ = false := frozen_of_row _ _ _ _ _ hWy
  have z7 : W.frozen? ⟨w.heap.size + 1, 7, none⟩ = false := frozen_of_row _ _ _ _ _ hWy
  have z8 : W.frozen? ⟨w.heap.size + 1, 8, none⟩ = false := frozen_of_row _ _ _ _ _ hWy
  have HW := Lib.hid hW; have HX := Lib.hid hWx; have HY := Lib.hid hWy; have HB := Lib.hid hWb; have HS := Lib.hid hWs; have HN3 := Lib.hid hn3; have HN4 := Lib.hid hn4
  clear hW hWx hWy hWb hWs hn3 hn4
  go_enter Tryd.func34, Tryd.ntmps34
  go_upto_region 1 with fail
  rw [← HW.out]
  clear HW
  go_wp2_with fail
  refine bodyPost_ret (v := .agg (Ref.vals ({ M with begun := 2, args := [] }) (.slice A3 n3 c3) (.slice A4 n4 c4))) (by simp [results, Tryd.results34, go_sem, Ref.vals, d0, d1, d2, d3, d4, d5, d6, d7, d8, bs_nil]) rfl ⟨_, rfl, ⟨_, _, rfl, ?_, ?_⟩, ?_⟩
  · show RdT _ _ _ M.rows.length (M.rows.map strV)
    rw [← HN3.out]
    exact H1.out.next (by repeat (first | with_reducible exact HB.out | with_reducible refine below_setG ?_ _ (by omega) _ _ | with_reducible refine below_drew ?_ | with_reducible refine Below.alloc ?_ (by have := HS.out; simp; omega) _))
  · show RdT _ _ _ M.kept.length (M.kept.map strV)
    rw [← HN4.out]
    exact H2.out.next (by repeat (first | with_reducible exact HB.out | with_reducible refine below_setG ?_ _ (by omega) _ _ | with_reducible refine below_drew ?_ | with_reducible refine Below.alloc ?_ (by have := HS.out; simp; omega) _))
  · repeat (first | with_reducible exact HB.out | with_reducible refine below_setG ?_ _ (by omega) _ _ | with_reducible refine below_drew ?_ | with_reducible refine Below.alloc ?_ (by have := HS.out; simp; omega) _)

set_option maxRecDepth 100000 in
set_option maxHeartbeats 1600000 in
theorem rbyte_esc (v : Value) (M : Ref)(c : Nat) (w : World) (h : RV w v M) (ok : M.Ok)(hb1 : M.begun = 1) (hc : ¬ c = 91) :
    Calls Tryd.prog 34 #[v, .int .u8 c] w (RVPost w ({ M with begun := 0, args := [] })) := by
  have tb1 : ((M.begun : Int) == 1) = true := by rw [hb1]; rfl
  have tc : ((c : Int) == 91) = false := by simp; omega
  clear hb1 hc
  obtain ⟨vr, vk, rfl, h1, h2⟩ := h
  have H1 := Lib.hid h1; have H2 := Lib.hid h2
  obtain ⟨-, A4, c4, rfl, -, -, -, -⟩ := h2.1
  obtain ⟨-, A3, c3, rfl, -, -, -, -⟩ := h1.1
  clear h1 h2
  have hw1 := ok.w1; have hw2 := ok.w2; have hh1 := ok.h1; have hh2 := ok.h2; have hx := ok.x; have hy := ok.y
  have hw0 : ((M.w : Int) == 0) = false := by simp; omega
  obtain ⟨n3, hn3⟩ : ∃ n : Nat, n = M.rows.length := ⟨_, rfl⟩
  obtain ⟨n4, hn4⟩ : ∃ n : Nat, n = M.kept.length := ⟨_, rfl⟩
  rw [← hn3] at H1 ⊢
  rw [← hn4] at H2 ⊢
  obtain ⟨W, hW⟩ : ∃ W, W = (w.alloc (.cells (M.vals (.slice A3 n3 c3) (.slice A4 n4 c4)) 31)).alloc (.cells #[.int .i64 0, .int .i64 0, .int .i64 0, .slice none 0 0, .slice none 0 0, .int .i64 0, .int .i64 0, .int .i64 0, .string ⟨#[]⟩] 31) := ⟨_, rfl⟩
  have hWx : W.heap[w.heap.size]? = some (.cells (M.vals (.slice A3 n3 c3) (.slice A4 n4 c4)) 31 (0, 0)) := by rw [hW]; exact alloc2_fst _ _ _
  have hWy : W.heap[w.heap.size + 1]? = some (.cells (zeroRef.vals nilS nilS) 31 (0, 0)) := by rw [hW]; exact alloc2_snd _ _ _
  have hWb : Below w.heap.size w W := by rw [hW]; exact below_alloc2 _ _ _
  have hWs : W.heap.size = w.heap.size + 2 := by rw [hW]; simp
  have e0 : W.cell? ⟨w.heap.size, 0, none⟩ = some (.int .i64 M.w) := cell_of_row _ _ _ _ _ _ hWx
  have e1 : W.cell? ⟨w.heap.size, 1, none⟩ = some (.int .i64 M.h) := cell_of_row _ _ _ _ _ _ hWx
  have e2 : W.cell? ⟨w.heap.size, 2, none⟩ = some (.int .i64 M.most) := cell_of_row _ _ _ _ _ _ hWx
  have e3 : W.cell? ⟨w.heap.size, 3, none⟩ = some (.slice A3 n3 c3) := cell_of_row _ _ _ _ _ _ hWx
  have e4 : W.cell? ⟨w.heap.size, 4, none⟩ = some (.slice A4 n4 c4) := cell_of_row _ _ _ _ _ _ hWx
  have e5 : W.cell? ⟨w.heap.size, 5, none⟩ = some (.int .i64 M.x) := cell_of_row _ _ _ _ _ _ hWx
  have e6 : W.cell? ⟨w.heap.size, 6, none⟩ = some (.int .i64 M.y) := cell_of_row _ _ _ _ _ _ hWx
  have e7 : W.cell? ⟨w.heap.size, 7, none⟩ = some (.int .i64 M.begun) := cell_of_row _ _ _ _ _ _ hWx
  have e8 : W.cell? ⟨w.heap.size, 8, none⟩ = some (.string (bs M.args)) := cell_of_row _ _ _ _ _ _ hWx
  have f0 : W.frozen? ⟨w.heap.size, 0, none⟩ = false := frozen_of_row _ _ _ _ _ hWx
  have f1 : W.frozen? ⟨w.heap.size, 1, none⟩ = false := frozen_of_row _ _ _ _ _ hWx
  have f2 : W.frozen? ⟨w.heap.size, 2, none⟩ = false := frozen_of_row _ _ _ _ _ hWx
  have f3 : W.frozen? ⟨w.heap.size, 3, none⟩ = false := frozen_of_row _ _ _ _ _ hWx
  have f4 : W.frozen? ⟨w.heap.size, 4, none⟩ = false := frozen_of_row _ _ _ _ _ hWx
  have f5 : W.frozen? ⟨w.heap.size, 5, none⟩ = false := frozen_of_row _ _ _ _ _ hWx
  have f6 : W.frozen? ⟨w.heap.size, 6, none⟩ = false := frozen_of_row _ _ _ _ _ hWx
  have f7 : W.frozen? ⟨w.heap.size, 7, none⟩ = false := frozen_of_row _ _ _ _ _ hWx
  have f8 : W.frozen? ⟨w.heap.size, 8, none⟩ = false := frozen_of_row _ _ _ _ _ hWx
  have d0 : W.cell? ⟨w.heap.size + 1, 0, none⟩ = some (.int .i64 0) := cell_of_row _ _ _ _ _ _ hWy
  have d1 : W.cell? ⟨w.heap.size + 1, 1, none⟩ = some (.int .i64 0) := cell_of_row _ _ _ _ _ _ hWy
  have d2 : W.cell? ⟨w.heap.size + 1, 2, none⟩ = some (.int .i64 0) := cell_of_row _ _ _ _ _ _ hWy
  have d3 : W.cell? ⟨w.heap.size + 1, 3, none⟩ = some (.slice none 0 0) := cell_of_row _ _ _ _ _ _ hWy
  have d4 : W.cell? ⟨w.heap.size + 1, 4, none⟩ = some (.slice none 0 0) := cell_of_row _ _ _ _ _ _ hWy
  have d5 : W.cell? ⟨w.heap.size + 1, 5, none⟩ = some (.int .i64 0) := cell_of_row _ _ _ _ _ _ hWy
  have d6 : W.cell? ⟨w.heap.size + 1, 6, none⟩ = some (.int .i64 0) := cell_of_row _ _ _ _ _ _ hWy
  have d7 : W.cell? ⟨w.heap.size + 1, 7, none⟩ = some (.int .i64 0) := cell_of_row _ _ _ _ _ _ hWy
  have d8 : W.cell? ⟨w.heap.size + 1, 8, none⟩ = some (.string ⟨#[]⟩) := cell_of_row _ _ _ _ _ _ hWy
  have z0 : W.frozen? ⟨w.heap.size + 1, 0, none⟩ = false := frozen_of_row _ _ _ _ _ hWy
  have z1 : W.frozen? ⟨w.heap.size + 1, 1, none⟩ = false := frozen_of_row _ _ _ _ _ hWy
  have z2 : W.frozen? ⟨w.heap.size + 1, 2, none⟩ = false := frozen_of_row _ _ _ _ _ hWy
  have z3 : W.frozen? ⟨w.heap.size + 1, 3, none⟩ = false := frozen_of_row _ _ _ _ _ hWy
  have z4 : W.frozen? ⟨w.heap.size + 1, 4, none⟩ = false := frozen_of_row _ _ _ _ _ hWy
  have z5 : W.frozen? ⟨w.heap.size + 1, 5, none⟩ = false := frozen_of_row _ _ _ _ _ hWy
  have z6 : W.frozen? ⟨w.heap.size + 1, 6, none⟩ = false := frozen_of_row _ _ _ _ _ hWy
  have z7 : W.frozen? ⟨w.heap.size + 1, 7, none⟩ = false := frozen_of_row _ _ _ _ _ hWy
  have z8 : W.frozen? ⟨w.heap.size + 1, 8, none⟩ = false := frozen_of_row _ _ _ _ _ hWy
  have HW := Lib.hid hW; have HX := Lib.hid hWx; have HY := Lib.hid hWy; have HB := Lib.hid hWb; have HS := Lib.hid hWs; have HN3 := Lib.hid hn3; have HN4 := Lib.hid hn4
  clear hW hWx hWy hWb hWs hn3 hn4
  go_enter Tryd.func34, Tryd.ntmps34
  go_upto_region 1 with fail
  rw [← HW.out]
  clear HW
  go_wp2_with fail
  refine bodyPost_ret (v := .agg (Ref.vals ({ M with begun := 0, args := [] }) (.slice A3 n3 c3) (.slice A4 n4 c4))) (by simp [results, Tryd.results34, go_sem, Ref.vals, d0, d1, d2, d3, d4, d5, d6, d7, d8, bs_nil]) rfl ⟨_, rfl, ⟨_, _, rfl, ?_, ?_⟩, ?_⟩
  · show RdT _ _ _ M.rows.length (M.rows.map strV)
    rw [← HN3.out]
    exact H1.out.next (by repeat (first | with_reducible exact HB.out | with_reducible refine below_setG ?_ _ (by omega) _ _ | with_reducible refine below_drew ?_ | with_reducible refine Below.alloc ?_ (by have := HS.out; simp; omega) _))
  · show RdT _ _ _ M.kept.length (M.kept.map strV)
    rw [← HN4.out]
    exact H2.out.next (by repeat (first | with_reducible exact HB.out | with_reducible refine below_setG ?_ _ (by omega) _ _ | with_reducible refine below_drew ?_ | with_reducible refine Below.alloc ?_ (by have := HS.out; simp; omega) _))
  · repeat (first | with_reducible exact HB.out | with_reducible refine below_setG ?_ _ (by omega) _ _ | with_reducible refine below_drew ?_ | with_reducible refine Below.alloc ?_ (by have := HS.out; simp; omega) _)

theorem conv_one (X : World) (c : UInt8) : (convert 24 9 (.slice (some ⟨X.heap.size, 0, none⟩) 1 1)).run Tryd.prog (X.alloc (.cells #[.int .u8 (c.toNat : Int)] 5)) = .ok (.string (bs [c])) (X.alloc (.cells #[.int .u8 (c.toNat : Int)] 5)) :=
  conv_rd (l := [c]) (build_one X 5 (.int .u8 (c.toNat : Int)))

set_option maxRecDepth 100000 in
set_option maxHeartbeats 1600000 in
theorem rbyte_dig (v : Value) (M : Ref)(c : UInt8) (w : World) (h : RV w v M) (ok : M.Ok)(hb1 : M.begun = 2) (hc : (48 ≤ c.toNat ∧ c.toNat ≤ 57) ∨ c.toNat = 59) (ha : M.args.length ≤ 100000) :
    Calls Tryd.prog 34 #[v, .int .u8 (c.toNat : Int)] w (RVPost w ({ M with args := M.args ++ [c] })) := by
  have tb1 : ((M.begun : Int) == 1) = false := by rw [hb1]; rfl
  have tb2 : ((M.begun : Int) == 2) = true := by rw [hb1]; rfl
  clear hb1
  obtain ⟨vr, vk, rfl, h1, h2⟩ := h
  have H1 := Lib.hid h1; have H2 := Lib.hid h2
  obtain ⟨-, A4, c4, rfl, -, -, -, -⟩ := h2.1
  obtain ⟨-, A3, c3, rfl, -, -, -, -⟩ := h1.1
  clear h1 h2
  have hw1 := ok.w1; have hw2 := ok.w2; have hh1 := ok.h1; have hh2 := ok.h2; have hx := ok.x; have hy := ok.y
  have hw0 : ((M.w : Int) == 0) = false := by simp; omega
  obtain ⟨n3, hn3⟩ : ∃ n : Nat, n = M.rows.length := ⟨_, rfl⟩
  obtain ⟨n4, hn4⟩ : ∃ n : Nat, n = M.kept.length := ⟨_, rfl⟩
  rw [← hn3] at H1 ⊢
  rw [← hn4] at H2 ⊢
  obtain ⟨W, hW⟩ : ∃ W, W = (w.alloc (.cells (M.vals (.slice A3 n3 c3) (.slice A4 n4 c4)) 31)).alloc (.cells #[.int .i64 0, .int .i64 0, .int .i64 0, .slice none 0 0, .slice none 0 0, .int .i64 0, .int .i64 0, .int .i64 0, .string ⟨#[]⟩] 31) := ⟨_, rfl⟩
  have hWx : W.heap[w.heap.size]? = some (.cells (M.vals (.slice A3 n3 c3) (.slice A4 n4 c4)) 31 (0, 0)) := by rw [hW]; exact alloc2_fst _ _ _
  have hWy : W.heap[w.heap.size + 1]? = some (.cells (zeroRef.vals nilS nilS) 31 (0, 0)) := by rw [hW]; exact alloc2_snd _ _ _
  have hWb : Below w.heap.size w W := by rw [hW]; exact below_alloc2 _ _ _
  have hWs : W.heap.size = w.heap.size + 2 := by rw [hW]; simp
  have e0 : W.cell? ⟨w.heap.size, 0, none⟩ = some (.int .i64 M.w) := cell_of_row _ _ _ _ _ _ hWx
  have e1 : W.cell? ⟨w.heap.size, 1, none⟩ = some (.int .i64 M.h) := cell_of_row _ _ _ _ _ _ hWx
  have e2 : W.cell? ⟨w.heap.size, 2, none⟩ = some (.int .i64 M.most) := cell_of_row _ _ _ _ _ _ hWx
  have e3 : W.cell? ⟨w.heap.size, 3, none⟩ = some (.slice A3 n3 c3) := cell_of_row _ _ _ _ _ _ hWx
  have e4 : W.cell? ⟨w.heap.size, 4, none⟩ = some (.slice A4 n4 c4) := cell_of_row _ _ _ _ _ _ hWx
  have e5 : W.cell? ⟨w.heap.size, 5, none⟩ = some (.int .i64 M.x) := cell_of_row _ _ _ _ _ _ hWx
  have e6 : W.cell? ⟨w.heap.size, 6, none⟩ = some (.int .i64 M.y) := cell_of_row _ _ _ _ _ _ hWx
  have e7 : W.cell? ⟨w.heap.size, 7, none⟩ = some (.int .i64 M.begun) := cell_of_row _ _ _ _ _ _ hWx
  have e8 : W.cell? ⟨w.heap.size, 8, none⟩ = some (.string (bs M.args)) := cell_of_row _ _ _ _ _ _ hWx
  have f0 : W.frozen? ⟨w.heap.size, 0, none⟩ = false := frozen_of_row _ _ _ _ _ hWx
  have f1 : W.frozen? ⟨w.heap.size, 1, none⟩ = false := frozen_of_row _ _ _ _ _ hWx
  have f2 : W.frozen? ⟨w.heap.size, 2, none⟩ = false := frozen_of_row _ _ _ _ _ hWx
  have f3 : W.frozen? ⟨w.heap.size, 3, none⟩ = false := frozen_of_row _ _ _ _ _ hWx
  have f4 : W.frozen? ⟨w.heap.size, 4, none⟩ = false := frozen_of_row _ _ _ _ _ hWx
  have f5 : W.frozen? ⟨w.heap.size, 5, none⟩ = false := frozen_of_row _ _ _ _ _ hWx
  have f6 : W.frozen? ⟨w.heap.size, 6, none⟩ = false := frozen_of_row _ _ _ _ _ hWx
  have f7 : W.frozen? ⟨w.heap.size, 7, none⟩ = false := frozen_of_row _ _ _ _ _ hWx
  have f8 : W.frozen? ⟨w.heap.size, 8, none⟩ = false := frozen_of_row _ _ _ _ _ hWx
  have d0 : W.cell? ⟨w.heap.size + 1, 0, none⟩ = some (.int .i64 0) := cell_of_row _ _ _ _ _ _ hWy
  have d1 : W.cell? ⟨w.heap.size + 1, 1, none⟩ = some (.int .i64 0) := cell_of_row _ _ _ _ _ _ hWy
  have d2 : W.cell? ⟨w.heap.size + 1, 2, none⟩ = some (.int .i64 0) := cell_of_row _ _ _ _ _ _ hWy
  have d3 : W.cell? ⟨w.heap.size + 1, 3, none⟩ = some (.slice none 0 0) := cell_of_row _ _ _ _ _ _ hWy
  have d4 : W.cell? ⟨w.heap.size + 1, 4, none⟩ = some (.slice none 0 0) := cell_of_row _ _ _ _ _ _ hWy
  have d5 : W.cell? ⟨w.heap.size + 1, 5, none⟩ = some (.int .i64 0) := cell_of_row _ _ _ _ _ _ hWy
  have d6 : W.cell? ⟨w.heap.size + 1, 6, none⟩ = some (.int .i64 0) := cell_of_row _ _ _ _ _ _ hWy
  have d7 : W.cell? ⟨w.heap.size + 1, 7, none⟩ = some (.int .i64 0) := cell_of_row _ _ _ _ _ _ hWy
  have d8 : W.cell? ⟨w.heap.size + 1, 8, none⟩ = some (.string ⟨#[]⟩) := cell_of_row _ _ _ _ _ _ hWy
  have z0 : W.frozen? ⟨w.heap.size + 1, 0, none⟩ = false := frozen_of_row _ _ _ _ _ hWy
  have z1 : W.frozen? ⟨w.heap.size + 1, 1, none⟩ = false := frozen_of_row _ _ _ _ _ hWy
  have z2 : W.frozen? ⟨w.heap.size + 1, 2, none⟩ = false := frozen_of_row _ _ _ _ _ hWy
  have z3 : W.frozen? ⟨w.heap.size + 1, 3, none⟩ = false := frozen_of_row _ _ _ _ _ hWy
  have z4 : W.frozen? ⟨w.heap.size + 1, 4, none⟩ = false := frozen_of_row _ _ _ _ _ hWy
  have z5 : W.frozen? ⟨w.heap.size + 1, 5, none⟩ = false := frozen_of_row _ _ _ _ _ hWy
  have z6 : W.frozen? ⟨w.heap.size + 1, 6, none⟩ = false := frozen_of_row _ _ _ _ _ hWy
  have z7 : W.frozen? ⟨w.heap.size + 1, 7, none⟩ = false := frozen_of_row _ _ _ _ _ hWy
  have z8 : W.frozen? ⟨w.heap.size + 1, 8, none⟩ = false := frozen_of_row _ _ _ _ _ hWy
  have HW := Lib.hid hW; have HX := Lib.hid hWx; have HY := Lib.hid hWy; have HB := Lib.hid hWb; have HS := Lib.hid hWs; have HN3 := Lib.hid hn3; have HN4 := Lib.hid hn4
  clear hW hWx hWy hWb hWs hn3 hn4
  go_enter Tryd.func34, Tryd.ntmps34
  go_upto_region 1 with fail
  rw [← HW.out]
  clear HW
  have hcv := conv_one W c
  have hz1 := bs_size M.args
  have hz2 : (bs [c]).size = 1 := bs_size [c]
  have a1 : ∀ X : World, (Op.stringOp .add (bs M.args) (bs [c])).run Tryd.prog X = .ok (.string (bs (M.args ++ [c]))) X := fun X => by rw [← bs_append]; exact run_string_add_sum X _ _ (by omega)
  have lbW : w.heap.size < W.heap.size := by have := HS.out; omega
  have lbW1 : w.heap.size + 1 < W.heap.size := by have := HS.out; omega
  clear hz1 hz2
  by_cases hd1 : 48 ≤ c.toNat
  · by_cases hd2 : c.toNat ≤ 57
    · clear hc
      go_wp2_with fail
      refine bodyPost_ret (v := .agg (Ref.vals ({ M with args := M.args ++ [c] }) (.slice A3 n3 c3) (.slice A4 n4 c4))) (by simp [results, Tryd.results34, go_sem, Ref.vals, d0, d1, d2, d3, d4, d5, d6, d7, d8, lbW1]) rfl ⟨_, rfl, ⟨_, _, rfl, ?_, ?_⟩, ?_⟩
      · show RdT _ _ _ M.rows.length (M.rows.map strV)
        rw [← HN3.out]
        exact H1.out.next (by repeat (first | with_reducible exact HB.out | with_reducible refine below_setG ?_ _ (by omega) _ _ | with_reducible refine below_drew ?_ | with_reducible refine Below.alloc ?_ (by have := HS.out; simp; omega) _))
      · show RdT _ _ _ M.kept.length (M.kept.map strV)
        rw [← HN4.out]
        exact H2.out.next (by repeat (first | with_reducible exact HB.out | with_reducible refine below_setG ?_ _ (by omega) _ _ | with_reducible refine below_drew ?_ | with_reducible refine Below.alloc ?_ (by have := HS.out; simp; omega) _))
      · repeat (first | with_reducible exact HB.out | with_reducible refine below_setG ?_ _ (by omega) _ _ | with_reducible refine below_drew ?_ | with_reducible refine Below.alloc ?_ (by have := HS.out; simp; omega) _)
    · have h59 : ((c.toNat : Int) == 59) = true := by have : c.toNat = 59 := by omega
                                                      rw [this]; rfl
      clear hc
      go_wp2_with fail
      refine bodyPost_ret (v := .agg (Ref.vals ({ M with args := M.args ++ [c] }) (.slice A3 n3 c3) (.slice A4 n4 c4))) (by simp [results, Tryd.results34, go_sem, Ref.vals, d0, d1, d2, d3, d4, d5, d6, d7, d8, lbW1]) rfl ⟨_, rfl, ⟨_, _, rfl, ?_, ?_⟩, ?_⟩
      · show RdT _ _ _ M.rows.length (M.rows.map strV)
        rw [← HN3.out]
        exact H1.out.next (by repeat (first | with_reducible exact HB.out | with_reducible refine below_setG ?_ _ (by omega) _ _ | with_reducible refine below_drew ?_ | with_reducible refine Below.alloc ?_ (by have := HS.out; simp; omega) _))
      · show RdT _ _ _ M.kept.length (M.kept.map strV)
        rw [← HN4.out]
        exact H2.out.next (by repeat (first | with_reducible exact HB.out | with_reducible refine below_setG ?_ _ (by omega) _ _ | with_reducible refine below_drew ?_ | with_reducible refine Below.alloc ?_ (by have := HS.out; simp; omega) _))
      · repeat (first | with_reducible exact HB.out | with_reducible refine below_setG ?_ _ (by omega) _ _ | with_reducible refine below_drew ?_ | with_reducible refine Below.alloc ?_ (by have := HS.out; simp; omega) _)
  · exfalso; omega

set_option maxRecDepth 100000 in
set_option maxHeartbeats 1600000 in
theorem rbyte_bad (v : Value) (M : Ref)(c : Nat) (w : World) (h : RV w v M) (ok : M.Ok)(hb1 : M.begun = 2) (hc : ¬ ((48 ≤ c ∧ c ≤ 57) ∨ c = 59)) (hc2 : ¬ (64 ≤ c ∧ c ≤ 126)) :
    Calls Tryd.prog 34 #[v, .int .u8 c] w (RVPost w ({ M with begun := 0, args := [] })) := by
  have tb1 : ((M.begun : Int) == 1) = false := by rw [hb1]; rfl
  have tb2 : ((M.begun : Int) == 2) = true := by rw [hb1]; rfl
  have t59 : ((c : Int) == 59) = false := by simp; omega
  clear hb1
  obtain ⟨vr, vk, rfl, h1, h2⟩ := h
  have H1 := Lib.hid h1; have H2 := Lib.hid h2
  obtain ⟨-, A4, c4, rfl, -, -, -, -⟩ := h2.1
  obtain ⟨-, A3, c3, rfl, -, -, -, -⟩ := h1.1
  clear h1 h2
  have hw1 := ok.w1; have hw2 := ok.w2; have hh1 := ok.h1; have hh2 := ok.h2; have hx := ok.x; have hy := ok.y
  have hw0 : ((M.w : Int) == 0) = false := by simp; omega
  obtain ⟨n3, hn3⟩ : ∃ n : Nat, n = M.rows.length := ⟨_, rfl⟩
  obtain ⟨n4, hn4⟩ : ∃ n : Nat, n = M.kept.length := ⟨_, rfl⟩
  rw [← hn3] at H1 ⊢
  rw [← hn4] at H2 ⊢
  obtain ⟨W, hW⟩ : ∃ W, W = (w.alloc (.cells (M.vals (.slice A3 n3 c3) (.slice A4 n4 c4)) 31)).alloc (.cells #[.int .i64 0, .int .i64 0, .int .i64 0, .slice none 0 0, .slice none 0 0, .int .i64 0, .int .i64 0, .int .i64 0, .string ⟨#[]⟩] 31) := ⟨_, rfl⟩
  have hWx : W.heap[w.heap.size]? = some (.cells (M.vals (.slice A3 n3 c3) (.slice A4 n4 c4)) 31 (0, 0)) := by rw [hW]; exact alloc2_fst _ _ _
  have hWy : W.heap[w.heap.size + 1]? = some (.cells (zeroRef.vals nilS nilS) 31 (0, 0)) := by rw [hW]; exact alloc2_snd _ _ _
  have hWb : Below w.heap.size w W := by rw [hW]; exact below_alloc2 _ _ _
  have hWs : W.heap.size = w.heap.size + 2 := by rw [hW]; simp
  have e0 : W.cell? ⟨w.heap.size, 0, none⟩ = some (.int .i64 M.w) := cell_of_row _ _ _ _ _ _ hWx
  have e1 : W.cell? ⟨w.heap.size, 1, none⟩ = some (.int .i64 M.h) := cell_of_row _ _ _ _ _ _ hWx
  have e2 : W.cell? ⟨w.heap.size, 2, none⟩ = some (.int .i64 M.most) := cell_of_row _ _ _ _ _ _ hWx
  have e3 : W.cell? ⟨w.heap.size, 3, none⟩ = some (.slice A3 n3 c3) := cell_of_row _ _ _ _ _ _ hWx
  have e4 : W.cell? ⟨w.heap.size, 4, none⟩ = some (.slice A4 n4 c4) := cell_of_row _ _ _ _ _ _ hWx
  have e5 : W.cell? ⟨w.heap.size, 5, none⟩ = some (.int .i64 M.x) := cell_of_row _ _ _ _ _ _ hWx
  have e6 : W.cell? ⟨w.heap.size, 6, none⟩ = some (.int .i64 M.y) := cell_of_row _ _ _ _ _ _ hWx
  have e7 : W.cell? ⟨w.heap.size, 7, none⟩ = some (.int .i64 M.begun) := cell_of_row _ _ _ _ _ _ hWx
  have e8 : W.cell? ⟨w.heap.size, 8, none⟩ = some (.string (bs M.args)) := cell_of_row _ _ _ _ _ _ hWx
  have f0 : W.frozen? ⟨w.heap.size, 0, none⟩ = false := frozen_of_row _ _ _ _ _ hWx
  have f1 : W.frozen? ⟨w.heap.size, 1, none⟩ = false := frozen_of_row _ _ _ _ _ hWx
  have f2 : W.frozen? ⟨w.heap.size, 2, none⟩ = false := frozen_of_row _ _ _ _ _ hWx
  have f3 : W.frozen? ⟨w.heap.size, 3, none⟩ = false := frozen_of_row _ _ _ _ _ hWx
  have f4 : W.frozen? ⟨w.heap.size, 4, none⟩ = false := frozen_of_row _ _ _ _ _ hWx
  have f5 : W.frozen? ⟨w.heap.size, 5, none⟩ = false := frozen_of_row _ _ _ _ _ hWx
  have f6 : W.frozen? ⟨w.heap.size, 6, none⟩ = false := frozen_of_row _ _ _ _ _ hWx
  have f7 : W.frozen? ⟨w.heap.size, 7, none⟩ = false := frozen_of_row _ _ _ _ _ hWx
  have f8 : W.frozen? ⟨w.heap.size, 8, none⟩ = false := frozen_of_row _ _ _ _ _ hWx
  have d0 : W.cell? ⟨w.heap.size + 1, 0, none⟩ = some (.int .i64 0) := cell_of_row _ _ _ _ _ _ hWy
  have d1 : W.cell? ⟨w.heap.size + 1, 1, none⟩ = some (.int .i64 0) := cell_of_row _ _ _ _ _ _ hWy
  have d2 : W.cell? ⟨w.heap.size + 1, 2, none⟩ = some (.int .i64 0) := cell_of_row _ _ _ _ _ _ hWy
  have d3 : W.cell? ⟨w.heap.size + 1, 3, none⟩ = some (.slice none 0 0) := cell_of_row _ _ _ _ _ _ hWy
  have d4 : W.cell? ⟨w.heap.size + 1, 4, none⟩ = some (.slice none 0 0) := cell_of_row _ _ _ _ _ _ hWy
  have d5 : W.cell? ⟨w.heap.size + 1, 5, none⟩ = some (.int .i64 0) := cell_of_row _ _ _ _ _ _ hWy
  have d6 : W.cell? ⟨w.heap.size + 1, 6, none⟩ = some (.int .i64 0) := cell_of_row _ _ _ _ _ _ hWy
  have d7 : W.cell? ⟨w.heap.size + 1, 7, none⟩ = some (.int .i64 0) := cell_of_row _ _ _ _ _ _ hWy
  have d8 : W.cell? ⟨w.heap.size + 1, 8, none⟩ = some (.string ⟨#[]⟩) := cell_of_row _ _ _ _ _ _ hWy
  have z0 : W.frozen? ⟨w.heap.size + 1, 0, none⟩ = false := frozen_of_row _ _ _ _ _ hWy
  have z1 : W.frozen? ⟨w.heap.size + 1, 1, none⟩ = false := frozen_of_row _ _ _ _ _ hWy
  have z2 : W.frozen? ⟨w.heap.size + 1, 2, none⟩ = false := frozen_of_row _ _ _ _ _ hWy
  have z3 : W.frozen? ⟨w.heap.size + 1, 3, none⟩ = false := frozen_of_row _ _ _ _ _ hWy
  have z4 : W.frozen? ⟨w.heap.size + 1, 4, none⟩ = false := frozen_of_row _ _ _ _ _ hWy
  have z5 : W.frozen? ⟨w.heap.size + 1, 5, none⟩ = false := frozen_of_row _ _ _ _ _ hWy
  have z6 : W.frozen? ⟨w.heap.size + 1, 6, none⟩ = false := frozen_of_row _ _ _ _ _ hWy
  have z7 : W.frozen? ⟨w.heap.size + 1, 7, none⟩ = false := frozen_of_row _ _ _ _ _ hWy
  have z8 : W.frozen? ⟨w.heap.size + 1, 8, none⟩ = false := frozen_of_row _ _ _ _ _ hWy
  have HW := Lib.hid hW; have HX := Lib.hid hWx; have HY := Lib.hid hWy; have HB := Lib.hid hWb; have HS := Lib.hid hWs; have HN3 := Lib.hid hn3; have HN4 := Lib.hid hn4
  clear hW hWx hWy hWb hWs hn3 hn4
  go_enter Tryd.func34, Tryd.ntmps34
  go_upto_region 1 with fail
  rw [← HW.out]
  clear HW
  by_cases hd1 : 48 ≤ c
  · have hd2 : ¬ c ≤ 57 := by omega
    by_cases hd3 : 64 ≤ c
    · have hd4 : ¬ c ≤ 126 := by omega
      clear hc hc2
      go_wp2_with fail
      refine bodyPost_ret (v := .agg (Ref.vals ({ M with begun := 0, args := [] }) (.slice A3 n3 c3) (.slice A4 n4 c4))) (by simp [results, Tryd.results34, go_sem, Ref.vals, d0, d1, d2, d3, d4, d5, d6, d7, d8, bs_nil]) rfl ⟨_, rfl, ⟨_, _, rfl, ?_, ?_⟩, ?_⟩
      · show RdT _ _ _ M.rows.length (M.rows.map strV)
        rw [← HN3.out]
        exact H1.out.next (by repeat (first | with_reducible exact HB.out | with_reducible refine below_setG ?_ _ (by omega) _ _ | with_reducible refine below_drew ?_ | with_reducible refine Below.alloc ?_ (by have := HS.out; simp; omega) _))
      · show RdT _ _ _ M.kept.length (M.kept.map strV)
        rw [← HN4.out]
        exact H2.out.next (by repeat (first | with_reducible exact HB.out | with_reducible refine below_setG ?_ _ (by omega) _ _ | with_reducible refine below_drew ?_ | with_reducible refine Below.alloc ?_ (by have := HS.out; simp; omega) _))
      · repeat (first | with_reducible exact HB.out | with_reducible refine below_setG ?_ _ (by omega) _ _ | with_reducible refine below_drew ?_ | with_reducible refine Below.alloc ?_ (by have := HS.out; simp; omega) _)
    · clear hc hc2
      go_wp2_with fail
      refine bodyPost_ret (v := .agg (Ref.vals ({ M with begun := 0, args := [] }) (.slice A3 n3 c3) (.slice A4 n4 c4))) (by simp [results, Tryd.results34, go_sem, Ref.vals, d0, d1, d2, d3, d4, d5, d6, d7, d8, bs_nil]) rfl ⟨_, rfl, ⟨_, _, rfl, ?_, ?_⟩, ?_⟩
      · show RdT _ _ _ M.rows.length (M.rows.map strV)
        rw [← HN3.out]
        exact H1.out.next (by repeat (first | with_reducible exact HB.out | with_reducible refine below_setG ?_ _ (by omega) _ _ | with_reducible refine below_drew ?_ | with_reducible refine Below.alloc ?_ (by have := HS.out; simp; omega) _))
      · show RdT _ _ _ M.kept.length (M.kept.map strV)
        rw [← HN4.out]
        exact H2.out.next (by repeat (first | with_reducible exact HB.out | with_reducible refine below_setG ?_ _ (by omega) _ _ | with_reducible refine below_drew ?_ | with_reducible refine Below.alloc ?_ (by have := HS.out; simp; omega) _))
      · repeat (first | with_reducible exact HB.out | with_reducible refine below_setG ?_ _ (by omega) _ _ | with_reducible refine below_drew ?_ | with_reducible refine Below.alloc ?_ (by have := HS.out; simp; omega) _)
  · have hd3 : ¬ 64 ≤ c := by omega
    clear hc hc2
    go_wp2_with fail
    refine bodyPost_ret (v := .agg (Ref.vals ({ M with begun := 0, args := [] }) (.slice A3 n3 c3) (.slice A4 n4 c4))) (by simp [results, Tryd.results34, go_sem, Ref.vals, d0, d1, d2, d3, d4, d5, d6, d7, d8, bs_nil]) rfl ⟨_, rfl, ⟨_, _, rfl, ?_, ?_⟩, ?_⟩
    · show RdT _ _ _ M.rows.length (M.rows.map strV)
      rw [← HN3.out]
      exact H1.out.next (by repeat (first | with_reducible exact HB.out | with_reducible refine below_setG ?_ _ (by omega) _ _ | with_reducible refine below_drew ?_ | with_reducible refine Below.alloc ?_ (by have := HS.out; simp; omega) _))
    · show RdT _ _ _ M.kept.length (M.kept.map strV)
      rw [← HN4.out]
      exact H2.out.next (by repeat (first | with_reducible exact HB.out | with_reducible refine below_setG ?_ _ (by omega) _ _ | with_reducible refine below_drew ?_ | with_reducible refine Below.alloc ?_ (by have := HS.out; simp; omega) _))
    · repeat (first | with_reducible exact HB.out | with_reducible refine below_setG ?_ _ (by omega) _ _ | with_reducible refine below_drew ?_ | with_reducible refine Below.alloc ?_ (by have := HS.out; simp; omega) _)

set_option maxRecDepth 100000 in
set_option maxHeartbeats 1600000 in
theorem rbyte_13 (v : Value) (M : Ref) (w : World) (h : RV w v M) (ok : M.Ok)(hb1 : ¬ M.begun = 1) (hb2 : ¬ M.begun = 2) :
    Calls Tryd.prog 34 #[v, .int .u8 13] w (RVPost w ({ M with x := 0 })) := by
  have tb1 : ((M.begun : Int) == 1) = false := by simp; omega
  have tb2 : ((M.begun : Int) == 2) = false := by simp; omega
  clear hb1 hb2
  obtain ⟨vr, vk, rfl, h1, h2⟩ := h
  have H1 := Lib.hid h1; have H2 := Lib.hid h2
  obtain ⟨-, A4, c4, rfl, -, -, -, -⟩ := h2.1
  obtain ⟨-, A3, c3, rfl, -, -, -, -⟩ := h1.1
  clear h1 h2
  have hw1 := ok.w1; have hw2 := ok.w2; have hh1 := ok.h1; have hh2 := ok.h2; have hx := ok.x; have hy := ok.y
  have hw0 : ((M.w : Int) == 0) = false := by simp; omega
  obtain ⟨n3, hn3⟩ : ∃ n : Nat, n = M.rows.length := ⟨_, rfl⟩
  obtain ⟨n4, hn4⟩ : ∃ n : Nat, n = M.kept.length := ⟨_, rfl⟩
  rw [← hn3] at H1 ⊢
  rw [← hn4] at H2 ⊢
  obtain ⟨W, hW⟩ : ∃ W, W = (w.alloc (.cells (M.vals (.slice A3 n3 c3) (.slice A4 n4 c4)) 31)).alloc (.cells #[.int .i64 0, .int .i64 0, .int .i64 0, .slice none 0 0, .slice none 0 0, .int .i64 0, .int .i64 0, .int .i64 0, .string ⟨#[]⟩] 31) := ⟨_, rfl⟩
  have hWx : W.heap[w.heap.size]? = some (.cells (M.vals (.slice A3 n3 c3) (.slice A4 n4 c4)) 31 (0, 0)) := by rw [hW]; exact alloc2_fst _ _ _
  have hWy : W.heap[w.heap.size + 1]? = some (.cells (zeroRef.vals nilS nilS) 31 (0, 0)) := by rw [hW]; exact alloc2_snd _ _ _
  have hWb : Below w.heap.size w W := by rw [hW]; exact below_alloc2 _ _ _
  have hWs : W.heap.size = w.heap.size + 2 := by rw [hW]; simp
  have e0 : W.cell? ⟨w.heap.size, 0, none⟩ = some (.int .i64 M.w) := cell_of_row _ _ _ _ _ _ hWx
  have e1 : W.cell? ⟨w.heap.size, 1, none⟩ = some (.int .i64 M.h) := cell_of_row _ _ _ _ _ _ hWx
  have e2 : W.cell? ⟨w.heap.size, 2, none⟩ = some (.int .i64 M.most) := cell_of_row _ _ _ _ _ _ hWx
  have e3 : W.cell? ⟨w.heap.size, 3, none⟩ = some (.slice A3 n3 c3) := cell_of_row _ _ _ _ _ _ hWx
  have e4 : W.cell? ⟨w.heap.size, 4, none⟩ = some (.slice A4 n4 c4) := cell_of_row _ _ _ _ _ _ hWx
  have e5 : W.cell? ⟨w.heap.size, 5, none⟩ = some (.int .i64 M.x) := cell_of_row _ _ _ _ _ _ hWx
  have e6 : W.cell? ⟨w.heap.size, 6, none⟩ = some (.int .i64 M.y) := cell_of_row _ _ _ _ _ _ hWx
  have e7 : W.cell? ⟨w.heap.size, 7, none⟩ = some (.int .i64 M.begun) := cell_of_row _ _ _ _ _ _ hWx
  have e8 : W.cell? ⟨w.heap.size, 8, none⟩ = some (.string (bs M.args)) := cell_of_row _ _ _ _ _ _ hWx
  have f0 : W.frozen? ⟨w.heap.size, 0, none⟩ = false := frozen_of_row _ _ _ _ _ hWx
  have f1 : W.frozen? ⟨w.heap.size, 1, none⟩ = false := frozen_of_row _ _ _ _ _ hWx
  have f2 : W.frozen? ⟨w.heap.size, 2, none⟩ = false := frozen_of_row _ _ _ _ _ hWx
  have f3 : W.frozen? ⟨w.heap.size, 3, none⟩ = false := frozen_of_row _ _ _ _ _ hWx
  have f4 : W.frozen? ⟨w.heap.size, 4, none⟩ = false := frozen_of_row _ _ _ _ _ hWx
  have f5 : W.frozen? ⟨w.heap.size, 5, none⟩ = false := frozen_of_row _ _ _ _ _ hWx
  have f6 : W.frozen? ⟨w.heap.size, 6, none⟩ = false := frozen_of_row _ _ _ _ _ hWx
  have f7 : W.frozen? ⟨w.heap.size, 7, none⟩ = false := frozen_of_row _ _ _ _ _ hWx
  have f8 : W.frozen? ⟨w.heap.size, 8, none⟩ = false := frozen_of_row _ _ _ _ _ hWx
  have d0 : W.cell? ⟨w.heap.size + 1, 0, none⟩ = some (.int .i64 0) := cell_of_row _ _ _ _ _ _ hWy
  have d1 : W.cell? ⟨w.heap.size + 1, 1, none⟩ = some (.int .i64 0) := cell_of_row _ _ _ _ _ _ hWy
  have d2 : W.cell? ⟨w.heap.size + 1, 2, none⟩ = some (.int .i64 0) := cell_of_row _ _ _ _ _ _ hWy
  have d3 : W.cell? ⟨w.heap.size + 1, 3, none⟩ = some (.slice none 0 0) := cell_of_row _ _ _ _ _ _ hWy
  have d4 : W.cell? ⟨w.heap.size + 1, 4, none⟩ = some (.slice none 0 0) := cell_of_row _ _ _ _ _ _ hWy
  have d5 : W.cell? ⟨w.heap.size + 1, 5, none⟩ = some (.int .i64 0) := cell_of_row _ _ _ _ _ _ hWy
  have d6 : W.cell? ⟨w.heap.size + 1, 6, none⟩ = some (.int .i64 0) := cell_of_row _ _ _ _ _ _ hWy
  have d7 : W.cell? ⟨w.heap.size + 1, 7, none⟩ = some (.int .i64 0) := cell_of_row _ _ _ _ _ _ hWy
  have d8 : W.cell? ⟨w.heap.size + 1, 8, none⟩ = some (.string ⟨#[]⟩) := cell_of_row _ _ _ _ _ _ hWy
  have z0 : W.frozen? ⟨w.heap.size + 1, 0, none⟩ = false := frozen_of_row _ _ _ _ _ hWy
  have z1 : W.frozen? ⟨w.heap.size + 1, 1, none⟩ = false := frozen_of_row _ _ _ _ _ hWy
  have z2 : W.frozen? ⟨w.heap.size + 1, 2, none⟩ = false := frozen_of_row _ _ _ _ _ hWy
  have z3 : W.frozen? ⟨w.heap.size + 1, 3, none⟩ = false := frozen_of_row _ _ _ _ _ hWy
  have z4 : W.frozen? ⟨w.heap.size + 1, 4, none⟩ = false := frozen_of_row _ _ _ _ _ hWy
  have z5 : W.frozen? ⟨w.heap.size + 1, 5, none⟩ = false := frozen_of_row _ _ _ _ _ hWy
  have z6 : W.frozen? ⟨w.heap.size + 1, 6, none⟩ = false := frozen_of_row _ _ _ _ _ hWy
  have z7 : W.frozen? ⟨w.heap.size + 1, 7, none⟩ = false := frozen_of_row _ _ _ _ _ hWy
  have z8 : W.frozen? ⟨w.heap.size + 1, 8, none⟩ = false := frozen_of_row _ _ _ _ _ hWy
  have HW := Lib.hid hW; have HX := Lib.hid hWx; have HY := Lib.hid hWy; have HB := Lib.hid hWb; have HS := Lib.hid hWs; have HN3 := Lib.hid hn3; have HN4 := Lib.hid hn4
  clear hW hWx hWy hWb hWs hn3 hn4
  go_enter Tryd.func34, Tryd.ntmps34
  go_upto_region 1 with fail
  rw [← HW.out]
  clear HW
  go_wp2_with fail
  refine bodyPost_ret (v := .agg (Ref.vals ({ M with x := 0 }) (.slice A3 n3 c3) (.slice A4 n4 c4))) (by simp [results, Tryd.results34, go_sem, Ref.vals, d0, d1, d2, d3, d4, d5, d6, d7, d8]) rfl ⟨_, rfl, ⟨_, _, rfl, ?_, ?_⟩, ?_⟩
  · show RdT _ _ _ M.rows.length (M.rows.map strV)
    rw [← HN3.out]
    exact H1.out.next (by repeat (first | with_reducible exact HB.out | with_reducible refine below_setG ?_ _ (by omega) _ _ | with_reducible refine below_drew ?_ | with_reducible refine Below.alloc ?_ (by have := HS.out; simp; omega) _))
  · show RdT _ _ _ M.kept.length (M.kept.map strV)
    rw [← HN4.out]
    exact H2.out.next (by repeat (first | with_reducible exact HB.out | with_reducible refine below_setG ?_ _ (by omega) _ _ | with_reducible refine below_drew ?_ | with_reducible refine Below.alloc ?_ (by have := HS.out; simp; omega) _))
  · repeat (first | with_reducible exact HB.out | with_reducible refine below_setG ?_ _ (by omega) _ _ | with_reducible refine below_drew ?_ | with_reducible refine Below.alloc ?_ (by have := HS.out; simp; omega) _)

set_option maxRecDepth 100000 in
set_option maxHeartbeats 1600000 in
theorem rbyte_27 (v : Value) (M : Ref) (w : World) (h : RV w v M) (ok : M.Ok)(hb1 : ¬ M.begun = 1) (hb2 : ¬ M.begun = 2) :
    Calls Tryd.prog 34 #[v, .int .u8 27] w (RVPost w ({ M with begun := 1 })) := by
  have tb1 : ((M.begun : Int) == 1) = false := by simp; omega
  have tb2 : ((M.begun : Int) == 2) = false := by simp; omega
  clear hb1 hb2
  obtain ⟨vr, vk, rfl, h1, h2⟩ := h
  have H1 := Lib.hid h1; have H2 := Lib.hid h2
  obtain ⟨-, A4, c4, rfl, -, -, -, -⟩ := h2.1
  obtain ⟨-, A3, c3, rfl, -, -, -, -⟩ := h1.1
  clear h1 h2
  have hw1 := ok.w1; have hw2 := ok.w2; have hh1 := ok.h1; have hh2 := ok.h2; have hx := ok.x; have hy := ok.y
  have hw0 : ((M.w : Int) == 0) = false := by simp; omega
  obtain ⟨n3, hn3⟩ : ∃ n : Nat, n = M.rows.length := ⟨_, rfl⟩
  obtain ⟨n4, hn4⟩ : ∃ n : Nat, n = M.kept.length := ⟨_, rfl⟩
  rw [← hn3] at H1 ⊢
  rw [← hn4] at H2 ⊢
  obtain ⟨W, hW⟩ : ∃ W, W = (w.alloc (.cells (M.vals (.slice A3 n3 c3) (.slice A4 n4 c4)) 31)).alloc (.cells #[.int .i64 0, .int .i64 0, .int .i64 0, .slice none 0 0, .slice none 0 0, .int .i64 0, .int .i64 0, .int .i64 0, .string ⟨#[]⟩] 31) := ⟨_, rfl⟩
  have hWx : W.heap[w.heap.size]? = some (.cells (M.vals (.slice A3 n3 c3) (.slice A4 n4 c4)) 31 (0, 0)) := by rw [hW]; exact alloc2_fst _ _ _
  have hWy : W.heap[w.heap.size + 1]? = some (.cells (zeroRef.vals nilS nilS) 31 (0, 0)) := by rw [hW]; exact alloc2_snd _ _ _
  have hWb : Below w.heap.size w W := by rw [hW]; exact below_alloc2 _ _ _
  have hWs : W.heap.size = w.heap.size + 2 := by rw [hW]; simp
  have e0 : W.cell? ⟨w.heap.size, 0, none⟩ = some (.int .i64 M.w) := cell_of_row _ _ _ _ _ _ hWx
  have e1 : W.cell? ⟨w.heap.size, 1, none⟩ = some (.int .i64 M.h) := cell_of_row _ _ _ _ _ _ hWx
  have e2 : W.cell? ⟨w.heap.size, 2, none⟩ = some (.int .i64 M.most) := cell_of_row _ _ _ _ _ _ hWx
  have e3 : W.cell? ⟨w.heap.size, 3, none⟩ = some (.slice A3 n3 c3) := cell_of_row _ _ _ _ _ _ hWx
  have e4 : W.cell? ⟨w.heap.size, 4, none⟩ = some (.slice A4 n4 c4) := cell_of_row _ _ _ _ _ _ hWx
  have e5 : W.cell? ⟨w.heap.size, 5, none⟩ = some (.int .i64 M.x) := cell_of_row _ _ _ _ _ _ hWx
  have e6 : W.cell? ⟨w.heap.size, 6, none⟩ = some (.int .i64 M.y) := cell_of_row _ _ _ _ _ _ hWx
  have e7 : W.cell? ⟨w.heap.size, 7, none⟩ = some (.int .i64 M.begun) := cell_of_row _ _ _ _ _ _ hWx
  have e8 : W.cell? ⟨w.heap.size, 8, none⟩ = some (.string (bs M.args)) := cell_of_row _ _ _ _ _ _ hWx
  have f0 : W.frozen? ⟨w.heap.size, 0, none⟩ = false := frozen_of_row _ _ _ _ _ hWx
  have f1 : W.frozen? ⟨w.heap.size, 1, none⟩ = false := frozen_of_row _ _ _ _ _ hWx
  have f2 : W.frozen? ⟨w.heap.size, 2, none⟩ = false := frozen_of_row _ _ _ _ _ hWx
  have f3 : W.frozen? ⟨w.heap.size, 3, none⟩ = false := frozen_of_row _ _ _ _ _ hWx
  have f4 : W.frozen? ⟨w.heap.size, 4, none⟩ = false := frozen_of_row _ _ _ _ _ hWx
  have f5 : W.frozen? ⟨w.heap.size, 5, none⟩ = false := frozen_of_row _ _ _ _ _ hWx
  have f6 : W.frozen? ⟨w.heap.size, 6, none⟩ = false := frozen_of_row _ _ _ _ _ hWx
  have f7 : W.frozen? ⟨w.heap.size, 7, none⟩ = false := frozen_of_row _ _ _ _ _ hWx
  have f8 : W.frozen? ⟨w.heap.size, 8, none⟩ = false := frozen_of_row _ _ _ _ _ hWx
  have d0 : W.cell? ⟨w.heap.size + 1, 0, none⟩ = some (.int .i64 0) := cell_of_row _ _ _ _ _ _ hWy
  have d1 : W.cell? ⟨w.heap.size + 1, 1, none⟩ = some (.int .i64 0) := cell_of_row _ _ _ _ _ _ hWy
  have d2 : W.cell? ⟨w.heap.size + 1, 2, none⟩ = some (.int .i64 0) := cell_of_row _ _ _ _ _ _ hWy
  have d3 : W.cell? ⟨w.heap.size + 1, 3, none⟩ = some (.slice none 0 0) := cell_of_row _ _ _ _ _ _ hWy
  have d4 : W.cell? ⟨w.heap.size + 1, 4, none⟩ = some (.slice none 0 0) := cell_of_row _ _ _ _ _ _ hWy
  have d5 : W.cell? ⟨w.heap.size + 1, 5, none⟩ = some (.int .i64 0) := cell_of_row _ _ _ _ _ _ hWy
  have d6 : W.cell? ⟨w.heap.size + 1, 6, none⟩ = some (.int .i64 0) := cell_of_row _ _ _ _ _ _ hWy
  have d7 : W.cell? ⟨w.heap.size + 1, 7, none⟩ = some (.int .i64 0) := cell_of_row _ _ _ _ _ _ hWy
  have d8 : W.cell? ⟨w.heap.size + 1, 8, none⟩ = some (.string ⟨#[]⟩) := cell_of_row _ _ _ _ _ _ hWy
  have z0 : W.frozen? ⟨w.heap.size + 1, 0, none⟩ = false := frozen_of_row _ _ _ _ _ hWy
  have z1 : W.frozen? ⟨w.heap.size + 1, 1, none⟩ = false := frozen_of_row _ _ _ _ _ hWy
  have z2 : W.frozen? ⟨w.heap.size + 1, 2, none⟩ = false := frozen_of_row _ _ _ _ _ hWy
  have z3 : W.frozen? ⟨w.heap.size + 1, 3, none⟩ = false := frozen_of_row _ _ _ _ _ hWy
  have z4 : W.frozen? ⟨w.heap.size + 1, 4, none⟩ = false := frozen_of_row _ _ _ _ _ hWy
  have z5 : W.frozen? ⟨w.heap.size + 1, 5, none⟩ = false := frozen_of_row _ _ _ _ _ hWy
  have z6 : W.frozen? ⟨w.heap.size + 1, 6, none⟩ = false := frozen_of_row _ _ _ _ _ hWy
  have z7 : W.frozen? ⟨w.heap.size + 1, 7, none⟩ = false := frozen_of_row _ _ _ _ _ hWy
  have z8 : W.frozen? ⟨w.heap.size + 1, 8, none⟩ = false := frozen_of_row _ _ _ _ _ hWy
  have HW := Lib.hid hW; have HX := Lib.hid hWx; have HY := Lib.hid hWy; have HB := Lib.hid hWb; have HS := Lib.hid hWs; have HN3 := Lib.hid hn3; have HN4 := Lib.hid hn4
  clear hW hWx hWy hWb hWs hn3 hn4
  go_enter Tryd.func34, Tryd.ntmps34
  go_upto_region 1 with fail
  rw [← HW.out]
  clear HW
  go_wp2_with fail
  refine bodyPost_ret (v := .agg (Ref.vals ({ M with begun := 1 }) (.slice A3 n3 c3) (.slice A4 n4 c4))) (by simp [results, Tryd.results34, go_sem, Ref.vals, d0, d1, d2, d3, d4, d5, d6, d7, d8]) rfl ⟨_, rfl, ⟨_, _, rfl, ?_, ?_⟩, ?_⟩
  · show RdT _ _ _ M.rows.length (M.rows.map strV)
    rw [← HN3.out]
    exact H1.out.next (by repeat (first | with_reducible exact HB.out | with_reducible refine below_setG ?_ _ (by omega) _ _ | with_reducible refine below_drew ?_ | with_reducible refine Below.alloc ?_ (by have := HS.out; simp; omega) _))
  · show RdT _ _ _ M.kept.length (M.kept.map strV)
    rw [← HN4.out]
    exact H2.out.next (by repeat (first | with_reducible exact HB.out | with_reducible refine below_setG ?_ _ (by omega) _ _ | with_reducible refine below_drew ?_ | with_reducible refine Below.alloc ?_ (by have := HS.out; simp; omega) _))
  · repeat (first | with_reducible exact HB.out | with_reducible refine below_setG ?_ _ (by omega) _ _ | with_reducible refine below_drew ?_ | with_reducible refine Below.alloc ?_ (by have := HS.out; simp; omega) _)

set_option maxRecDepth 100000 in
set_option maxHeartbeats 1600000 in
theorem rbyte_8 (v : Value) (M : Ref) (w : World) (h : RV w v M) (ok : M.Ok)(hb1 : ¬ M.begun = 1) (hb2 : ¬ M.begun = 2) :
    Calls Tryd.prog 34 #[v, .int .u8 8] w (RVPost w ({ M with x := M.x - 1 })) := by
  have tb1 : ((M.begun : Int) == 1) = false := by simp; omega
  have tb2 : ((M.begun : Int) == 2) = false := by simp; omega
  clear hb1 hb2
  obtain ⟨vr, vk, rfl, h1, h2⟩ := h
  have H1 := Lib.hid h1; have H2 := Lib.hid h2
  obtain ⟨-, A4, c4, rfl, -, -, -, -⟩ := h2.1
  obtain ⟨-, A3, c3, rfl, -, -, -, -⟩ := h1.1
  clear h1 h2
  have hw1 := ok.w1; have hw2 := ok.w2; have hh1 := ok.h1; have hh2 := ok.h2; have hx := ok.x; have hy := ok.y
  have hw0 : ((M.w : Int) == 0) = false := by simp; omega
  obtain ⟨n3, hn3⟩ : ∃ n : Nat, n = M.rows.length := ⟨_, rfl⟩
  obtain ⟨n4, hn4⟩ : ∃ n : Nat, n = M.kept.length := ⟨_, rfl⟩
  rw [← hn3] at H1 ⊢
  rw [← hn4] at H2 ⊢
  obtain ⟨W, hW⟩ : ∃ W, W = (w.alloc (.cells (M.vals (.slice A3 n3 c3) (.slice A4 n4 c4)) 31)).alloc (.cells #[.int .i64 0, .int .i64 0, .int .i64 0, .slice none 0 0, .slice none 0 0, .int .i64 0, .int .i64 0, .int .i64 0, .string ⟨#[]⟩] 31) := ⟨_, rfl⟩
  have hWx : W.heap[w.heap.size]? = some (.cells (M.vals (.slice A3 n3 c3) (.slice A4 n4 c4)) 31 (0, 0)) := by rw [hW]; exact alloc2_fst _ _ _
  have hWy : W.heap[w.heap.size + 1]? = some (.cells (zeroRef.vals nilS nilS) 31 (0, 0)) := by rw [hW]; exact alloc2_snd _ _ _
  have hWb : Below w.heap.size w W := by rw [hW]; exact below_alloc2 _ _ _
  have hWs : W.heap.size = w.heap.size + 2 := by rw [hW]; simp
  have e0 : W.cell? ⟨w.heap.size, 0, none⟩ = some (.int .i64 M.w) := cell_of_row _ _ _ _ _ _ hWx
  have e1 : W.cell? ⟨w.heap.size, 1, none⟩ = some (.int .i64 M.h) := cell_of_row _ _ _ _ _ _ hWx
  have e2 : W.cell? ⟨w.heap.size, 2, none⟩ = some (.int .i64 M.most) := cell_of_row _ _ _ _ _ _ hWx
  have e3 : W.cell? ⟨w.heap.size, 3, none⟩ = some (.slice A3 n3 c3) := cell_of_row _ _ _ _ _ _ hWx
  have e4 : W.cell? ⟨w.heap.size, 4, none⟩ = some (.slice A4 n4 c4) := cell_of_row _ _ _ _ _ _ hWx
  have e5 : W.cell? ⟨w.heap.size, 5, none⟩ = some (.int .i64 M.x) := cell_of_row _ _ _ _ _ _ hWx
  have e6 : W.cell? ⟨w.heap.size, 6, none⟩ = some (.int .i64 M.y) := cell_of_row _ _ _ _ _ _ hWx
  have e7 : W.cell? ⟨w.heap.size, 7, none⟩ = some (.int .i64 M.begun) := cell_of_row _ _ _ _ _ _ hWx
  have e8 : W.cell? ⟨w.heap.size, 8, none⟩ = some (.string (bs M.args)) := cell_of_row _ _ _ _ _ _ hWx
  have f0 : W.frozen? ⟨w.heap.size, 0, none⟩ = false := frozen_of_row _ _ _ _ _ hWx
  have f1 : W.frozen? ⟨w.heap.size, 1, none⟩ = false := frozen_of_row _ _ _ _ _ hWx
  have f2 : W.frozen? ⟨w.heap.size, 2, none⟩ = false := frozen_of_row _ _ _ _ _ hWx
  have f3 : W.frozen? ⟨w.heap.size, 3, none⟩ = false := frozen_of_row _ _ _ _ _ hWx
  have f4 : W.frozen? ⟨w.heap.size, 4, none⟩ = false := frozen_of_row _ _ _ _ _ hWx
  have f5 : W.frozen? ⟨w.heap.size, 5, none⟩ = false := frozen_of_row _ _ _ _ _ hWx
  have f6 : W.frozen? ⟨w.heap.size, 6, none⟩ = false := frozen_of_row _ _ _ _ _ hWx
  have f7 : W.frozen? ⟨w.heap.size, 7, none⟩ = false := frozen_of_row _ _ _ _ _ hWx
  have f8 : W.frozen? ⟨w.heap.size, 8, none⟩ = false := frozen_of_row _ _ _ _ _ hWx
  have d0 : W.cell? ⟨w.heap.size + 1, 0, none⟩ = some (.int .i64 0) := cell_of_row _ _ _ _ _ _ hWy
  have d1 : W.cell? ⟨w.heap.size + 1, 1, none⟩ = some (.int .i64 0) := cell_of_row _ _ _ _ _ _ hWy
  have d2 : W.cell? ⟨w.heap.size + 1, 2, none⟩ = some (.int .i64 0) := cell_of_row _ _ _ _ _ _ hWy
  have d3 : W.cell? ⟨w.heap.size + 1, 3, none⟩ = some (.slice none 0 0) := cell_of_row _ _ _ _ _ _ hWy
  have d4 : W.cell? ⟨w.heap.size + 1, 4, none⟩ = some (.slice none 0 0) := cell_of_row _ _ _ _ _ _ hWy
  have d5 : W.cell? ⟨w.heap.size + 1, 5, none⟩ = some (.int .i64 0) := cell_of_row _ _ _ _ _ _ hWy
  have d6 : W.cell? ⟨w.heap.size + 1, 6, none⟩ = some (.int .i64 0) := cell_of_row _ _ _ _ _ _ hWy
  have d7 : W.cell? ⟨w.heap.size + 1, 7, none⟩ = some (.int .i64 0) := cell_of_row _ _ _ _ _ _ hWy
  have d8 : W.cell? ⟨w.heap.size + 1, 8, none⟩ = some (.string ⟨#[]⟩) := cell_of_row _ _ _ _ _ _ hWy
  have z0 : W.frozen? ⟨w.heap.size + 1, 0, none⟩ = false := frozen_of_row _ _ _ _ _ hWy
  have z1 : W.frozen? ⟨w.heap.size + 1, 1, none⟩ = false := frozen_of_row _ _ _ _ _ hWy
  have z2 : W.frozen? ⟨w.heap.size + 1, 2, none⟩ = false := frozen_of_row _ _ _ _ _ hWy
  have z3 : W.frozen? ⟨w.heap.size + 1, 3, none⟩ = false := frozen_of_row _ _ _ _ _ hWy
  have z4 : W.frozen? ⟨w.heap.size + 1, 4, none⟩ = false := frozen_of_row _ _ _ _ _ hWy
  have z5 : W.frozen? ⟨w.heap.size + 1, 5, none⟩ = false := frozen_of_row _ _ _ _ _ hWy
  have z6 : W.frozen? ⟨w.heap.size + 1, 6, none⟩ = false := frozen_of_row _ _ _ _ _ hWy
  have z7 : W.frozen? ⟨w.heap.size + 1, 7, none⟩ = false := frozen_of_row _ _ _ _ _ hWy
  have z8 : W.frozen? ⟨w.heap.size + 1, 8, none⟩ = false := frozen_of_row _ _ _ _ _ hWy
  have HW := Lib.hid hW; have HX := Lib.hid hWx; have HY := Lib.hid hWy; have HB := Lib.hid hWb; have HS := Lib.hid hWs; have HN3 := Lib.hid hn3; have HN4 := Lib.hid hn4
  clear hW hWx hWy hWb hWs hn3 hn4
  go_enter Tryd.func34, Tryd.ntmps34
  go_upto_region 1 with fail
  rw [← HW.out]
  clear HW
  go_wp2_with fail
  rw [show max 0 ((M.x : Int) - 1) = ((M.x - 1 : Nat) : Int) from by omega]
  refine bodyPost_ret (v := .agg (Ref.vals ({ M with x := M.x - 1 }) (.slice A3 n3 c3) (.slice A4 n4 c4))) (by simp [results, Tryd.results34, go_sem, Ref.vals, d0, d1, d2, d3, d4, d5, d6, d7, d8]) rfl ⟨_, rfl, ⟨_, _, rfl, ?_, ?_⟩, ?_⟩
  · show RdT _ _ _ M.rows.length (M.rows.map strV)
    rw [← HN3.out]
    exact H1.out.next (by repeat (first | with_reducible exact HB.out | with_reducible refine below_setG ?_ _ (by omega) _ _ | with_reducible refine below_drew ?_ | with_reducible refine Below.alloc ?_ (by have := HS.out; simp; omega) _))
  · show RdT _ _ _ M.kept.length (M.kept.map strV)
    rw [← HN4.out]
    exact H2.out.next (by repeat (first | with_reducible exact HB.out | with_reducible refine below_setG ?_ _ (by omega) _ _ | with_reducible refine below_drew ?_ | with_reducible refine Below.alloc ?_ (by have := HS.out; simp; omega) _))
  · repeat (first | with_reducible exact HB.out | with_reducible refine below_setG ?_ _ (by omega) _ _ | with_reducible refine below_drew ?_ | with_reducible refine Below.alloc ?_ (by have := HS.out; simp; omega) _)

set_option maxRecDepth 100000 in
set_option maxHeartbeats 1600000 in
theorem rbyte_9 (v : Value) (M : Ref) (w : World) (h : RV w v M) (ok : M.Ok)(hb1 : ¬ M.begun = 1) (hb2 : ¬ M.begun = 2) :
    Calls Tryd.prog 34 #[v, .int .u8 9] w (RVPost w ({ M with x := max M.x (min (M.x / 8 * 8 + 8) (M.w - 1)) })) := by
  have tb1 : ((M.begun : Int) == 1) = false := by simp; omega
  have tb2 : ((M.begun : Int) == 2) = false := by simp; omega
  clear hb1 hb2
  obtain ⟨vr, vk, rfl, h1, h2⟩ := h
  have H1 := Lib.hid h1; have H2 := Lib.hid h2
  obtain ⟨-, A4, c4, rfl, -, -, -, -⟩ := h2.1
  obtain ⟨-, A3, c3, rfl, -, -, -, -⟩ := h1.1
  clear h1 h2
  have hw1 := ok.w1; have hw2 := ok.w2; have hh1 := ok.h1; have hh2 := ok.h2; have hx := ok.x; have hy := ok.y
  have hw0 : ((M.w : Int) == 0) = false := by simp; omega
  obtain ⟨n3, hn3⟩ : ∃ n : Nat, n = M.rows.length := ⟨_, rfl⟩
  obtain ⟨n4, hn4⟩ : ∃ n : Nat, n = M.kept.length := ⟨_, rfl⟩
  rw [← hn3] at H1 ⊢
  rw [← hn4] at H2 ⊢
  obtain ⟨W, hW⟩ : ∃ W, W = (w.alloc (.cells (M.vals (.slice A3 n3 c3) (.slice A4 n4 c4)) 31)).alloc (.cells #[.int .i64 0, .int .i64 0, .int .i64 0, .slice none 0 0, .slice none 0 0, .int .i64 0, .int .i64 0, .int .i64 0, .string ⟨#[]⟩] 31) := ⟨_, rfl⟩
  have hWx : W.heap[w.heap.size]? = some (.cells (M.vals (.slice A3 n3 c3) (.slice A4 n4 c4)) 31 (0, 0)) := by rw [hW]; exact alloc2_fst _ _ _
  have hWy : W.heap[w.heap.size + 1]? = some (.cells (zeroRef.vals nilS nilS) 31 (0, 0)) := by rw [hW]; exact alloc2_snd _ _ _
  have hWb : Below w.heap.size w W := by rw [hW]; exact below_alloc2 _ _ _
  have hWs : W.heap.size = w.heap.size + 2 := by rw [hW]; simp
  have e0 : W.cell? ⟨w.heap.size, 0, none⟩ = some (.int .i64 M.w) := cell_of_row _ _ _ _ _ _ hWx
  have e1 : W.cell? ⟨w.heap.size, 1, none⟩ = some (.int .i64 M.h) := cell_of_row _ _ _ _ _ _ hWx
  have e2 : W.cell? ⟨w.heap.size, 2, none⟩ = some (.int .i64 M.most) := cell_of_row _ _ _ _ _ _ hWx
  have e3 : W.cell? ⟨w.heap.size, 3, none⟩ = some (.slice A3 n3 c3) := cell_of_row _ _ _ _ _ _ hWx
  have e4 : W.cell? ⟨w.heap.size, 4, none⟩ = some (.slice A4 n4 c4) := cell_of_row _ _ _ _ _ _ hWx
  have e5 : W.cell? ⟨w.heap.size, 5, none⟩ = some (.int .i64 M.x) := cell_of_row _ _ _ _ _ _ hWx
  have e6 : W.cell? ⟨w.heap.size, 6, none⟩ = some (.int .i64 M.y) := cell_of_row _ _ _ _ _ _ hWx
  have e7 : W.cell? ⟨w.heap.size, 7, none⟩ = some (.int .i64 M.begun) := cell_of_row _ _ _ _ _ _ hWx
  have e8 : W.cell? ⟨w.heap.size, 8, none⟩ = some (.string (bs M.args)) := cell_of_row _ _ _ _ _ _ hWx
  have f0 : W.frozen? ⟨w.heap.size, 0, none⟩ = false := frozen_of_row _ _ _ _ _ hWx
  have f1 : W.frozen? ⟨w.heap.size, 1, none⟩ = false := frozen_of_row _ _ _ _ _ hWx
  have f2 : W.frozen? ⟨w.heap.size, 2, none⟩ = false := frozen_of_row _ _ _ _ _ hWx
  have f3 : W.frozen? ⟨w.heap.size, 3, none⟩ = false := frozen_of_row _ _ _ _ _ hWx
  have f4 : W.frozen? ⟨w.heap.size, 4, none⟩ = false := frozen_of_row _ _ _ _ _ hWx
  have f5 : W.frozen? ⟨w.heap.size, 5, none⟩ = false := frozen_of_row _ _ _ _ _ hWx
  have f6 : W.frozen? ⟨w.heap.size, 6, none⟩ = false := frozen_of_row _ _ _ _ _ hWx
  have f7 : W.frozen? ⟨w.heap.size, 7, none⟩ = false := frozen_of_row _ _ _ _ _ hWx
  have f8 : W.frozen? ⟨w.heap.size, 8, none⟩ = false := frozen_of_row _ _ _ _ _ hWx
  have d0 : W.cell? ⟨w.heap.size + 1, 0, none⟩ = some (.int .i64 0) := cell_of_row _ _ _ _ _ _ hWy
  have d1 : W.cell? ⟨w.heap.size + 1, 1, none⟩ = some (.int .i64 0) := cell_of_row _ _ _ _ _ _ hWy
  have d2 : W.cell? ⟨w.heap.size + 1, 2, none⟩ = some (.int .i64 0) := cell_of_row _ _ _ _ _ _ hWy
  have d3 : W.cell? ⟨w.heap.size + 1, 3, none⟩ = some (.slice none 0 0) := cell_of_row _ _ _ _ _ _ hWy
  have d4 : W.cell? ⟨w.heap.size + 1, 4, none⟩ = some (.slice none 0 0) := cell_of_row _ _ _ _ _ _ hWy
  have d5 : W.cell? ⟨w.heap.size + 1, 5, none⟩ = some (.int .i64 0) := cell_of_row _ _ _ _ _ _ hWy
  have d6 : W.cell? ⟨w.heap.size + 1, 6, none⟩ = some (.int .i64 0) := cell_of_row _ _ _ _ _ _ hWy
  have d7 : W.cell? ⟨w.heap.size + 1, 7, none⟩ = some (.int .i64 0) := cell_of_row _ _ _ _ _ _ hWy
  have d8 : W.cell? ⟨w.heap.size + 1, 8, none⟩ = some (.string ⟨#[]⟩) := cell_of_row _ _ _ _ _ _ hWy
  have z0 : W.frozen? ⟨w.heap.size + 1, 0, none⟩ = false := frozen_of_row _ _ _ _ _ hWy
  have z1 : W.frozen? ⟨w.heap.size + 1, 1, none⟩ = false := frozen_of_row _ _ _ _ _ hWy
  have z2 : W.frozen? ⟨w.heap.size + 1, 2, none⟩ = false := frozen_of_row _ _ _ _ _ hWy
  have z3 : W.frozen? ⟨w.heap.size + 1, 3, none⟩ = false := frozen_of_row _ _ _ _ _ hWy
  have z4 : W.frozen? ⟨w.heap.size + 1, 4, none⟩ = false := frozen_of_row _ _ _ _ _ hWy
  have z5 : W.frozen? ⟨w.heap.size + 1, 5, none⟩ = false := frozen_of_row _ _ _ _ _ hWy
  have z6 : W.frozen? ⟨w.heap.size + 1, 6, none⟩ = false := frozen_of_row _ _ _ _ _ hWy
  have z7 : W.frozen? ⟨w.heap.size + 1, 7, none⟩ = false := frozen_of_row _ _ _ _ _ hWy
  have z8 : W.frozen? ⟨w.heap.size + 1, 8, none⟩ = false := frozen_of_row _ _ _ _ _ hWy
  have HW := Lib.hid hW; have HX := Lib.hid hWx; have HY := Lib.hid hWy; have HB := Lib.hid hWb; have HS := Lib.hid hWs; have HN3 := Lib.hid hn3; have HN4 := Lib.hid hn4
  clear hW hWx hWy hWb hWs hn3 hn4
  go_enter Tryd.func34, Tryd.ntmps34
  go_upto_region 1 with fail
  rw [← HW.out]
  clear HW
  go_wp2_with fail
  rw [show max (M.x : Int) (min ((M.x : Int) / 8 * 8 + 8) ((M.w : Int) - 1)) = ((max M.x (min (M.x / 8 * 8 + 8) (M.w - 1)) : Nat) : Int) from by omega]
  refine bodyPost_ret (v := .agg (Ref.vals ({ M with x := max M.x (min (M.x / 8 * 8 + 8) (M.w - 1)) }) (.slice A3 n3 c3) (.slice A4 n4 c4))) (by simp [results, Tryd.results34, go_sem, Ref.vals, d0, d1, d2, d3, d4, d5, d6, d7, d8]) rfl ⟨_, rfl, ⟨_, _, rfl, ?_, ?_⟩, ?_⟩
  · show RdT _ _ _ M.rows.length (M.rows.map strV)
    rw [← HN3.out]
    exact H1.out.next (by repeat (first | with_reducible exact HB.out | with_reducible refine below_setG ?_ _ (by omega) _ _ | with_reducible refine below_drew ?_ | with_reducible refine Below.alloc ?_ (by have := HS.out; simp; omega) _))
  · show RdT _ _ _ M.kept.length (M.kept.map strV)
    rw [← HN4.out]
    exact H2.out.next (by repeat (first | with_reducible exact HB.out | with_reducible refine below_setG ?_ _ (by omega) _ _ | with_reducible refine below_drew ?_ | with_reducible refine Below.alloc ?_ (by have := HS.out; simp; omega) _))
  · repeat (first | with_reducible exact HB.out | with_reducible refine below_setG ?_ _ (by omega) _ _ | with_reducible refine below_drew ?_ | with_reducible refine Below.alloc ?_ (by have := HS.out; simp; omega) _)

set_option maxRecDepth 100000 in
set_option maxHeartbeats 1600000 in
theorem rbyte_none (v : Value) (M : Ref)(c : Nat) (w : World) (h : RV w v M) (ok : M.Ok)(hb1 : ¬ M.begun = 1) (hb2 : ¬ M.begun = 2) (hc : ¬ (32 ≤ c ∧ c ≤ 126)) (h10 : ¬ c = 10) (h13 : ¬ c = 13) (h8 : ¬ c = 8) (h9 : ¬ c = 9) (h12 : ¬ c = 12) (h27 : ¬ c = 27) :
    Calls Tryd.prog 34 #[v, .int .u8 c] w (RVPost w (M)) := by
  have tb1 : ((M.begun : Int) == 1) = false := by simp; omega
  have tb2 : ((M.begun : Int) == 2) = false := by simp; omega
  clear hb1 hb2
  have t10 : ((c : Int) == 10) = false := by simp; omega
  have t13 : ((c : Int) == 13) = false := by simp; omega
  have t8 : ((c : Int) == 8) = false := by simp; omega
  have t9 : ((c : Int) == 9) = false := by simp; omega
  have t12 : ((c : Int) == 12) = false := by simp; omega
  have t27 : ((c : Int) == 27) = false := by simp; omega
  clear h10 h13 h8 h9 h12 h27
  obtain ⟨vr, vk, rfl, h1, h2⟩ := h
  have H1 := Lib.hid h1; have H2 := Lib.hid h2
  obtain ⟨-, A4, c4, rfl, -, -, -, -⟩ := h2.1
  obtain ⟨-, A3, c3, rfl, -, -, -, -⟩ := h1.1
  clear h1 h2
  have hw1 := ok.w1; have hw2 := ok.w2; have hh1 := ok.h1; have hh2 := ok.h2; have hx := ok.x; have hy := ok.y
  have hw0 : ((M.w : Int) == 0) = false := by simp; omega
  obtain ⟨n3, hn3⟩ : ∃ n : Nat, n = M.rows.length := ⟨_, rfl⟩
  obtain ⟨n4, hn4⟩ : ∃ n : Nat, n = M.kept.length := ⟨_, rfl⟩
  rw [← hn3] at H1 ⊢
  rw [← hn4] at H2 ⊢
  obtain ⟨W, hW⟩ : ∃ W, W = (w.alloc (.cells (M.vals (.slice A3 n3 c3) (.slice A4 n4 c4)) 31)).alloc (.cells #[.int .i64 0, .int .i64 0, .int .i64 0, .slice none 0 0, .slice none 0 0, .int .i64 0, .int .i64 0, .int .i64 0, .string ⟨#[]⟩] 31) := ⟨_, rfl⟩
  have hWx : W.heap[w.heap.size]? = some (.cells (M.vals (.slice A3 n3 c3) (.slice A4 n4 c4)) 31 (0, 0)) := by rw [hW]; exact alloc2_fst _ _ _
  have hWy : W.heap[w.heap.size + 1]? = some (.cells (zeroRef.vals nilS nilS) 31 (0, 0)) := by rw [hW]; exact alloc2_snd _ _ _
  have hWb : Below w.heap.size w W := by rw [hW]; exact below_alloc2 _ _ _
  have hWs : W.heap.size = w.heap.size + 2 := by rw [hW]; simp
  have e0 : W.cell? ⟨w.heap.size, 0, none⟩ = some (.int .i64 M.w) := cell_of_row _ _ _ _ _ _ hWx
  have e1 : W.cell? ⟨w.heap.size, 1, none⟩ = some (.int .i64 M.h) := cell_of_row _ _ _ _ _ _ hWx
  have e2 : W.cell? ⟨w.heap.size, 2, none⟩ = some (.int .i64 M.most) := cell_of_row _ _ _ _ _ _ hWx
  have e3 : W.cell? ⟨w.heap.size, 3, none⟩ = some (.slice A3 n3 c3) := cell_of_row _ _ _ _ _ _ hWx
  have e4 : W.cell? ⟨w.heap.size, 4, none⟩ = some (.slice A4 n4 c4) := cell_of_row _ _ _ _ _ _ hWx
  have e5 : W.cell? ⟨w.heap.size, 5, none⟩ = some (.int .i64 M.x) := cell_of_row _ _ _ _ _ _ hWx
  have e6 : W.cell? ⟨w.heap.size, 6, none⟩ = some (.int .i64 M.y) := cell_of_row _ _ _ _ _ _ hWx
  have e7 : W.cell? ⟨w.heap.size, 7, none⟩ = some (.int .i64 M.begun) := cell_of_row _ _ _ _ _ _ hWx
  have e8 : W.cell? ⟨w.heap.size, 8, none⟩ = some (.string (bs M.args)) := cell_of_row _ _ _ _ _ _ hWx
  have f0 : W.frozen? ⟨w.heap.size, 0, none⟩ = false := frozen_of_row _ _ _ _ _ hWx
  have f1 : W.frozen? ⟨w.heap.size, 1, none⟩ = false := frozen_of_row _ _ _ _ _ hWx
  have f2 : W.frozen? ⟨w.heap.size, 2, none⟩ = false := frozen_of_row _ _ _ _ _ hWx
  have f3 : W.frozen? ⟨w.heap.size, 3, none⟩ = false := frozen_of_row _ _ _ _ _ hWx
  have f4 : W.frozen? ⟨w.heap.size, 4, none⟩ = false := frozen_of_row _ _ _ _ _ hWx
  have f5 : W.frozen? ⟨w.heap.size, 5, none⟩ = false := frozen_of_row _ _ _ _ _ hWx
  have f6 : W.frozen? ⟨w.heap.size, 6, none⟩ = false := frozen_of_row _ _ _ _ _ hWx
  have f7 : W.frozen? ⟨w.heap.size, 7, none⟩ = false := frozen_of_row _ _ _ _ _ hWx
  have f8 : W.frozen? ⟨w.heap.size, 8, none⟩ = false := frozen_of_row _ _ _ _ _ hWx
  have d0 : W.cell? ⟨w.heap.size + 1, 0, none⟩ = some (.int .i64 0) := cell_of_row _ _ _ _ _ _ hWy
  have d1 : W.cell? ⟨w.heap.size + 1, 1, none⟩ = some (.int .i64 0) := cell_of_row _ _ _ _ _ _ hWy
  have d2 : W.cell? ⟨w.heap.size + 1, 2, none⟩ = some (.int .i64 0) := cell_of_row _ _ _ _ _ _ hWy
  have d3 : W.cell? ⟨w.heap.size + 1, 3, none⟩ = some (.slice none 0 0) := cell_of_row _ _ _ _ _ _ hWy
  have d4 : W.cell? ⟨w.heap.size + 1, 4, none⟩ = some (.slice none 0 0) := cell_of_row _ _ _ _ _ _ hWy
  have d5 : W.cell? ⟨w.heap.size + 1, 5, none⟩ = some (.int .i64 0) := cell_of_row _ _ _ _ _ _ hWy
  have d6 : W.cell? ⟨w.heap.size + 1, 6, none⟩ = some (.int .i64 0) := cell_of_row _ _ _ _ _ _ hWy
  have d7 : W.cell? ⟨w.heap.size + 1, 7, none⟩ = some (.int .i64 0) := cell_of_row _ _ _ _ _ _ hWy
  have d8 : W.cell? ⟨w.heap.size + 1, 8, none⟩ = some (.string ⟨#[]⟩) := cell_of_row _ _ _ _ _ _ hWy
  have z0 : W.frozen? ⟨w.heap.size + 1, 0, none⟩ = false := frozen_of_row _ _ _ _ _ hWy
  have z1 : W.frozen? ⟨w.heap.size + 1, 1, none⟩ = false := frozen_of_row _ _ _ _ _ hWy
  have z2 : W.frozen? ⟨w.heap.size + 1, 2, none⟩ = false := frozen_of_row _ _ _ _ _ hWy
  have z3 : W.frozen? ⟨w.heap.size + 1, 3, none⟩ = false := frozen_of_row _ _ _ _ _ hWy
  have z4 : W.frozen? ⟨w.heap.size + 1, 4, none⟩ = false := frozen_of_row _ _ _ _ _ hWy
  have z5 : W.frozen? ⟨w.heap.size + 1, 5, none⟩ = false := frozen_of_row _ _ _ _ _ hWy
  have z6 : W.frozen? ⟨w.heap.size + 1, 6, none⟩ = false := frozen_of_row _ _ _ _ _ hWy
  have z7 : W.frozen? ⟨w.heap.size + 1, 7, none⟩ = false := frozen_of_row _ _ _ _ _ hWy
  have z8 : W.frozen? ⟨w.heap.size + 1, 8, none⟩ = false := frozen_of_row _ _ _ _ _ hWy
  have HW := Lib.hid hW; have HX := Lib.hid hWx; have HY := Lib.hid hWy; have HB := Lib.hid hWb; have HS := Lib.hid hWs; have HN3 := Lib.hid hn3; have HN4 := Lib.hid hn4
  clear hW hWx hWy hWb hWs hn3 hn4
  go_enter Tryd.func34, Tryd.ntmps34
  go_upto_region 1 with fail
  rw [← HW.out]
  clear HW
  by_cases hd1 : 32 ≤ c
  · have hd2 : ¬ c ≤ 126 := by omega
    clear hc
    go_wp2_with fail
    refine bodyPost_ret (v := .agg (Ref.vals (M) (.slice A3 n3 c3) (.slice A4 n4 c4))) (by simp [results, Tryd.results34, go_sem, Ref.vals, d0, d1, d2, d3, d4, d5, d6, d7, d8]) rfl ⟨_, rfl, ⟨_, _, rfl, ?_, ?_⟩, ?_⟩
    · show RdT _ _ _ M.rows.length (M.rows.map strV)
      rw [← HN3.out]
      exact H1.out.next (by repeat (first | with_reducible exact HB.out | with_reducible refine below_setG ?_ _ (by omega) _ _ | with_reducible refine below_drew ?_ | with_reducible refine Below.alloc ?_ (by have := HS.out; simp; omega) _))
    · show RdT _ _ _ M.kept.length (M.kept.map strV)
      rw [← HN4.out]
      exact H2.out.next (by repeat (first | with_reducible exact HB.out | with_reducible refine below_setG ?_ _ (by omega) _ _ | with_reducible refine below_drew ?_ | with_reducible refine Below.alloc ?_ (by have := HS.out; simp; omega) _))
    · repeat (first | with_reducible exact HB.out | with_reducible refine below_setG ?_ _ (by omega) _ _ | with_reducible refine below_drew ?_ | with_reducible refine Below.alloc ?_ (by have := HS.out; simp; omega) _)
  · clear hc
    go_wp2_with fail
    refine bodyPost_ret (v := .agg (Ref.vals (M) (.slice A3 n3 c3) (.slice A4 n4 c4))) (by simp [results, Tryd.results34, go_sem, Ref.vals, d0, d1, d2, d3, d4, d5, d6, d7, d8]) rfl ⟨_, rfl, ⟨_, _, rfl, ?_, ?_⟩, ?_⟩
    · show RdT _ _ _ M.rows.length (M.rows.map strV)
      rw [← HN3.out]
      exact H1.out.next (by repeat (first | with_reducible exact HB.out | with_reducible refine below_setG ?_ _ (by omega) _ _ | with_reducible refine below_drew ?_ | with_reducible refine Below.alloc ?_ (by have := HS.out; simp; omega) _))
    · show RdT _ _ _ M.kept.length (M.kept.map strV)
      rw [← HN4.out]
      exact H2.out.next (by repeat (first | with_reducible exact HB.out | with_reducible refine below_setG ?_ _ (by omega) _ _ | with_reducible refine below_drew ?_ | with_reducible refine Below.alloc ?_ (by have := HS.out; simp; omega) _))
    · repeat (first | with_reducible exact HB.out | with_reducible refine below_setG ?_ _ (by omega) _ _ | with_reducible refine below_drew ?_ | with_reducible refine Below.alloc ?_ (by have := HS.out; simp; omega) _)
end Go.Proofs.YtiefpodmdpnppaaDoor
