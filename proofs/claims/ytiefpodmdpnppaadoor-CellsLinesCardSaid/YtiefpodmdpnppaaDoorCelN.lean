/-
  WALKS of layer 56: Row, Back, Kept, Cursor, Size.
-/
import Derived.Test.YtiefpodmdpnppaaDoorCelM
namespace Go.Proofs.YtiefpodmdpnppaaDoor
open Go.RowKit

/-- CUTTING what reads as a list -/
theorem Rd.cut {P : Program} {w : World} {e t : TypeId} {v : Value} {n : Nat} {xs : List Value} (h : Rd w 1 v n xs) (ht : P.underlying t = some (.slice e)) (hz : ∀ w, (Go.sizeOf e).run P w = .ok 1 w) (l r : Nat) (hlr : l ≤ r) (hr : r ≤ n) :
    ∃ A c, (∀ W, (Instr.slice t v (some (.int .i64 (l : Int))) (some (.int .i64 (r : Int))) none).run P W = .ok (.slice A (r - l) c) W) ∧ Rd w 1 (.slice A (r - l) c) (r - l) ((xs.drop l).take (r - l)) := by
  have ht' : P.underlying t = some (.slice (P.elem t)) := by simp [Program.elem, ht]
  have he : P.elem t = e := by simp [Program.elem, ht]
  obtain ⟨hl, A, c, rfl, hnc, hcm, hA, hcell⟩ := h
  rw [Nat.mul_one] at hl
  refine ⟨if c = l then A else A.map (·.add l), c - l, fun W => ?_, by rw [List.length_take, List.length_drop]; omega, _, _, rfl, by omega, by omega, ?_, fun hp => ?_⟩
  · rw [run_slice_lh W t _ _ _ ht' .i64 .i64 _ _ (by omega) (by omega) (by omega), he, hz]
    simp [Result.andThen, sliced]
  · split
    · exact hA
    · rcases hA with rfl | ⟨b, o, rfl⟩
      · exact Or.inl rfl
      · exact Or.inr ⟨b, o + l, by rw [Option.map_some, add_none]⟩
  · obtain ⟨b, o, rfl, hlt, hc⟩ := hcell (by omega)
    refine ⟨b, o + l, by rw [if_neg (by omega), Option.map_some, add_none], hlt, fun j u hu => ?_⟩
    rw [Nat.add_assoc]
    refine hc (l + j) u ?_
    rw [List.getElem?_take] at hu
    split at hu
    · rw [List.getElem?_drop] at hu; exact hu
    · cases hu

theorem conv_rd {w : World} {v : Value} {l : List UInt8} (h : Rd w 1 v l.length (Lib.byteCells l)) :
    (convert 24 9 v).run Tryd.prog w = .ok (strV l) w := by
  obtain ⟨hl, A, c, rfl, hnc, hcm, hA, hcell⟩ := h
  rcases Nat.eq_zero_or_pos l.length with h0 | h0
  · obtain rfl : l = [] := List.length_eq_zero_iff.1 h0
    rcases hA with rfl | ⟨b, o, rfl⟩
    · exact Lib.run_convert_nil_bytes w 24 9 5 c Tryd.underlying24 Tryd.underlying5 Tryd.underlying9
    · exact run_convert_bytes_back w 24 9 5 ⟨b, o, none⟩ c [] Tryd.underlying24 Tryd.underlying5 Tryd.underlying9 (fun j hj => by simp at hj)
  · obtain ⟨b, o, rfl, hlt, hc⟩ := hcell h0
    refine run_convert_bytes_back w 24 9 5 ⟨b, o, none⟩ c l Tryd.underlying24 Tryd.underlying5 Tryd.underlying9 ?_
    intro j hj
    rw [add_none]
    refine hc j _ ?_
    unfold Lib.byteCells
    rw [List.getElem?_map, List.getElem?_eq_getElem hj]
    rfl

def Scr.row (S : Scr) (y : Int) : List UInt8 := if 0 ≤ y ∧ y < S.rows then (S.grid.drop (y.toNat * S.cols)).take S.cols else []
def Scr.back (S : Scr) (n : Int) : List UInt8 := if 1 ≤ n ∧ n ≤ S.kept.length then S.kept.getD (S.kept.length - n.toNat) [] else []
def ValPost (w : World) (v : Value) (e : Ending) (w' : World) : Prop := e = .returned v ∧ Below w.heap.size w w'

set_option maxRecDepth 100000 in
set_option maxHeartbeats 800000 in
theorem row_yes (v : Value) (S : Scr) (y : Nat) (w : World) (h : CV w v S) (ok : S.Ok) (hy : y < S.rows) :
    Calls Tryd.prog 24 #[v, .int .i64 y] w (ValPost w (strV ((S.grid.drop (y * S.cols)).take S.cols))) := by
  obtain ⟨vc, vk, rfl, h1, h2, h3, h4⟩ := h
  have hr2 := ok.r2
  have hg2 := ok.g2
  have hpg : y * S.cols + S.cols ≤ S.grid.length := by rw [ok.g, ← Nat.succ_mul, Nat.mul_comm]; exact Nat.mul_le_mul (Nat.le_refl _) hy
  obtain ⟨p, hp⟩ : ∃ p : Nat, p = y * S.cols := ⟨_, rfl⟩
  obtain ⟨q, hq⟩ : ∃ q : Nat, q = (y + 1) * S.cols := ⟨_, rfl⟩
  have hqp : q = p + S.cols := by rw [hq, hp, Nat.succ_mul]
  rw [← hp] at hpg
  have hw1 : IntKind.i64.wrap ((y : Int) * (S.cols : Int)) = (p : Int) := by rw [← Int.natCast_mul, ← hp, IntWalk.i64_in _ (by omega)]
  have hw2 : IntKind.i64.wrap ((y : Int) + 1) = (y : Int) + 1 := IntWalk.i64_in _ (by omega)
  have hw3 : IntKind.i64.wrap (((y : Int) + 1) * (S.cols : Int)) = (q : Int) := by
    rw [show ((y : Int) + 1) * (S.cols : Int) = (((y + 1) * S.cols : Nat) : Int) from by rw [Int.natCast_mul, Int.natCast_add]; rfl, ← hq, IntWalk.i64_in _ (by omega)]
  obtain ⟨A, c, hsl, hrd⟩ := h1.cut Tryd.underlying24 Tryd.sizeOf5 p q (by omega) (by omega)
  have hlen : ((S.grid.drop p).take S.cols).length = q - p := by rw [List.length_take, List.length_drop]; omega
  have hrd2 : Rd (w.alloc (.cells (S.vals vc vk) 29)) 1 (.slice A (q - p) c) ((S.grid.drop p).take S.cols).length (Lib.byteCells ((S.grid.drop p).take S.cols)) := by
    rw [hlen, show Lib.byteCells ((S.grid.drop p).take S.cols) = ((Lib.byteCells S.grid).drop p).take (q - p) from by unfold Lib.byteCells; rw [List.map_take, List.map_drop]; congr 1; omega]
    exact hrd.next ((Below.refl _ _).alloc (Nat.le_refl _) _)
  have hcv := conv_rd hrd2
  obtain ⟨-, A0, c0, rfl, -, -, -, -⟩ := h1
  rw [← hp]
  obtain ⟨R, hR⟩ : ∃ R : ByteArray, R = ⟨((S.grid.drop p).take S.cols).toArray⟩ := ⟨_, rfl⟩
  rw [show strV ((S.grid.drop p).take S.cols) = .string R from by rw [hR]; rfl] at hcv ⊢
  have hpq : p ≤ q := by omega
  have hqn : q ≤ S.grid.length := by omega
  clear hlen hrd2 hrd hp hq ok hqp hpg h2 h3 h4 hR
  unfold Scr.vals at hcv ⊢
  generalize S.grid.length = n at *
  generalize q - p = m at *
  have hy' : decide ((y : Int) ≥ (S.rows : Int)) = false := by simp; omega
  go_enter Tryd.func24, Tryd.ntmps24
  go_wp2_with fail
  go_ret
  exact ⟨rfl, (Below.refl _ _).alloc (Nat.le_refl _) _⟩

set_option maxRecDepth 100000 in
set_option maxHeartbeats 800000 in
theorem row_no (v : Value) (S : Scr) (y : Int) (w : World) (h : CV w v S) (hy : y < 0 ∨ (S.rows : Int) ≤ y) :
    Calls Tryd.prog 24 #[v, .int .i64 y] w (ValPost w (strV [])) := by
  obtain ⟨vc, vk, rfl, h1, h2, h3, h4⟩ := h
  unfold Scr.vals
  clear h1 h2 h3 h4
  unfold strV
  by_cases h0 : y < 0
  · clear hy
    go_enter Tryd.func24, Tryd.ntmps24
    go_wp2_with fail
    go_ret
    exact ⟨rfl, (Below.refl _ _).alloc (Nat.le_refl _) _⟩
  · have hy' : decide (y ≥ (S.rows : Int)) = true := by simp; omega
    have h0' : decide (y < 0) = false := by simp; omega
    clear hy
    go_enter Tryd.func24, Tryd.ntmps24
    go_wp2_with fail
    go_ret
    exact ⟨rfl, (Below.refl _ _).alloc (Nat.le_refl _) _⟩
theorem row_any (v : Value) (S : Scr) (y : Int) (w : World) (h : CV w v S) (ok : S.Ok) :
    Calls Tryd.prog 24 #[v, .int .i64 y] w (ValPost w (strV (S.row y))) := by
  unfold Scr.row
  by_cases hy : 0 ≤ y ∧ y < S.rows
  · rw [if_pos hy]
    obtain ⟨k, rfl⟩ := Int.eq_ofNat_of_zero_le hy.1
    exact row_yes v S k w h ok (by omega)
  · rw [if_neg hy]
    exact row_no v S y w h (by omega)

set_option maxRecDepth 100000 in
set_option maxHeartbeats 800000 in
theorem kept_any (v : Value) (S : Scr) (w : World) (h : CV w v S) :
    Calls Tryd.prog 15 #[v] w (ValPost w (.int .i64 S.kept.length)) := by
  obtain ⟨vc, vk, rfl, h1, h2, h3, h4⟩ := h
  obtain ⟨-, A0, c0, rfl, -, -, -, -⟩ := h2
  unfold Scr.vals
  clear h1 h3 h4
  generalize S.kept.length = n
  go_enter Tryd.func15, Tryd.ntmps15
  go_wp2_with fail
  go_ret
  exact ⟨rfl, (Below.refl _ _).alloc (Nat.le_refl _) _⟩
set_option maxRecDepth 100000 in
set_option maxHeartbeats 800000 in
theorem cursor_any (v : Value) (S : Scr) (w : World) (h : CV w v S) :
    Calls Tryd.prog 13 #[v] w (ValPost w (.tuple #[.int .i64 S.x, .int .i64 S.y])) := by
  obtain ⟨vc, vk, rfl, h1, h2, h3, h4⟩ := h
  unfold Scr.vals
  clear h1 h2 h3 h4
  go_enter Tryd.func13, Tryd.ntmps13
  go_wp2_with fail
  go_quiet (fail)
  go_wp2_with fail
  go_ret2
  exact ⟨rfl, below_dn ((Below.refl _ _).alloc (Nat.le_refl _) _) _⟩
set_option maxRecDepth 100000 in
set_option maxHeartbeats 800000 in
theorem size_any (v : Value) (S : Scr) (w : World) (h : CV w v S) :
    Calls Tryd.prog 18 #[v] w (ValPost w (.tuple #[.int .i64 S.cols, .int .i64 S.rows])) := by
  obtain ⟨vc, vk, rfl, h1, h2, h3, h4⟩ := h
  unfold Scr.vals
  clear h1 h2 h3 h4
  go_enter Tryd.func18, Tryd.ntmps18
  go_wp2_with fail
  go_quiet (fail)
  go_wp2_with fail
  go_ret2
  exact ⟨rfl, below_dn ((Below.refl _ _).alloc (Nat.le_refl _) _) _⟩

set_option maxRecDepth 100000 in
set_option maxHeartbeats 800000 in
theorem back_yes (v : Value) (S : Scr) (k : Nat) (w : World) (h : CV w v S) (hk1 : 1 ≤ k) (hk2 : k ≤ S.kept.length) (hk3 : S.kept.length ≤ 100000) :
    Calls Tryd.prog 19 #[v, .int .i64 k] w (ValPost w (strV (S.kept.getD (S.kept.length - k) []))) := by
  obtain ⟨vc, vk, rfl, h1, h2, h3, h4⟩ := h
  obtain ⟨hl, A0, c0, rfl, -, -, -, hc⟩ := h2
  obtain ⟨b, o, rfl, hlt, hc⟩ := hc (by omega)
  have hj : S.kept.length - k < S.kept.length := by omega
  have hcell := hc (S.kept.length - k) (strV (S.kept.getD (S.kept.length - k) [])) (by rw [List.getElem?_map, List.getD_eq_getElem?_getD, List.getElem?_eq_getElem hj]; rfl)
  unfold Scr.vals
  obtain ⟨R, hR⟩ : ∃ R : ByteArray, R = ⟨(S.kept.getD (S.kept.length - k) []).toArray⟩ := ⟨_, rfl⟩
  rw [show strV (S.kept.getD (S.kept.length - k) []) = .string R from by rw [hR]; rfl] at hcell ⊢
  obtain ⟨j, hjj⟩ : ∃ j : Nat, j = S.kept.length - k := ⟨_, rfl⟩
  rw [← hjj] at hcell
  have hjn : j < S.kept.length := by omega
  have hw : IntKind.i64.wrap ((S.kept.length : Int) - (k : Int)) = (j : Int) := by rw [IntWalk.i64_in _ (by omega)]; omega
  have hjI : (j : Int) < (S.kept.length : Int) := by omega
  clear h1 h3 h4 hR hc hl hj hjj
  generalize S.kept.length = n at *
  have hk' : decide ((k : Int) > (n : Int)) = false := by simp; omega
  have hk'' : decide ((k : Int) < 1) = false := by simp; omega
  go_enter Tryd.func19, Tryd.ntmps19
  go_wp2_with fail
  go_ret
  exact ⟨rfl, (Below.refl _ _).alloc (Nat.le_refl _) _⟩
set_option maxRecDepth 100000 in
set_option maxHeartbeats 800000 in
theorem back_no (v : Value) (S : Scr) (y : Int) (w : World) (h : CV w v S) (hy : y < 1 ∨ (S.kept.length : Int) < y) :
    Calls Tryd.prog 19 #[v, .int .i64 y] w (ValPost w (strV [])) := by
  obtain ⟨vc, vk, rfl, h1, h2, h3, h4⟩ := h
  obtain ⟨-, A0, c0, rfl, -, -, -, -⟩ := h2
  unfold Scr.vals
  clear h1 h3 h4
  generalize S.kept.length = n at *
  unfold strV
  by_cases h0 : y < 1
  · clear hy
    go_enter Tryd.func19, Tryd.ntmps19
    go_wp2_with fail
    go_ret
    exact ⟨rfl, (Below.refl _ _).alloc (Nat.le_refl _) _⟩
  · have hy' : decide (y > (n : Int)) = true := by simp; omega
    have h0' : decide (y < 1) = false := by simp; omega
    clear hy
    go_enter Tryd.func19, Tryd.ntmps19
    go_wp2_with fail
    go_ret
    exact ⟨rfl, (Below.refl _ _).alloc (Nat.le_refl _) _⟩
theorem back_any (v : Value) (S : Scr) (y : Int) (w : World) (h : CV w v S) (hk : S.kept.length ≤ 100000) :
    Calls Tryd.prog 19 #[v, .int .i64 y] w (ValPost w (strV (S.back y))) := by
  unfold Scr.back
  by_cases hy : 1 ≤ y ∧ y ≤ S.kept.length
  · rw [if_pos hy]
    obtain ⟨k, rfl⟩ := Int.eq_ofNat_of_zero_le (by omega : 0 ≤ y)
    exact back_yes v S k w h (by omega) (by omega) hk
  · rw [if_neg hy]
    exact back_no v S y w h (by omega)
end Go.Proofs.YtiefpodmdpnppaaDoor
