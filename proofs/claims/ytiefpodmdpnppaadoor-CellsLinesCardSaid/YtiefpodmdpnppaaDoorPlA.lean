/-
  PLAIN LAW: a screen that is made higher and wider, and what it was again, is as it was.
-/
import Derived.Test.YtiefpodmdpnppaaDoorCelP
namespace Go.Proofs.YtiefpodmdpnppaaDoor

theorem dm_of (c d m : Nat) (hm : m < c) : (d * c + m) / c = d ∧ (d * c + m) % c = m := by
  constructor
  · rw [Nat.mul_comm, Nat.mul_add_div (by omega), Nat.div_eq_of_lt hm, Nat.add_zero]
  · rw [Nat.mul_comm, Nat.mul_add_mod, Nat.mod_eq_of_lt hm]
theorem gridK_back (g : List UInt8) (k c n r : Nat) (hk : 1 ≤ k) (hkc : k ≤ c) (hnr : n ≤ r) (hg : g.length = k * n) : gridK (gridK g k c r (min r n)) c k n (min n r) = g := by
  have hlen := gridK_len (gridK g k c r (min r n)) c k n (min n r)
  apply List.ext_getElem?
  intro j
  by_cases hj : j < k * n
  · rw [gridK_at _ _ _ _ _ _ hj]
    have hdm := Nat.div_add_mod j k
    have hm : j % k < k := Nat.mod_lt _ hk
    have hd : j / k < n := Nat.div_lt_of_lt_mul hj
    rw [if_pos ⟨by omega, by omega⟩]
    have hi : j / k * c + j % k < c * r := by
      have h1 : (j / k + 1) * c ≤ r * c := Nat.mul_le_mul_right c (by omega)
      rw [Nat.succ_mul] at h1
      rw [Nat.mul_comm c r]; omega
    obtain ⟨hic, him⟩ := dm_of c (j / k) (j % k) (Nat.lt_of_lt_of_le hm hkc)
    rw [List.getD_eq_getElem?_getD, gridK_at _ _ _ _ _ _ hi, hic, him, if_pos ⟨by omega, hm⟩]
    have hjj : j / k * k + j % k = j := by rw [Nat.mul_comm]; exact hdm
    rw [hjj, List.getD_eq_getElem?_getD, List.getElem?_eq_getElem (by omega)]
    rfl
  · rw [List.getElem?_eq_none (by omega), List.getElem?_eq_none (by omega)]

theorem Scr.Ok.resize {T : Scr} (ok : T.Ok) (c r : Nat) (q1 : 1 ≤ c) (q2 : c ≤ 128) (q3 : 1 ≤ r) (q4 : r ≤ 64) : (T.resize c r).Ok := by
  have h := ok.leaves (T.y + 1 - r)
  have hy := leaves_y (T.y + 1 - r) T
  exact { c1 := q1, c2 := q2, r1 := q3, r2 := q4, m := h.m, x := Nat.min_le_right _ _, y := (by show (Scr.leaves (T.y + 1 - r) T).y < r; rw [hy]; omega), g := gridK_len _ _ _ _ _, k := h.k, s := h.s, a := h.a, b := h.b, n := h.n }
theorem resize_up (T : Scr) (c r : Nat) (hr : T.y < r) : T.resize c r = { T with grid := gridK T.grid T.cols c r (min r T.rows), cols := c, rows := r, x := min T.x c } := by
  unfold Scr.resize
  rw [show T.y + 1 - r = 0 from by omega]
  rfl
theorem resize_back (T : Scr) (ok : T.Ok) (c r : Nat) (hc : T.cols ≤ c) (hr : T.rows ≤ r) : (T.resize c r).resize T.cols T.rows = T := by
  have hy := ok.y
  have hx := ok.x
  rw [resize_up T c r (by omega), resize_up _ _ _ (by exact hy)]
  simp only
  rw [gridK_back T.grid T.cols c T.rows r ok.c1 hc hr ok.g, Nat.min_eq_left (show T.x ≤ c by omega), Nat.min_eq_left hx]
end Go.Proofs.YtiefpodmdpnppaaDoor
