/-
  WALK of layer 56: Resize.
-/
import Derived.Test.YtiefpodmdpnppaaDoorCelO
namespace Go.Proofs.YtiefpodmdpnppaaDoor
open Go.RowKit

/-- the first row leaves, the cursor with it -/
def Scr.leave (S : Scr) : Scr := { S.scroll with y := S.y - 1 }
def Scr.leaves : Nat → Scr → Scr
  | 0, S => S
  | n + 1, S => Scr.leaves n S.leave
theorem leaves_succ (n : Nat) (S : Scr) : Scr.leaves (n + 1) S = (Scr.leaves n S).leave := by
  induction n generalizing S with
  | zero => rfl
  | succ n ih => exact ih S.leave
theorem Scr.scroll_y (S : Scr) : S.scroll.y = S.y := by unfold Scr.scroll Scr.withGrid Scr.keep; split; rfl; split <;> rfl
theorem Scr.scroll_rows (S : Scr) : S.scroll.rows = S.rows := by unfold Scr.scroll Scr.withGrid Scr.keep; split; rfl; split <;> rfl
theorem Scr.Ok.leave {S : Scr} (ok : S.Ok) : S.leave.Ok := { ok.scroll with y := (by show S.y - 1 < S.scroll.rows; rw [Scr.scroll_rows]; have := ok.y; omega) }
theorem Scr.Ok.leaves {S : Scr} (ok : S.Ok) (n : Nat) : (Scr.leaves n S).Ok := by
  induction n generalizing S with
  | zero => exact ok
  | succ n ih => exact ih ok.leave
theorem leaves_y (n : Nat) (S : Scr) : (Scr.leaves n S).y = S.y - n := by
  induction n generalizing S with
  | zero => rfl
  | succ n ih =>
    have : (Scr.leaves (n + 1) S).y = S.leave.y - n := ih S.leave
    rw [this]; show S.y - 1 - n = _; omega
theorem leaves_cols (n : Nat) (S : Scr) : (Scr.leaves n S).cols = S.cols := by
  induction n generalizing S with
  | zero => rfl
  | succ n ih => exact (ih S.leave).trans (Scr.scroll_cols S)
theorem leaves_rows (n : Nat) (S : Scr) : (Scr.leaves n S).rows = S.rows := by
  induction n generalizing S with
  | zero => rfl
  | succ n ih => exact (ih S.leave).trans (Scr.scroll_rows S)

/-- the cells of another size, of which so many rows are filled -/
def gridK (g : List UInt8) (k c r n : Nat) : List UInt8 := (List.range (c * r)).map fun j => if j / c < n ∧ j % c < k then g.getD (j / c * k + j % c) 32 else 32
theorem gridK_len (g : List UInt8) (k c r n : Nat) : (gridK g k c r n).length = c * r := by unfold gridK; simp
theorem gridK_zero (g : List UInt8) (k c r : Nat) : gridK g k c r 0 = List.replicate (c * r) 32 := by
  unfold gridK
  apply List.ext_getElem
  · simp
  · intro i h1 h2; simp
theorem gridK_at (g : List UInt8) (k c r n j : Nat) (h : j < c * r) : (gridK g k c r n)[j]? = some (if j / c < n ∧ j % c < k then g.getD (j / c * k + j % c) 32 else 32) := by
  unfold gridK
  rw [List.getElem?_map, List.getElem?_range h]; rfl
/-- a row more -/
theorem gridK_step (g : List UInt8) (k c r n : Nat) (hc : 1 ≤ c) (hn : n < r) (hg : n * k + k ≤ g.length) :
    (gridK g k c r n).take (n * c) ++ (((g.drop (n * k)).take k).take (min k c) ++ (gridK g k c r n).drop (n * c + min k c)) = gridK g k c r (n + 1) := by
  have hcr : n * c + c ≤ c * r := by rw [← Nat.succ_mul, Nat.mul_comm c r]; exact Nat.mul_le_mul_right _ hn
  have hlen := gridK_len g k c r n
  have hl1 : ((gridK g k c r n).take (n * c)).length = n * c := by rw [List.length_take]; omega
  have hl2 : (((g.drop (n * k)).take k).take (min k c)).length = min k c := by rw [List.length_take, List.length_take, List.length_drop]; omega
  apply List.ext_getElem?
  intro j
  by_cases hj : j < c * r
  · rw [gridK_at g k c r (n + 1) j hj]
    have hdm := Nat.div_add_mod j c
    have hml := Nat.mod_lt j (show 0 < c by omega)
    rw [Nat.mul_comm] at hdm
    by_cases h1 : j < n * c
    · rw [List.getElem?_append_left (by omega), List.getElem?_take, if_pos h1, gridK_at g k c r n j hj]
      have hd : j / c < n := (Nat.div_lt_iff_lt_mul (by omega)).2 h1
      have e : (j / c < n ∧ j % c < k) = (j / c < n + 1 ∧ j % c < k) := by apply propext; constructor <;> (rintro ⟨a, b⟩; exact ⟨by omega, b⟩)
      simp only [e]
    · rw [List.getElem?_append_right (by omega), hl1]
      by_cases h2 : j < n * c + min k c
      · have hd : j / c = n := by
          apply Nat.div_eq_of_lt_le
          · omega
          · rw [Nat.succ_mul]; omega
        have hm : j % c = j - n * c := by rw [hd] at hdm; omega
        rw [List.getElem?_append_left (by omega), List.getElem?_take, if_pos (by omega), List.getElem?_take, if_pos (by omega), List.getElem?_drop, if_pos ⟨by omega, by omega⟩, hd, hm, List.getD_eq_getElem?_getD, List.getElem?_eq_getElem (by omega)]
        rfl
      · rw [List.getElem?_append_right (by omega), hl2, List.getElem?_drop, show n * c + min k c + (j - n * c - min k c) = j by omega, gridK_at g k c r n j hj]
        have e : (j / c < n ∧ j % c < k) = (j / c < n + 1 ∧ j % c < k) := by
          apply propext
          constructor
          · rintro ⟨a, b⟩; exact ⟨by omega, b⟩
          · rintro ⟨a, b⟩
            refine ⟨?_, b⟩
            rcases Nat.lt_or_ge (j / c) n with hlt | hge
            · exact hlt
            · exfalso
              have hd : j / c = n := by omega
              rw [hd] at hdm
              omega
        simp only [e]
  · rw [List.getElem?_eq_none (by simp only [List.length_append, List.length_drop]; omega), List.getElem?_eq_none (by rw [gridK_len]; omega)]

def Scr.resize (S : Scr) (c r : Nat) : Scr :=
  let T := Scr.leaves (S.y + 1 - r) S
  { T with grid := gridK T.grid T.cols c r (min r T.rows), cols := c, rows := r, x := min T.x c }

/-- a row of the call's own, cut -/
theorem OwnAt.cut {P : Program} {w : World} {B : Nat} {e t : TypeId} {g o n c : Nat} {xs : List Value} (h : OwnAt w B e 1 g o n c xs) (ht : P.underlying t = some (.slice e)) (hz : ∀ w, (Go.sizeOf e).run P w = .ok 1 w) (l r : Nat) (hlr : l < r) (hr : r ≤ n) :
    (∀ W, (Instr.slice t (.slice (some ⟨g, o, none⟩) n c) (some (.int .i64 (l : Int))) (some (.int .i64 (r : Int))) none).run P W = .ok (.slice (some ⟨g, o + l, none⟩) (r - l) (c - l)) W) ∧ OwnAt w B e 1 g (o + l) (r - l) (c - l) ((xs.drop l).take (r - l)) := by
  have ht' : P.underlying t = some (.slice (P.elem t)) := by simp [Program.elem, ht]
  have he : P.elem t = e := by simp [Program.elem, ht]
  have hle := h.le
  refine ⟨fun W => ?_, h.base, h.kind, by omega, by have := h.max; omega, fun j hj => ?_, fun j u hu => ?_⟩
  · rw [run_slice_lh W t _ _ _ ht' .i64 .i64 _ _ (by omega) (by omega) (by omega), he, hz]
    have hcl : ¬ c = l := by omega
    simp only [Result.andThen, sliced, Int.toNat_natCast, if_neg hcl, Option.map_some, Nat.mul_one, add_none]
  · rw [Nat.add_assoc]; exact h.room (l + j) (by omega)
  · rw [Nat.add_assoc]
    refine h.holds (l + j) u ?_
    rw [List.getElem?_take] at hu
    split at hu
    · rw [List.getElem?_drop] at hu; exact hu
    · cases hu
theorem OwnAt.splice {w : World} {B : Nat} {e : TypeId} {g o n c : Nat} {xs : List Value} (h : OwnAt w B e 1 g o n c xs) (hl : xs.length = n) (l : Nat) (ys : List Value) (hm : l + ys.length ≤ n) :
    OwnAt (w.setCells g (o + l) ys) B e 1 g o n c (xs.take l ++ (ys ++ xs.drop (l + ys.length))) := by
  have hle := h.le
  refine ⟨h.base, heap_setCells_kind g e _ _ _ h.kind, h.le, h.max, fun j hj => ?_, fun j u hu => ?_⟩
  · rw [World.frozen?_setCells]
    refine ⟨?_, (h.room j hj).2⟩
    by_cases hin : l ≤ j ∧ j < l + ys.length
    · have := World.cell?_setCells_in g ys (o + l) w (fun q hq => by rw [Nat.add_assoc]; exact (h.room (l + q) (by omega)).1) (j - l) (by omega)
      rw [show o + l + (j - l) = o + j by omega] at this
      rw [this]; rfl
    · rw [World.cell?_setCells_out g ys _ w _ (fun _ _ => by show o + j < _ ∨ _ ≤ o + j; omega)]
      exact (h.room j hj).1
  · have hlt : (xs.take l).length = l := by rw [List.length_take]; omega
    by_cases h1 : j < l
    · rw [List.getElem?_append_left (by omega), List.getElem?_take, if_pos h1] at hu
      rw [World.cell?_setCells_out g ys _ w _ (fun _ _ => by show o + j < _ ∨ _ ≤ o + j; omega)]
      exact h.holds j u hu
    · rw [List.getElem?_append_right (by omega), hlt] at hu
      by_cases h2 : j < l + ys.length
      · rw [List.getElem?_append_left (by omega)] at hu
        obtain ⟨hj2, hu2⟩ := List.getElem?_eq_some_iff.1 hu
        have := World.cell?_setCells_in g ys (o + l) w (fun q hq => by rw [Nat.add_assoc]; exact (h.room (l + q) (by omega)).1) (j - l) (by omega)
        rw [show o + l + (j - l) = o + j by omega] at this
        rw [this, hu2]
      · rw [List.getElem?_append_right (by omega), List.getElem?_drop] at hu
        rw [World.cell?_setCells_out g ys _ w _ (fun _ _ => by show o + j < _ ∨ _ ≤ o + j; omega)]
        exact h.holds j u (by rw [← hu]; congr 1; omega)
theorem run_copy_min {P : Program} (w : World) (B : Nat) (dT sT ty e : TypeId) (g o n c : Nat) (xs : List Value) (vs : Value) (m : Nat) (ys : List Value) (hu : P.underlying dT = some (.slice e)) (hz : (P.info? e).map (·.size) = some 1)
    (hd : OwnAt w B e 1 g o n c xs) (hs : Rd w 1 vs m ys) (hp : 0 < m) (h1 : ∀ v ∈ ys, v.oneCell' = true) :
    (Builtin.copy_ #[dT, sT] ty #[.slice (some ⟨g, o, none⟩) n c, vs]).run P w = .ok (goInt (min m n : Nat)) (w.setCells g o (ys.take (min m n))) := by
  obtain ⟨hyl, A, c', rfl, _, _, _, hc⟩ := hs
  rw [Nat.mul_one] at hyl
  obtain ⟨b', o', rfl, _, hcell⟩ := hc hp
  have hle := hd.le
  have hlen : (ys.take (min m n)).length = min m n := by rw [List.length_take]; omega
  have := run_copy_cells (P := P) w dT sT ty e g o n c ⟨b', o', none⟩ m c' (ys.take (min m n)) hu hz (by rw [hlen]) (fun j v hv => by
      rw [add_none]
      refine hcell j v ?_
      rw [List.getElem?_take] at hv
      split at hv
      · exact hv
      · cases hv)
    (fun j hj => (hd.room j (by omega)).1) (fun j hj => (hd.room j (by omega)).2) (fun v hv => h1 v (List.mem_of_mem_take hv))
  rw [hlen] at this
  exact this
end Go.Proofs.YtiefpodmdpnppaaDoor
