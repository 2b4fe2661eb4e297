/-
  WALK of layer 56: clear.
-/
import Derived.Test.YtiefpodmdpnppaaDoorCelC
namespace Go.Proofs.YtiefpodmdpnppaaDoor
open Go.RowKit

/-- blanks from one cell up to another one -/
def clearL (g : List UInt8) (a b : Nat) : List UInt8 := g.take a ++ (List.replicate (b - a) 32 ++ g.drop (max a b))
theorem clearL_none (g : List UInt8) (a b : Nat) (h : b ≤ a) : clearL g a b = g := by
  unfold clearL
  rw [Nat.sub_eq_zero_of_le h, Nat.max_eq_left h]
  simp
theorem clearL_len (g : List UInt8) (a b : Nat) (h : b ≤ g.length) : (clearL g a b).length = g.length := by
  unfold clearL
  simp only [List.length_append, List.length_take, List.length_replicate, List.length_drop]
  omega
theorem clearL_at (g : List UInt8) (a b j : Nat) (h : b ≤ g.length) : (clearL g a b)[j]? = if a ≤ j ∧ j < b then some 32 else g[j]? := by
  by_cases hab : b ≤ a
  · rw [clearL_none g a b hab, if_neg (by omega)]
  · unfold clearL
    rw [Nat.max_eq_right (by omega)]
    by_cases h1 : j < a
    · rw [List.getElem?_append_left (by simp; omega), List.getElem?_take, if_pos h1, if_neg (by omega)]
    · rw [List.getElem?_append_right (by simp; omega), List.length_take, Nat.min_eq_left (by omega)]
      by_cases h2 : j < b
      · rw [List.getElem?_append_left (by simp; omega), List.getElem?_replicate, if_pos (by omega), if_pos (by omega)]
      · rw [List.getElem?_append_right (by simp; omega), List.length_replicate, List.getElem?_drop, if_neg (by omega)]
        congr 1; omega
theorem clearL_step (g : List UInt8) (a i : Nat) (ha : a ≤ i) (h : i < g.length) : (clearL g a i).set i 32 = clearL g a (i + 1) := by
  apply List.ext_getElem?
  intro j
  rw [List.getElem?_set, clearL_len g a i (by omega), clearL_at g a i j (by omega), clearL_at g a (i + 1) j (by omega)]
  by_cases h1 : i = j
  · subst h1; rw [if_pos rfl, if_pos h, if_pos (by omega)]
  · rw [if_neg h1]
    by_cases h2 : a ≤ j ∧ j < i
    · rw [if_pos h2, if_pos (by omega)]
    · rw [if_neg h2, if_neg (by omega)]
theorem byteCells_set (l : List UInt8) (i : Nat) (c : UInt8) : (Lib.byteCells l).set i (.int .u8 (c.toNat : Int)) = Lib.byteCells (l.set i c) := by
  unfold Lib.byteCells
  rw [List.map_set]

theorem OwnAt.set {w : World} {B : Nat} {e : TypeId} {k g o n c : Nat} {xs : List Value} (h : OwnAt w B e k g o n c xs) (hl : xs.length = n * k) (j : Nat) (u : Value) (hj : j < n * k) : OwnAt (w.setCell ⟨g, o + j, none⟩ u) B e k g o n c (xs.set j u) := by
  have hjc : j < c * k := Nat.lt_of_lt_of_le hj (Nat.mul_le_mul_right _ h.le)
  obtain ⟨old, hold⟩ := Option.isSome_iff_exists.1 (h.room j hjc).1
  refine ⟨h.base, ?_, h.le, h.max, fun i hi => ?_, fun i v hv => ?_⟩
  · obtain ⟨cur, fz, hk⟩ := h.kind
    exact ⟨cur.setIfInBounds (o + j) u, fz, by simp [World.setCell, Array.getElem?_modify, hk]⟩
  · have hf : (w.setCell ⟨g, o + j, none⟩ u).frozen? ⟨g, o + i, none⟩ = w.frozen? ⟨g, o + i, none⟩ := World.frozen?_setCells g [u] (o + j) w ⟨g, o + i, none⟩
    rw [hf]
    refine ⟨?_, (h.room i hi).2⟩
    by_cases e : i = j
    · subst e
      rw [World.cell?_setCell_same _ _ _ hold]; rfl
    · rw [World.cell?_setCell_other w ⟨g, o + j, none⟩ ⟨g, o + i, none⟩ u (fun he => e (by injection he; omega))]
      exact (h.room i hi).1
  · rw [List.getElem?_set] at hv
    by_cases e : j = i
    · subst e
      rw [if_pos rfl, if_pos (by omega)] at hv
      rw [World.cell?_setCell_same _ _ _ hold, hv]
    · rw [if_neg e] at hv
      rw [World.cell?_setCell_other w ⟨g, o + j, none⟩ ⟨g, o + i, none⟩ u (fun he => e (by injection he; omega))]
      exact h.holds i v hv

def Scr.clear (S : Scr) (a b : Nat) : Scr := { S with grid := clearL S.grid a b }

/-- a store into the cells -/
theorem CBat.put {w : World} {B b : Nat} {S : Scr} {g o n c : Nat} {vk : Value} (h : CBat w B b S (.slice (some ⟨g, o, none⟩) n c) vk) (ho : OwnAt w B 5 1 g o n c (Lib.byteCells S.grid)) (hn : S.grid.length = n) (j : Nat) (x : UInt8) (hj : j < n) :
    CBat (w.setCell ⟨g, o + j, none⟩ (.int .u8 (x.toNat : Int))) B b { S with grid := S.grid.set j x } (.slice (some ⟨g, o, none⟩) n c) vk := by
  have hgk := ho.kind
  obtain ⟨cur, fz, hcur⟩ := hgk
  have hbg : b ≠ g := by
    rintro rfl
    rw [h.blk] at hcur
    injection hcur with hcur
    injection hcur with _ ht
    exact absurd ht (by decide)
  refine ⟨?_, ?_, ?_⟩
  · rw [Below.heap_setCell _ _ _ _ hbg]; exact h.blk
  · have hs := ho.set (by rw [Lib.byteCells_length, hn, Nat.mul_one]) j (.int .u8 (x.toNat : Int)) (by omega)
    rw [byteCells_set] at hs
    refine ⟨by rw [Lib.byteCells_length, Nat.mul_one], Or.inr ⟨g, o, c, ?_, ?_⟩⟩
    · show _ = Value.slice _ (S.grid.set j x).length c
      rw [List.length_set, hn]
    · show OwnAt _ _ _ _ _ _ (S.grid.set j x).length _ _
      rw [List.length_set, hn]; exact hs
  · exact own_ne h.kept hcur (by decide) (grown_setCell w g (o + j) _)

theorem CBat.form {w : World} {B b : Nat} {S : Scr} {vc vk : Value} (h : CBat w B b S vc vk) (hn : 0 < S.grid.length) : ∃ g o c, vc = .slice (some ⟨g, o, none⟩) S.grid.length c ∧ OwnAt w B 5 1 g o S.grid.length c (Lib.byteCells S.grid) := by
  rcases h.cells.2 with ⟨A, hv, h0, _⟩ | ⟨g, o, c, hv, ho⟩
  · omega
  · exact ⟨g, o, c, hv, ho⟩

def CBPost (B b : Nat) (w : World) (S : Scr) (e : Ending) (w' : World) : Prop := e = .returned (.tuple #[]) ∧ CB w' B b S ∧ Bx B b w w'

set_option maxRecDepth 100000 in
set_option maxHeartbeats 600000 in
theorem clear_walk (B b x y : Nat) (S : Scr) (w : World) (h : CB w B b S) (hB : B ≤ w.heap.size) (hg : S.grid.length ≤ 8192) (hx : x ≤ 100000) (hy : y ≤ S.grid.length) :
    Calls Tryd.prog 42 #[.pointer (some ⟨b, 0, none⟩), .int .i64 x, .int .i64 y] w (CBPost B b w (S.clear x y)) := by
  obtain ⟨vc, vk, h⟩ := h
  by_cases hxy : x < y
  · obtain ⟨g, o, c, rfl, ho⟩ := h.form (by omega)
    obtain ⟨n, hn⟩ : ∃ n : Nat, n = S.grid.length := ⟨_, rfl⟩
    rw [← hn] at h hg hy ho
    have HN := Lib.hid hn; clear hn ho
    have H := Lib.hid h; clear h
    go_enter Tryd.func42, Tryd.ntmps42
    go_wp2_with fail
    go_loopw [6] (fun iv wr => ∃ i : Nat, x ≤ i ∧ i ≤ y ∧ iv = .int .i64 i ∧ Hid (CBat wr B b (S.clear x i) (.slice (some ⟨g, o, none⟩) n c) vk) ∧ Bx B b w wr) (fun iv _ => y - (intOf iv).toNat)
    case atStart => exact ⟨x, Nat.le_refl _, by omega, rfl, by show CBat _ _ _ _ _ _; unfold Scr.clear; rw [clearL_none _ _ _ (Nat.le_refl _)]; exact H.out, Bx.refl _ _ _⟩
    case round =>
      obtain ⟨i, hi1, hi2, rfl, hC, hb⟩ := hrel
      by_cases hlt : i < y
      · have hlen : (S.clear x i).grid.length = n := by show (clearL S.grid x i).length = n; rw [clearL_len _ _ _ (by rw [← HN.out]; omega), ← HN.out]
        obtain ⟨g', o', c', hv, ho⟩ := hC.out.form (by rw [hlen]; omega)
        rw [hlen] at hv ho
        injection hv with e1 e2 e3
        injection e1 with e1
        injection e1 with e1 e4
        subst e1; subst e4; subst e3
        have hput := Lib.hid (hC.out.put ho hlen i 32 (by omega))
        have hc5 : wr.cell? ⟨b, 5, none⟩ = some (.slice (some ⟨g, o, none⟩) n c) := hC.out.cell 5
        obtain ⟨old, hold⟩ := Option.isSome_iff_exists.1 (ho.room i (by have := ho.le; omega)).1
        have hfz := (ho.room i (by have := ho.le; omega)).2
        have hgB := ho.base
        clear ho hlen e2
        go_wp2_with fail
        go_roundw
        case rel =>
          refine ⟨i + 1, by omega, by omega, by go_num, ?_, hb.setG hgB _⟩
          have := hput.out
          unfold Scr.clear at this ⊢
          rw [clearL_step _ _ _ hi1 (by rw [← HN.out]; omega)] at this
          exact this
        case measure => simp [intOf]; omega
      · obtain rfl : i = y := by omega
        go_wp2_with fail
        go_end0
        exact ⟨rfl, ⟨_, _, hC.out⟩, hb⟩
  · have hid : S.clear x y = S := by unfold Scr.clear; rw [clearL_none _ _ _ (by omega)]
    rw [hid]
    have H := Lib.hid h; clear h hid
    go_enter Tryd.func42, Tryd.ntmps42
    go_wp2_with fail
    go_loopw [6] (fun iv wr => iv = .int .i64 x ∧ wr = w) (fun _ _ => 0)
    case atStart => exact ⟨rfl, rfl⟩
    case round =>
      obtain ⟨rfl, rfl⟩ := hrel
      go_wp2_with fail
      go_end0
      exact ⟨rfl, ⟨_, _, H.out⟩, Bx.refl _ _ _⟩
end Go.Proofs.YtiefpodmdpnppaaDoor
