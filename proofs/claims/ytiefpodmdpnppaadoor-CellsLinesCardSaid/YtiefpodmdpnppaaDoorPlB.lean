/-
  PLAIN LAW: the cells hold letters and blanks alone; how many lines are kept at most stays.
-/
import Derived.Test.YtiefpodmdpnppaaDoorPlA
import Derived.Test.YtiefpodmdpnppaaDoorCelQ
namespace Go.Proofs.YtiefpodmdpnppaaDoor

def Scr.Clean (S : Scr) : Prop := ∀ c ∈ S.grid, 32 ≤ c.toNat ∧ c.toNat ≤ 126
theorem blank_clean : 32 ≤ (32 : UInt8).toNat ∧ (32 : UInt8).toNat ≤ 126 := by decide
theorem Scr.Clean.clear {S : Scr} (h : S.Clean) (a b : Nat) : (S.clear a b).Clean := by
  intro c hc
  show 32 ≤ c.toNat ∧ c.toNat ≤ 126
  have hc : c ∈ clearL S.grid a b := hc
  unfold clearL at hc
  rcases List.mem_append.1 hc with h1 | h1
  · exact h c (List.mem_of_mem_take h1)
  · rcases List.mem_append.1 h1 with h2 | h2
    · rw [(List.mem_replicate.1 h2).2]; exact blank_clean
    · exact h c (List.mem_of_mem_drop h2)
theorem Scr.Clean.scroll {S : Scr} (h : S.Clean) : S.scroll.Clean := by
  intro c hc
  have hg : S.scroll.grid = S.grid.drop S.cols ++ List.replicate S.cols 32 := by unfold Scr.scroll Scr.withGrid Scr.keep; split; rfl; split <;> rfl
  rw [hg] at hc
  rcases List.mem_append.1 hc with h1 | h1
  · exact h c (List.mem_of_mem_drop h1)
  · rw [(List.mem_replicate.1 h1).2]; exact blank_clean
theorem Scr.Clean.lineEnd {S : Scr} (h : S.Clean) : S.lineEnd.Clean := by
  unfold Scr.lineEnd; split
  · exact h
  · exact Scr.Clean.scroll (S := { S with x := 0 }) h
theorem Scr.Clean.blank {S : Scr} (h : S.Clean) (n f t : Nat) : (S.blank n f t).Clean := by
  unfold Scr.blank
  repeat (first | exact h.clear _ _ | exact h | split)
theorem Scr.Clean.put {S : Scr} (h : S.Clean) (v : UInt8) (hv : 32 ≤ v.toNat ∧ v.toNat ≤ 126) : (S.put v).Clean := by
  intro c hc
  have hc : c ∈ S.grid.set (S.y * S.cols + S.x) v := hc
  rcases List.mem_or_eq_of_mem_set hc with h1 | h1
  · exact h c h1
  · rw [h1]; exact hv
theorem Scr.Clean.letter {S : Scr} (h : S.Clean) (v : UInt8) (hv : 32 ≤ v.toNat ∧ v.toNat ≤ 126) : (S.letter v).Clean := by
  unfold Scr.letter; split
  · exact h.lineEnd.put v hv
  · exact h.put v hv
theorem Scr.Clean.plain {S : Scr} (h : S.Clean) (v : UInt8) : (S.plain v).Clean := by
  unfold Scr.plain
  split
  · rename_i hv; exact h.letter v hv
  · repeat (first | exact h.lineEnd | exact h | exact h.clear _ _ | split)
theorem Scr.Clean.cmd {S : Scr} (h : S.Clean) (k n m : Nat) : (S.cmd k n m).Clean := by
  unfold Scr.cmd
  repeat (first | exact h | exact h.blank _ _ _ | split)
theorem Scr.Clean.told {S : Scr} (h : S.Clean) (v : Nat) : (S.told v).Clean := by
  unfold Scr.told
  repeat (first | exact h | exact Scr.Clean.cmd (S := { S with st := 0 }) h _ _ _ | split)
theorem Scr.Clean.byte {S : Scr} (h : S.Clean) (v : UInt8) : (S.byte v).Clean := by
  unfold Scr.byte
  repeat (first | exact h | exact h.told _ | exact h.plain _ | split)
theorem Scr.Clean.bytes {S : Scr} (h : S.Clean) (l : List UInt8) : (S.bytes l).Clean := by
  induction l generalizing S with
  | nil => exact h
  | cons c l ih => exact ih (h.byte c)
theorem Scr.Clean.leaves {S : Scr} (h : S.Clean) (n : Nat) : (Scr.leaves n S).Clean := by
  induction n generalizing S with
  | zero => exact h
  | succ n ih => exact ih (S := S.leave) h.scroll
theorem Scr.Clean.resize {S : Scr} (h : S.Clean) (c r : Nat) : (S.resize c r).Clean := by
  intro x hx
  have hT := h.leaves (S.y + 1 - r)
  have hx : x ∈ gridK (Scr.leaves (S.y + 1 - r) S).grid (Scr.leaves (S.y + 1 - r) S).cols c r (min r (Scr.leaves (S.y + 1 - r) S).rows) := hx
  unfold gridK at hx
  obtain ⟨j, -, rfl⟩ := List.mem_map.1 hx
  split
  · rw [List.getD_eq_getElem?_getD]
    rcases Nat.lt_or_ge (j / c * (Scr.leaves (S.y + 1 - r) S).cols + j % c) (Scr.leaves (S.y + 1 - r) S).grid.length with h1 | h1
    · rw [List.getElem?_eq_getElem h1]; exact hT _ (List.getElem_mem h1)
    · rw [List.getElem?_eq_none h1]; exact blank_clean
  · exact blank_clean
theorem newScr_clean (c r k : Nat) : (newScr c r k).Clean := by
  intro x hx
  have hx : x ∈ List.replicate (c * r) (32 : UInt8) := hx
  rw [(List.mem_replicate.1 hx).2]; exact blank_clean

theorem keep_most (S : Scr) (l : List UInt8) : (S.keep l).most = S.most := by unfold Scr.keep; split; rfl; split <;> rfl
theorem scroll_most (S : Scr) : S.scroll.most = S.most := by unfold Scr.scroll Scr.withGrid Scr.keep; split; rfl; split <;> rfl
theorem lineEnd_most (S : Scr) : S.lineEnd.most = S.most := by unfold Scr.lineEnd; split; rfl; exact scroll_most _
theorem blank_most (S : Scr) (n f t : Nat) : (S.blank n f t).most = S.most := by unfold Scr.blank Scr.clear; repeat (first | rfl | split)
theorem plain_most (S : Scr) (v : UInt8) : (S.plain v).most = S.most := by
  unfold Scr.plain Scr.clear Scr.letter Scr.put
  repeat (first | rfl | exact lineEnd_most S | split)
theorem cmd_most (S : Scr) (k n m : Nat) : (S.cmd k n m).most = S.most := by
  unfold Scr.cmd
  repeat (first | rfl | exact blank_most _ _ _ _ | split)
theorem told_most (S : Scr) (v : Nat) : (S.told v).most = S.most := by
  unfold Scr.told
  repeat (first | rfl | exact cmd_most _ _ _ _ | split)
theorem byte_most (S : Scr) (v : UInt8) : (S.byte v).most = S.most := by
  unfold Scr.byte
  repeat (first | rfl | exact told_most _ _ | exact plain_most _ _ | split)
theorem bytes_most (S : Scr) (l : List UInt8) : (S.bytes l).most = S.most := by
  induction l generalizing S with
  | nil => rfl
  | cons c l ih => exact (ih (S.byte c)).trans (byte_most S c)
theorem leaves_most (n : Nat) (S : Scr) : (Scr.leaves n S).most = S.most := by
  induction n generalizing S with
  | zero => rfl
  | succ n ih => exact (ih S.leave).trans (scroll_most S)
theorem resize_most (S : Scr) (c r : Nat) : (S.resize c r).most = S.most := leaves_most _ S

theorem row_full (S : Scr) (ok : S.Ok) (i : Nat) (hi : i < S.rows) : (S.row i).length = S.cols := by
  unfold Scr.row
  rw [if_pos ⟨by omega, by omega⟩]
  simp only [List.length_take, List.length_drop, ok.g, Int.toNat_natCast]
  have h1 : (i + 1) * S.cols ≤ S.rows * S.cols := Nat.mul_le_mul_right _ hi
  rw [Nat.succ_mul, Nat.mul_comm S.rows] at h1
  omega
theorem row_clean (S : Scr) (h : S.Clean) (i : Int) : ∀ c ∈ S.row i, 32 ≤ c.toNat ∧ c.toNat ≤ 126 := by
  intro c hc
  unfold Scr.row at hc
  split at hc
  · exact h c (List.mem_of_mem_drop (List.mem_of_mem_take hc))
  · cases hc
end Go.Proofs.YtiefpodmdpnppaaDoor
