/-
  WALKS of layer 56's document: Byte, joined; Write.
-/
import Derived.Test.YtiefpodmdpnppaaDoorDocB
namespace Go.Proofs.YtiefpodmdpnppaaDoor
open Go.RowKit

theorem byte_walk (v : Value) (M : Ref) (c : UInt8) (w : World) (h : RV w v M) (ok : M.Ok) (ha : M.args.length ≤ 100000) :
    Calls Tryd.prog 34 #[v, .int .u8 (c.toNat : Int)] w (RVPost w (M.byte c)) := by
  unfold Ref.byte
  by_cases hb1 : M.begun = 1
  · rw [if_pos hb1]
    by_cases h91 : c.toNat = 91
    · rw [if_pos h91, h91]; exact rbyte_esc91 v M w h ok hb1
    · rw [if_neg h91]; exact rbyte_esc v M c.toNat w h ok hb1 h91
  rw [if_neg hb1]
  by_cases hb2 : M.begun = 2
  · rw [if_pos hb2]
    by_cases hd : (48 ≤ c.toNat ∧ c.toNat ≤ 57) ∨ c.toNat = 59
    · rw [if_pos hd]; exact rbyte_dig v M c w h ok hb2 hd ha
    rw [if_neg hd]
    by_cases he : 64 ≤ c.toNat ∧ c.toNat ≤ 126
    · rw [if_pos he]; exact rbyte_cmd v M c.toNat w h ok hb2 he ha
    · rw [if_neg he]; exact rbyte_bad v M c.toNat w h ok hb2 hd he
  rw [if_neg hb2]
  by_cases hl : 32 ≤ c.toNat ∧ c.toNat ≤ 126
  · rw [if_pos hl]
    by_cases hx : M.w ≤ M.x
    · exact rbyte_wrap v M c w h ok hb1 hb2 hl.1 hl.2 hx
    · unfold Ref.letter
      rw [if_neg hx]
      exact rbyte_put v M c w h ok hb1 hb2 hl.1 hl.2 (by omega)
  rw [if_neg hl]
  by_cases h10 : c.toNat = 10
  · rw [if_pos h10, h10]; exact rbyte_10 v M w h ok hb1 hb2
  rw [if_neg h10]
  by_cases h13 : c.toNat = 13
  · rw [if_pos h13, h13]; exact rbyte_13 v M w h ok hb1 hb2
  rw [if_neg h13]
  by_cases h8 : c.toNat = 8
  · rw [if_pos h8, h8]; exact rbyte_8 v M w h ok hb1 hb2
  rw [if_neg h8]
  by_cases h9 : c.toNat = 9
  · rw [if_pos h9, h9]; exact rbyte_9 v M w h ok hb1 hb2
  rw [if_neg h9]
  by_cases h12 : c.toNat = 12
  · rw [if_pos h12, h12]; exact rbyte_12 v M w h ok hb1 hb2
  rw [if_neg h12]
  by_cases h27 : c.toNat = 27
  · rw [if_pos h27, h27]; exact rbyte_27 v M w h ok hb1 hb2
  rw [if_neg h27]
  exact rbyte_none v M c.toNat w h ok hb1 hb2 hl h10 h13 h8 h9 h12 h27

/-- what Byte leaves is right -/
theorem Ref.Ok.lay {M : Ref} (ok : M.Ok) (y f : Nat) (s : List UInt8) (hf : f + s.length ≤ M.w) (hy : y < M.h) : (M.lay y f s).Ok :=
  { ok with r := (by show (M.rows.set y _).length = M.h; rw [List.length_set]; exact ok.r), rw := lay_rows M y f s ok.rw hf (by rw [ok.r]; exact hy) }
theorem Ref.Ok.erase {M : Ref} (ok : M.Ok) (y a x : Nat) (hy : y < M.h) (hx : a = 0 ∨ a = 1 → x < M.w) : (M.erase y a x).Ok := by
  unfold Ref.erase
  split
  · rename_i h0
    have := hx (Or.inl h0)
    exact ok.lay y x _ (by rw [List.length_replicate]; omega) hy
  · split
    · rename_i h1
      have := hx (Or.inr h1)
      exact ok.lay y 0 _ (by rw [List.length_replicate]; omega) hy
    · exact ok.lay y 0 _ (by rw [List.length_replicate]; omega) hy
theorem Ref.Ok.wipeTo {M : Ref} (ok : M.Ok) (n k : Nat) (hk : k ≤ M.h) : (M.wipeTo n k).Ok := by
  induction k with
  | zero => exact ok
  | succ k ih =>
    unfold Ref.wipeTo
    split
    · exact (ih (by omega)).erase k 2 0 (by rw [(wipeTo_w M n k).2.1]; omega) (by omega)
    · exact ih (by omega)
theorem Ref.Ok.wipeAll {M : Ref} (ok : M.Ok) (k : Nat) (hk : k ≤ M.h) : (M.wipeAll k).Ok := by
  induction k with
  | zero => exact ok
  | succ k ih =>
    unfold Ref.wipeAll
    exact (ih (by omega)).erase k 2 0 (by rw [(wipeAll_w M k).2.1]; omega) (by omega)
theorem Ref.Ok.command {M : Ref} (ok : M.Ok) (e : Nat) : (M.command e).Ok := by
  have hx := ok.x; have hy := ok.y; have hw := ok.w1; have hh := ok.h1
  unfold Ref.command
  split
  · exact { ok with y := (by show M.y - _ < M.h; omega) }
  split
  · exact { ok with y := (by show min (M.h - 1) _ < M.h; omega) }
  split
  · exact { ok with x := (by show min (M.w - 1) _ ≤ M.w; omega) }
  split
  · exact { ok with x := (by show M.x - _ ≤ M.w; omega) }
  split
  · exact { ok with x := (by show min M.w _ - 1 ≤ M.w; omega), y := (by show min M.h _ - 1 < M.h; omega) }
  split
  · split
    · exact ok
    · have hww := wipeTo_w M (numL M.args 0) M.h
      exact (ok.wipeTo _ _ (Nat.le_refl _)).erase _ _ _ (by rw [hww.2.1]; exact hy) (by rw [hww.1]; omega)
  split
  · split
    · exact ok
    · exact ok.erase _ _ _ hy (by omega)
  · exact ok
theorem Ref.Ok.byte {M : Ref} (ok : M.Ok) (c : UInt8) : (M.byte c).Ok := by
  have hx := ok.x; have hy := ok.y; have hw := ok.w1; have hh := ok.h1
  have hnil : Digs [] := fun c hc => by cases hc
  unfold Ref.byte
  split
  · split
    · exact { ok with b := (by show 2 ≤ 2; omega), a := hnil }
    · exact { ok with b := (by show 0 ≤ 2; omega), a := hnil }
  split
  · split
    · refine { ok with a := fun d hd => ?_ }
      rcases List.mem_append.1 hd with h | h
      · exact ok.a d h
      · simp at h; rw [h]; omega
    split
    · have ok0 : ({ M with begun := 0 } : Ref).Ok := { ok with b := (by show 0 ≤ 2; omega) }
      exact { ok0.command c.toNat with a := hnil }
    · exact { ok with b := (by show 0 ≤ 2; omega), a := hnil }
  split
  · unfold Ref.letter
    split
    · have okd := ok.down
      have hf := down_fields M
      have h1 := okd.lay M.down.y M.down.x [c] (by rw [hf.1, hf.2.1]; simp; omega) okd.y
      exact { h1 with x := (by show M.down.x + 1 ≤ M.down.w; rw [hf.1, hf.2.1]; omega) }
    · have h1 := ok.lay M.y M.x [c] (by simp; omega) hy
      exact { h1 with x := (by show M.x + 1 ≤ M.w; omega) }
  split
  · exact ok.down
  split
  · exact { ok with x := Nat.zero_le _ }
  split
  · exact { ok with x := (by show M.x - 1 ≤ M.w; omega) }
  split
  · exact { ok with x := (by show max M.x (min _ (M.w - 1)) ≤ M.w; omega) }
  split
  · have h1 := ok.wipeAll M.h (Nat.le_refl _)
    exact { h1 with x := Nat.zero_le _, y := (by show 0 < (M.wipeAll M.h).h; rw [(wipeAll_w M M.h).2.1]; omega) }
  split
  · exact { ok with b := (by show 1 ≤ 2; omega) }
  · exact ok
def Ref.bytes (M : Ref) (l : List UInt8) : Ref := l.foldl Ref.byte M
theorem Ref.Ok.bytes {M : Ref} (ok : M.Ok) (l : List UInt8) : (M.bytes l).Ok := by
  unfold Ref.bytes
  induction l generalizing M with
  | nil => exact ok
  | cons c l ih => exact ih (ok.byte c)
end Go.Proofs.YtiefpodmdpnppaaDoor
