/-
  WALKS of layer 25's short form: run, Short.
-/
import Derived.Test.YtdljlpialbebeaaRows
import Derived.Test.YtdljlpialbebeaaImgP
import Derived.Test.YtdljlpialbebeaaBld
import Derived.WalkKit
import Derived.WalkSpells
import Derived.WalkLawsBesides
import Derived.BigQuiet
import Derived.Deep.QuietTactic
import Derived.Lib.Hide
import Derived.IntWalk
namespace Go.Proofs.Ytdljlpialbebeaa
open Go.RowKit

theorem below_next {a w w' : World} (h : Below a.heap.size a w) (h2 : Below w.heap.size w w') : Below a.heap.size a w' := h.trans (h2.mono h.size)

theorem runGo_yes {l : List UInt8} {k : Nat} (h1 : k < 130) (h2 : k < l.length) (h3 : l.getD k 0 = l.getD 0 0) : runGo 130 l (131 - k) k = runGo 130 l (131 - (k + 1)) (k + 1) := by
  rw [show 131 - k = (131 - (k + 1)) + 1 by omega, runGo, if_pos ⟨h1, h2, h3⟩]
theorem runGo_no {l : List UInt8} {k : Nat} (hk : k ≤ 130) (h : ¬ (k < 130 ∧ k < l.length ∧ l.getD k 0 = l.getD 0 0)) : runGo 130 l (131 - k) k = k := by
  rw [show 131 - k = (131 - (k + 1)) + 1 by omega, runGo, if_neg h]

/-- the byte at a place -/
def byteAt (s : ByteArray) (k : Nat) : Int := ((s.data.toList.getD k 0).toNat : Int)
theorem byteAt_bd (s : ByteArray) (k : Nat) : 0 ≤ byteAt s k ∧ byteAt s k ≤ 255 := by
  have := (s.data.toList.getD k 0).toNat_lt
  unfold byteAt
  omega
theorem idx_str {P : Program} {t : TypeId} (h : P.underlying t = some .string) (s : ByteArray) (k : Nat) (n : Int) (hn : n = k) (hk : k < s.size) :
    ∀ w : World, (Instr.index t (.string s) (.int .i64 n)).run P w = .ok (.int .u8 (byteAt s k)) w := by
  intro w
  subst hn
  rw [run_index_string w t s .i64 k h, dif_pos ⟨by omega, by omega⟩]
  have hl : k < s.data.toList.length := by simpa using hk
  have e : (s[(k : Int).toNat]'(by simpa using hk)) = s.data.toList.getD k 0 := by
    rw [List.getD_eq_getElem?_getD, List.getElem?_eq_getElem hl]
    simp only [Int.toNat_natCast, Option.getD_some]
    rfl
  rw [e]
  rfl

set_option maxHeartbeats 400000 in
theorem run_any (s : ByteArray) (i : Nat) (w : World) (hs : s.size ≤ 65536) (hi : i < s.size) :
    Calls Try.prog 16 #[.string s, .int .i64 i] w fun e w' => e = .returned (.int .i64 (runL (s.data.toList.drop i))) ∧ Below w.heap.size w w' := by
  go_enter Try.func16, Try.ntmps16
  go_wp2_with fail
  go_loopw [5] (fun n wr => ∃ k : Nat, 1 ≤ k ∧ k ≤ 130 ∧ n = .int .i64 k ∧ Hid (runGo 130 (s.data.toList.drop i) (131 - k) k = runL (s.data.toList.drop i)) ∧ Below w.heap.size w wr) (fun n _ => 130 - (intOf n).toNat)
  case atStart => exact ⟨1, by omega, by omega, rfl, rfl, Below.refl _ _⟩
  case round =>
    obtain ⟨k, hk1, hk2, rfl, hinv, hb⟩ := hrel
    by_cases h1 : k < 130
    · have h1' : decide ((k : Int) < 130) = true := by simp; omega
      by_cases h2 : i + k < s.size
      · have h2' : decide ((i : Int) + (k : Int) < (s.size : Int)) = true := by simp; omega
        have hw1 : IntKind.i64.wrap ((i : Int) + (k : Int)) = (i : Int) + (k : Int) := IntWalk.i64_in _ (by omega)
        have hw2 : (0 : Int) ≤ (i : Int) + (k : Int) := by omega
        have hw3 : ((i : Int) + (k : Int)).toNat = i + k := by omega
        have hx1 := idx_str Try.underlying9 s (i + k) ((i : Int) + (k : Int)) (by omega) h2
        have hx2 := idx_str Try.underlying9 s i (i : Int) rfl hi
        have hl : k < (s.data.toList.drop i).length := by simp; omega
        have e1 : (s.data.toList.drop i).getD k 0 = s.data.toList.getD (i + k) 0 := by simp [List.getD]
        have e0 : (s.data.toList.drop i).getD 0 0 = s.data.toList.getD i 0 := by simp [List.getD]
        by_cases h3 : s.data.toList.getD (i + k) 0 = s.data.toList.getD i 0
        · have h3' : (byteAt s (i + k) == byteAt s i) = true := by rw [byteAt, byteAt, h3]; simp
          have hgo := Lib.hid (runGo_yes h1 hl (by rw [e1, e0, h3]))
          clear e1 e0 h3
          go_wp2_with fail
          go_quiet (fail)
          clear hw1 hw2 hw3
          go_wp2_with fail
          go_roundw
          case rel => exact ⟨k + 1, by omega, by omega, by go_num, hgo.out.symm.trans hinv.out, below_drewN hb _⟩
          case measure => simp [intOf]; omega
        · have h3' : (byteAt s (i + k) == byteAt s i) = false := by
            simp only [byteAt, beq_eq_false_iff_ne, ne_eq]
            intro h
            exact h3 (UInt8.toNat_inj.1 (by omega))
          have hgo := Lib.hid (runGo_no (l := s.data.toList.drop i) hk2 (fun h => h3 (by rw [← e1, ← e0]; exact h.2.2)))
          clear e1 e0 h3
          go_wp2_with fail
          go_quiet (fail)
          clear hw1 hw2 hw3
          go_wp2_with fail
          go_ret
          exact ⟨by rw [← hinv.out, hgo.out]; rfl, below_drewN hb _⟩
      · have h2' : decide ((i : Int) + (k : Int) < (s.size : Int)) = false := by simp; omega
        have hw1 : IntKind.i64.wrap ((i : Int) + (k : Int)) = (i : Int) + (k : Int) := IntWalk.i64_in _ (by omega)
        have hgo := Lib.hid (runGo_no (l := s.data.toList.drop i) hk2 (fun h => h2 (by have := h.2.1; simp at this; omega)))
        go_wp2_with fail
        go_quiet (fail)
        clear hw1
        go_wp2_with fail
        go_ret
        exact ⟨by rw [← hinv.out, hgo.out]; rfl, below_drewN hb _⟩
    · have h1' : decide ((k : Int) < 130) = false := by simp; omega
      have hgo := Lib.hid (runGo_no (l := s.data.toList.drop i) hk2 (fun h => h1 h.1))
      go_wp2_with fail
      go_quiet (fail)
      go_wp2_with fail
      go_ret
      exact ⟨by rw [← hinv.out, hgo.out]; rfl, below_drewN hb _⟩
end Go.Proofs.Ytdljlpialbebeaa
