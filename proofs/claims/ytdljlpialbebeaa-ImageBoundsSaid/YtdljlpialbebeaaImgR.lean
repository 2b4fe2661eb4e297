/-
  WALKS of layer 25's reference: alike.
-/
import Derived.Test.YtdljlpialbebeaaImgL
import Derived.Lib.SlBytesRow
import Derived.Lib.ConvBytes
import Derived.Laws.IdiomStrings
namespace Go.Proofs.Ytdljlpialbebeaa
open Go.RowKit

/-- block b's first cells are these bytes -/
def byteL (l : List UInt8) (j : Nat) : Int := ((l.getD j 0).toNat : Int)
def Row8 (w : World) (b : Nat) (l : List UInt8) : Prop := b < w.heap.size ∧ ∀ j, j < l.length → w.cell? ⟨b, j, none⟩ = some (.int .u8 (byteL l j))
theorem Row8.next {w w' : World} {b : Nat} {l : List UInt8} (h : Row8 w b l) (hb : Below w.heap.size w w') : Row8 w' b l :=
  ⟨Nat.lt_of_lt_of_le h.1 hb.size, fun j hj => by rw [hb.cell (p := ⟨b, j, none⟩) h.1]; exact h.2 j hj⟩
theorem Row8.below {B : Nat} {w w' : World} {b : Nat} {l : List UInt8} (h : Row8 w b l) (hb : Below B w w') (hB : b < B) : Row8 w' b l :=
  ⟨Nat.lt_of_lt_of_le h.1 hb.size, fun j hj => by rw [hb.cell (p := ⟨b, j, none⟩) hB]; exact h.2 j hj⟩

theorem alikeGo_yes {l : List UInt8} {k : Nat} (h2 : k < l.length) (h3 : l.getD k 0 = l.getD 0 0) : runGo (l.length + 1) l (l.length + 1 - k) k = runGo (l.length + 1) l (l.length + 1 - (k + 1)) (k + 1) := by
  rw [show l.length + 1 - k = (l.length + 1 - (k + 1)) + 1 by omega, runGo, if_pos ⟨by omega, h2, h3⟩]
theorem alikeGo_no {l : List UInt8} {k : Nat} (hk : k ≤ l.length) (h : ¬ (k < l.length ∧ l.getD k 0 = l.getD 0 0)) : runGo (l.length + 1) l (l.length + 1 - k) k = k := by
  rw [show l.length + 1 - k = (l.length + 1 - (k + 1)) + 1 by omega, runGo, if_neg (fun h' => h h'.2)]

set_option maxHeartbeats 400000 in
theorem alike_any (b n cap at_ : Nat) (l : List UInt8) (w : World) (hl : l.length = n) (hn : n ≤ 131072) (hat : at_ < n) (hrow : Row8 w b l) :
    Calls Try.prog 18 #[.slice (some ⟨b, 0, none⟩) n cap, .int .i64 at_] w fun e w' => e = .returned (.int .i64 (alikeL (l.drop at_))) ∧ Below w.heap.size w w' := by
  have hdl : Hid ((l.drop at_).length = n - at_) := by show _ = _; rw [List.length_drop, hl]
  have HL := Lib.hid hl; clear hl
  have HROW := Lib.hid hrow; clear hrow
  go_enter Try.func18, Try.ntmps18
  go_wp2_with fail
  go_loopw [5] (fun nv wr => ∃ k : Nat, k ≤ n - at_ ∧ nv = .int .i64 k ∧ Hid (runGo ((l.drop at_).length + 1) (l.drop at_) ((l.drop at_).length + 1 - k) k = alikeL (l.drop at_)) ∧ Hid (Row8 wr b l) ∧ Below w.heap.size w wr) (fun nv _ => n - (intOf nv).toNat)
  case atStart => exact ⟨0, by omega, rfl, rfl, HROW, Below.refl _ _⟩
  case round =>
    obtain ⟨k, hk, rfl, hinv, hR, hb⟩ := hrel
    have hw1 : IntKind.i64.wrap ((at_ : Int) + (k : Int)) = (at_ : Int) + (k : Int) := IntWalk.i64_in _ (by omega)
    by_cases h2 : at_ + k < n
    · have h2' : decide ((at_ : Int) + (k : Int) < (n : Int)) = true := by simp; omega
      have hw2 : (0 : Int) ≤ (at_ : Int) + (k : Int) := by omega
      have hw3 : ((at_ : Int) + (k : Int)).toNat = at_ + k := by omega
      have hw4 : (at_ : Int) + (k : Int) < (n : Int) := by omega
      have hw5 : (at_ : Int) < (n : Int) := by omega
      have hc1 := hR.out.2 (at_ + k) (by rw [HL.out]; exact h2)
      have hc2 := hR.out.2 at_ (by rw [HL.out]; exact hat)
      have e1 : (l.drop at_).getD k 0 = l.getD (at_ + k) 0 := by simp [List.getD]
      have e0 : (l.drop at_).getD 0 0 = l.getD at_ 0 := by simp [List.getD]
      by_cases h3 : l.getD (at_ + k) 0 = l.getD at_ 0
      · have h3' : (byteL l (at_ + k) == byteL l at_) = true := by rw [byteL, byteL, h3]; simp
        have hgo := Lib.hid (alikeGo_yes (l := l.drop at_) (k := k) (by rw [hdl.out]; omega) (by rw [e1, e0, h3]))
        clear e1 e0 h3
        go_wp2_with fail
        go_quiet (fail)
        clear hw1 hw2 hw3
        go_wp2_with fail
        go_roundw
        case rel => exact ⟨k + 1, by omega, by go_num, hgo.out.symm.trans hinv.out, hR.out, below_drewN hb _⟩
        case measure => simp [intOf]; omega
      · have h3' : (byteL l (at_ + k) == byteL l at_) = false := by
          simp only [byteL, beq_eq_false_iff_ne, ne_eq]
          intro h
          exact h3 (UInt8.toNat_inj.1 (by omega))
        have hgo := Lib.hid (alikeGo_no (l := l.drop at_) (k := k) (by rw [hdl.out]; omega) (fun h => h3 (by rw [← e1, ← e0]; exact h.2)))
        clear e1 e0 h3
        go_wp2_with fail
        go_quiet (fail)
        clear hw1 hw2 hw3
        go_wp2_with fail
        go_ret
        exact ⟨by rw [← hinv.out, hgo.out]; rfl, below_drewN hb _⟩
    · have h2' : decide ((at_ : Int) + (k : Int) < (n : Int)) = false := by simp; omega
      have hgo := Lib.hid (alikeGo_no (l := l.drop at_) (k := k) (by rw [hdl.out]; omega) (fun h => h2 (by have := h.1; rw [hdl.out] at this; omega)))
      go_wp2_with fail
      go_quiet (fail)
      clear hw1
      go_wp2_with fail
      go_ret
      exact ⟨by rw [← hinv.out, hgo.out]; rfl, below_drewN hb _⟩
end Go.Proofs.Ytdljlpialbebeaa
