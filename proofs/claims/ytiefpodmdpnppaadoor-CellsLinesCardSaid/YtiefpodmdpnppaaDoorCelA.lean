/-
  WALKS of layer 56: fits; what of the library it calls: slices.Clone, bytes.Repeat of one byte.
-/
import Derived.Test.YtiefpodmdpnppaaDoorRows
import Derived.Test.YtiefpodmdpnppaaDoorMem
import Derived.Test.YtiefpodmdpnppaaDoorMul
import Derived.WalkSpells
import Derived.WalkLawsBesides
import Derived.BigQuiet
import Derived.Deep.QuietTactic
import Derived.StillTailTactics
import Derived.Laws.CopyOwn
import Derived.Lib.MakeNoZero
import Derived.Lib.UnsafeStr
import Derived.Lib.SlBytesRow
import Derived.IntWalk
import Derived.Lib.SliceRun
namespace Go.Proofs.YtiefpodmdpnppaaDoor
open Go.RowKit

def fitsB (c r : Int) : Bool := decide (1 ≤ c) && decide (c ≤ 128) && decide (1 ≤ r) && decide (r ≤ 64)
theorem fits_any (c r : Int) (w : World) :
    Calls Tryd.prog 35 #[.int .i64 c, .int .i64 r] w fun e w' => e = .returned (.bool (fitsB c r)) ∧ w = w' := by
  by_cases h1 : 1 ≤ c
  · by_cases h2 : c ≤ 128
    · by_cases h3 : 1 ≤ r
      · by_cases h4 : r ≤ 64
        · rw [show fitsB c r = true from by simp [fitsB, h1, h2, h3, h4]]
          go_enter Tryd.func35, Tryd.ntmps35
          go_wp2
          go_ret
          exact ⟨rfl, rfl⟩
        · rw [show fitsB c r = false from by simp [fitsB]; omega]
          go_enter Tryd.func35, Tryd.ntmps35
          go_wp2
          go_ret
          exact ⟨rfl, rfl⟩
      · rw [show fitsB c r = false from by simp [fitsB]; omega]
        go_enter Tryd.func35, Tryd.ntmps35
        go_wp2
        go_ret
        exact ⟨rfl, rfl⟩
    · rw [show fitsB c r = false from by simp [fitsB]; omega]
      go_enter Tryd.func35, Tryd.ntmps35
      go_wp2
      go_ret
      exact ⟨rfl, rfl⟩
  · rw [show fitsB c r = false from by simp [fitsB]; omega]
    go_enter Tryd.func35, Tryd.ntmps35
    go_wp2
    go_ret
    exact ⟨rfl, rfl⟩

theorem info8 : (Tryd.prog.info? 5).map (fun i => (i.zero, i.size, i.bytes)) = some (some (.int .u8 0), 1, 1) := by kernel_rfl
theorem infoS : (Tryd.prog.info? 9).map (fun i => (i.zero, i.size, i.bytes)) = some (some (.string ⟨#[]⟩), 1, 16) := by kernel_rfl

def OwnPost (w : World) (e : TypeId) (n : Nat) (xs : List Value) (r : Ending) (w' : World) : Prop := ∃ v, r = .returned v ∧ Own w' w.heap.size e 1 v n xs ∧ Below w.heap.size w w'

theorem build_nil (w : World) (e : TypeId) : Own (w.alloc (.cells #[] e)) w.heap.size e 1 (.slice (some ⟨w.heap.size, 0, none⟩) 0 0) 0 [] := ⟨by simp, Or.inl ⟨_, rfl, rfl, Or.inr ⟨_, _, rfl⟩⟩⟩

/- CLONE -/

theorem clone8_some (b o n c : Nat) (xs : List Value) (w : World) (h : Rd w 1 (.slice (some ⟨b, o, none⟩) n c) n xs) (h1 : ∀ u ∈ xs, u.oneCell' = true) (hn : n ≤ 65536) :
    Calls Tryd.prog 25 #[.slice (some ⟨b, o, none⟩) n c] w (OwnPost w 5 n xs) := by
  obtain ⟨i0, hi, hz0, hz1, hz2⟩ := info_parts info8
  have HI := Lib.hid hi; have HZ0 := Lib.hid hz0; have HZ1 := Lib.hid hz1; have HZ2 := Lib.hid hz2; have H := Lib.hid h; have H1 := Lib.hid h1
  clear hi hz0 hz1 hz2 h h1
  have hnil := fun w : World => Lib.run_eql_slice_nil (P := Tryd.prog) w 24 5 (some ⟨b, o, none⟩) n c 0 0 Tryd.underlying24
  go_enter Tryd.func25, Tryd.ntmps25
  go_wp2_with (at_builtin; refine wpList_app _ rfl (.tmp 5) (.tmp 6) 24 24 rfl w.heap.size 5 i0 _ 1 1 Tryd.underlying24 HI.out HZ0.out HZ1.out HZ2.out rfl _ 0 [] rfl ?c1 _ rfl n xs ?c2 ?c3 ?c4 ?c5 ?_)
  case c1 => exact build_nil w _
  case c2 => exact (H.out.next ((Below.refl _ _).alloc (Nat.le_refl _) _)).src _ Tryd.underlying24 H1.out
  case c3 => unfold maxLen; omega
  case c4 => omega
  case c5 => simp
  intro v' w' hown _ hb _
  go_wp2_with fail
  go_ret
  exact ⟨v', rfl, hown, ((Below.refl _ _).alloc (Nat.le_refl _) _).trans hb⟩
theorem clone8_nil (w : World) :
    Calls Tryd.prog 25 #[.slice none 0 0] w (OwnPost w 5 0 []) := by
  have hnil := fun w : World => Lib.run_eql_slice_nil (P := Tryd.prog) w 24 5 none 0 0 0 0 Tryd.underlying24
  go_enter Tryd.func25, Tryd.ntmps25
  go_wp2
  go_ret
  exact ⟨_, rfl, Own.nil _ _ _ _, Below.refl _ _⟩
theorem clone8_any (v : Value) (n : Nat) (xs : List Value) (w : World) (h : Rd w 1 v n xs) (h1 : ∀ u ∈ xs, u.oneCell' = true) (hn : n ≤ 65536) (hv : ∀ c, v = .slice none n c → c = 0) :
    Calls Tryd.prog 25 #[v] w (OwnPost w 5 n xs) := by
  obtain ⟨hl, A, c, rfl, hle, hmx, hA, hc⟩ := id h
  rcases hA with rfl | ⟨b, o, rfl⟩
  · obtain rfl := hv c rfl
    obtain rfl : n = 0 := by omega
    obtain rfl : xs = [] := List.eq_nil_of_length_eq_zero (by simpa using hl)
    exact clone8_nil w
  · exact clone8_some b o n c xs w h h1 hn

theorem cloneS_some (b o n c : Nat) (xs : List Value) (w : World) (h : Rd w 1 (.slice (some ⟨b, o, none⟩) n c) n xs) (h1 : ∀ u ∈ xs, u.oneCell' = true) (hn : n ≤ 65536) :
    Calls Tryd.prog 26 #[.slice (some ⟨b, o, none⟩) n c] w (OwnPost w 9 n xs) := by
  obtain ⟨i0, hi, hz0, hz1, hz2⟩ := info_parts infoS
  have HI := Lib.hid hi; have HZ0 := Lib.hid hz0; have HZ1 := Lib.hid hz1; have HZ2 := Lib.hid hz2; have H := Lib.hid h; have H1 := Lib.hid h1
  clear hi hz0 hz1 hz2 h h1
  have hnil := fun w : World => Lib.run_eql_slice_nil (P := Tryd.prog) w 26 9 (some ⟨b, o, none⟩) n c 0 0 Tryd.underlying26
  go_enter Tryd.func26, Tryd.ntmps26
  go_wp2_with (at_builtin; refine wpList_app _ rfl (.tmp 5) (.tmp 6) 26 26 rfl w.heap.size 9 i0 _ 1 16 Tryd.underlying26 HI.out HZ0.out HZ1.out HZ2.out rfl _ 0 [] rfl ?c1 _ rfl n xs ?c2 ?c3 ?c4 ?c5 ?_)
  case c1 => exact build_nil w _
  case c2 => exact (H.out.next ((Below.refl _ _).alloc (Nat.le_refl _) _)).src _ Tryd.underlying26 H1.out
  case c3 => unfold maxLen; omega
  case c4 => omega
  case c5 => simp
  intro v' w' hown _ hb _
  go_wp2_with fail
  go_ret
  exact ⟨v', rfl, hown, ((Below.refl _ _).alloc (Nat.le_refl _) _).trans hb⟩
theorem cloneS_nil (w : World) :
    Calls Tryd.prog 26 #[.slice none 0 0] w (OwnPost w 9 0 []) := by
  have hnil := fun w : World => Lib.run_eql_slice_nil (P := Tryd.prog) w 26 9 none 0 0 0 0 Tryd.underlying26
  go_enter Tryd.func26, Tryd.ntmps26
  go_wp2
  go_ret
  exact ⟨_, rfl, Own.nil _ _ _ _, Below.refl _ _⟩
theorem cloneS_any (v : Value) (n : Nat) (xs : List Value) (w : World) (h : Rd w 1 v n xs) (h1 : ∀ u ∈ xs, u.oneCell' = true) (hn : n ≤ 65536) (hv : ∀ c, v = .slice none n c → c = 0) :
    Calls Tryd.prog 26 #[v] w (OwnPost w 9 n xs) := by
  obtain ⟨hl, A, c, rfl, hle, hmx, hA, hc⟩ := id h
  rcases hA with rfl | ⟨b, o, rfl⟩
  · obtain rfl := hv c rfl
    obtain rfl : n = 0 := by omega
    obtain rfl : xs = [] := List.eq_nil_of_length_eq_zero (by simpa using hl)
    exact cloneS_nil w
  · exact cloneS_some b o n c xs w h h1 hn
end Go.Proofs.YtiefpodmdpnppaaDoor
