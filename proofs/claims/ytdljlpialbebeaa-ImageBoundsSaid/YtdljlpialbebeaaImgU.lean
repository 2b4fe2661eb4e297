/-
  WALK of the statement ImageShorts.
-/
import Derived.Test.YtdljlpialbebeaaImgT
import Derived.Lib.BufferRead
namespace Go.Proofs.Ytdljlpialbebeaa
open Go.RowKit

theorem conv8 {w : World} {B : Nat} {v : Value} {acc : List UInt8} (h : Own8 w B v acc) (r : ByteArray) (hr : r.data.toList = acc) :
    (convert 28 9 v).run Try.prog w = .ok (.string r) w := by
  have hr2 := str_of hr
  rcases h.2 with ⟨rfl, h0⟩ | ⟨g, cap, cur, rfl, _, _, _⟩
  · have : acc = [] := List.length_eq_zero_iff.1 h0
    subst this
    rw [Lib.run_convert_nil_bytes w 28 9 5 0 Try.underlying28 Try.underlying5 Try.underlying9, hr2]
  · rw [run_convert_bytes_back w 28 9 5 ⟨g, 0, none⟩ cap acc Try.underlying28 Try.underlying5 Try.underlying9 ?_, hr2]
    intro j hj
    refine World.ownsRow.cells h (g := g) rfl j _ ?_
    unfold Lib.byteCells
    rw [List.getElem?_map, List.getElem?_eq_getElem hj]
    rfl

theorem bytes_below (w : World) (s : ByteArray) : Below w.heap.size w (Lib.bytesWorld w 5 s) :=
  ⟨rfl, rfl, rfl, by rw [Lib.bytesWorld_size]; omega, fun k hk => Lib.bytesWorld_at_old w _ s k hk⟩
theorem bytes_row (w : World) (s : ByteArray) : Row8 (Lib.bytesWorld w 5 s) w.heap.size s.data.toList :=
  ⟨by rw [Lib.bytesWorld_size]; omega, fun j hj => Lib.bytesWorld_cell w _ s j (by simpa using hj)⟩
theorem cap_ge (w : World) (n m : Nat) (e : TypeId) : n ≤ grownCap w n m e := by
  unfold grownCap Question.cut
  simp

theorem errs_eq (c : Nat) : ((c : Int) == (c : Int)) = true := by simp

set_option maxHeartbeats 600000 in
theorem shorts_big (a b : ByteArray) (w : World) (ha : a.size ≤ maxLen) (hb : b.size ≤ maxLen) (h : 5000 < a.size ∨ 3000 < b.size) :
    Calls Try.prog 4 #[.string a, .string b] w (Law w) := by
  unfold maxLen at ha hb
  by_cases h1 : 5000 < a.size
  · clear h
    go_enter Try.func4, Try.ntmps4
    go_wp2_with (go_at_call 7; refine (awake_any _).mono ?_; rintro e w1 ⟨rfl, h1⟩)
    go_ret
    exact ⟨rfl, h1⟩
  · have h2 : 3000 < b.size := by omega
    clear h
    go_enter Try.func4, Try.ntmps4
    go_wp2_with (go_at_call 7; refine (awake_any _).mono ?_; rintro e w1 ⟨rfl, h1⟩)
    go_ret
    exact ⟨rfl, h1⟩

set_option maxRecDepth 100000 in
set_option maxHeartbeats 1000000 in
theorem shorts_walk (a s : ByteArray) (w : World) (ha : a.size ≤ 5000) (hs : s.size ≤ 3000) :
    Calls Try.prog 4 #[.string a, .string s] w (Law w) := by
  obtain ⟨x, hx⟩ : ∃ x : ByteArray, x.data.toList = (long s.data.toList).1 := ⟨⟨(long s.data.toList).1.toArray⟩, str_list _⟩
  obtain ⟨c, hc⟩ : ∃ c : Nat, (long s.data.toList).2 = c := ⟨_, rfl⟩
  obtain ⟨y, hy⟩ : ∃ y : ByteArray, y.data.toList = short a.data.toList := ⟨⟨(short a.data.toList).toArray⟩, str_list _⟩
  have HX := Lib.hid hx; have HC := Lib.hid hc; have HY := Lib.hid hy
  clear hx hc hy
  have hxl : Hid (long s.data.toList = (x.data.toList, c)) := by show _ = _; rw [HX.out, ← HC.out]
  have hcv := fun (w : World) => Lib.run_convert_string_bytes (P := Try.prog) w 9 28 5 s Try.underlying9 Try.underlying28 Try.underlying5
  have hcv2 := fun (w : World) => Lib.run_convert_string_bytes (P := Try.prog) w 9 28 5 a Try.underlying9 Try.underlying28 Try.underlying5
  go_enter Try.func4, Try.ntmps4
  go_wp2_with fail
  refine (long_at s x c hxl.out _ (by unfold maxLen; omega)).mono ?_
  rintro e w1 ⟨rfl, h1⟩
  go_wp2_with fail
  refine (refLong_walk w1.heap.size s.size (grownCap w1 s.size 0 5) s.data.toList (Lib.bytesWorld w1 5 s) (str_size s) (by omega) (cap_ge _ _ _ _) (bytes_row w1 s)).mono ?_
  rintro e w2 ⟨v, rfl, hown, h2⟩
  rw [HC.out]
  have hb2 : Below w.heap.size w w2 := below_next (below_next h1 (bytes_below w1 s)) h2
  generalize (Lib.bytesWorld w1 5 s).heap.size = B2 at hown
  clear h1 h2 hcv
  go_wp2_with fail
  refine (awake_any _).mono ?_
  rintro e w3 ⟨rfl, h3⟩
  go_wp2_with fail
  refine (short_at a y HY.out _ (by omega)).mono ?_
  rintro e w4 ⟨rfl, h4⟩
  have hown4 := (hown.next h3).next h4
  have hb4 := below_next (below_next hb2 h3) h4
  clear hown hb2 h3 h4
  go_wp2_with fail
  refine (refShort_walk w4.heap.size a.size (grownCap w4 a.size 0 5) a.data.toList (Lib.bytesWorld w4 5 a) (str_size a) (by omega) (cap_ge _ _ _ _) (bytes_row w4 a)).mono ?_
  rintro e w5 ⟨v5, rfl, hown5, h5⟩
  have hown6 := (hown4.next (bytes_below w4 a)).next h5
  have hb5 : Below w.heap.size w w5 := below_next (below_next hb4 (bytes_below w4 a)) h5
  have k1 := conv8 hown5 y HY.out
  have k2 := conv8 hown6 x HX.out
  clear hown4 hown5 hown6 hb4 h5 hcv2
  go_wp2_with fail
  go_ret
  exact ⟨rfl, hb5⟩

theorem shorts_all (a s : ByteArray) (w : World) (ha : a.size ≤ maxLen) (hs : s.size ≤ maxLen) :
    Calls Try.prog 4 #[.string a, .string s] w (Law w) := by
  by_cases h : a.size ≤ 5000 ∧ s.size ≤ 3000
  · exact shorts_walk a s w h.1 h.2
  · exact shorts_big a s w ha hs (by omega)
end Go.Proofs.Ytdljlpialbebeaa
