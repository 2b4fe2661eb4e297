/-
  WALKS of the statements of layer 25's short form: the examples, ImageJoins.
-/
import Derived.Test.YtdljlpialbebeaaImgY
namespace Go.Proofs.Ytdljlpialbebeaa
open Go.RowKit

def Law (w : World) (e : Ending) (w' : World) : Prop := e = .returned (.bool true) ∧ Below w.heap.size w w'

theorem str_of {s : ByteArray} {l : List UInt8} (h : s.data.toList = l) : s = ⟨l.toArray⟩ := by
  subst h; cases s; simp
theorem str_list (l : List UInt8) : (⟨l.toArray⟩ : ByteArray).data.toList = l := by simp
theorem str_size (s : ByteArray) : s.data.toList.length = s.size := by simp

theorem short_at (s r : ByteArray) (h : r.data.toList = short s.data.toList) (w : World) (hs : s.size ≤ 65536) :
    Calls Try.prog 9 #[.string s] w fun e w' => e = .returned (.string r) ∧ Below w.heap.size w w' := by
  rw [str_of h]; exact short_walk s w hs
theorem long_at (s r : ByteArray) (c : Nat) (h : long s.data.toList = (r.data.toList, c)) (w : World) (hs : s.size ≤ maxLen) :
    Calls Try.prog 8 #[.string s] w fun e w' => e = .returned (.tuple #[.string r, .int .i64 c]) ∧ Below w.heap.size w w' := by
  have e : r = ⟨(long s.data.toList).1.toArray⟩ := by rw [h]
  have e2 : c = (long s.data.toList).2 := by rw [h]
  rw [e, e2]
  by_cases hl : s.size ≤ 131072
  · exact long_walk s w hl
  · exact long_walk_long s w hs (by omega)

theorem ex1 : short [7, 7, 7, 7, 1, 2] = [129, 7, 1, 1, 2] := by decide +kernel
theorem ex2 : long [0, 9, 128, 5] = ([9, 5, 5, 5], 0) := by decide +kernel
theorem ex3 : ((⟨#[129, 7, 1, 1, 2]⟩ : ByteArray).toList == [129, 7, 1, 1, 2]) = true := by decide +kernel
theorem ex4 : ((⟨#[9, 5, 5, 5]⟩ : ByteArray).toList == [9, 5, 5, 5]) = true := by decide +kernel

theorem awake_any (w : World) : Calls Try.prog 7 #[] w (Law w) := by
  have h3 := ex3
  have h4 := ex4
  go_enter Try.func7, Try.ntmps7
  go_wp2_with fail
  refine (long_at ⟨#[0, 9, 128, 5]⟩ ⟨#[9, 5, 5, 5]⟩ 0 ex2 _ (by decide)).mono ?_
  rintro e w1 ⟨rfl, h1⟩
  go_wp2_with fail
  refine (short_at ⟨#[7, 7, 7, 7, 1, 2]⟩ ⟨#[129, 7, 1, 1, 2]⟩ ex1.symm _ (by decide)).mono ?_
  rintro e w2 ⟨rfl, h2⟩
  go_wp2_with fail
  go_ret
  exact ⟨rfl, below_next h1 h2⟩

set_option maxHeartbeats 600000 in
theorem joins_big (a b : ByteArray) (w : World) (ha : a.size ≤ maxLen) (hb : b.size ≤ maxLen) (h : 5000 < a.size ∨ 5000 < b.size) :
    Calls Try.prog 3 #[.string a, .string b] w (Law w) := by
  unfold maxLen at ha hb
  by_cases h1 : 5000 < a.size
  · clear h
    go_enter Try.func3, Try.ntmps3
    go_wp2_with (go_at_call 7; refine (awake_any _).mono ?_; rintro e w1 ⟨rfl, h1⟩)
    go_ret
    exact ⟨rfl, h1⟩
  · have h2 : 5000 < b.size := by omega
    clear h
    go_enter Try.func3, Try.ntmps3
    go_wp2_with (go_at_call 7; refine (awake_any _).mono ?_; rintro e w1 ⟨rfl, h1⟩)
    go_ret
    exact ⟨rfl, h1⟩

set_option maxHeartbeats 600000 in
theorem joins_walk (a b : ByteArray) (w : World) (ha : a.size ≤ 5000) (hb : b.size ≤ 5000) :
    Calls Try.prog 3 #[.string a, .string b] w (Law w) := by
  have l1 := short_len a.data.toList
  have l2 := short_len b.data.toList
  have hj := long_joins a.data.toList b.data.toList (by rw [str_size, str_size]; omega)
  rw [str_size] at l1 l2
  obtain ⟨x, hx⟩ : ∃ x : ByteArray, x.data.toList = short a.data.toList := ⟨⟨(short a.data.toList).toArray⟩, str_list _⟩
  obtain ⟨y, hy⟩ : ∃ y : ByteArray, y.data.toList = short b.data.toList := ⟨⟨(short b.data.toList).toArray⟩, str_list _⟩
  rw [← hx] at l1 hj
  rw [← hy] at l2 hj
  rw [str_size] at l1 l2
  have HX := Lib.hid hx; have HY := Lib.hid hy
  have HJ : Hid (long (x ++ y).data.toList = ((a ++ b).data.toList, 0)) := by
    show _ = _
    have e1 : (x ++ y).data.toList = x.data.toList ++ y.data.toList := by simp
    have e2 : (a ++ b).data.toList = a.data.toList ++ b.data.toList := by simp
    rw [e1, e2]; exact hj
  clear hx hy hj
  have hsz : (x ++ y).size = x.size + y.size := by simp
  have HSZ : Hid ((x ++ y).size ≤ maxLen) := by show _ ≤ _; rw [hsz]; unfold maxLen; omega
  clear hsz
  go_enter Try.func3, Try.ntmps3
  go_wp2_with fail
  refine (short_at a x HX.out _ (by omega)).mono ?_
  rintro e w1 ⟨rfl, h1⟩
  go_wp2_with fail
  refine (short_at b y HY.out _ (by omega)).mono ?_
  rintro e w2 ⟨rfl, h2⟩
  go_wp2_with fail
  refine (long_at (x ++ y) (a ++ b) 0 HJ.out _ HSZ.out).mono ?_
  rintro e w3 ⟨rfl, h3⟩
  go_wp2_with fail
  refine (awake_any _).mono ?_
  rintro e w4 ⟨rfl, h4⟩
  go_wp2_with fail
  go_ret
  exact ⟨rfl, below_next (below_next (below_next h1 h2) h3) h4⟩

theorem joins_all (a b : ByteArray) (w : World) (ha : a.size ≤ maxLen) (hb : b.size ≤ maxLen) :
    Calls Try.prog 3 #[.string a, .string b] w (Law w) := by
  by_cases h : a.size ≤ 5000 ∧ b.size ≤ 5000
  · exact joins_walk a b w h.1 h.2
  · exact joins_big a b w ha hb (by omega)
end Go.Proofs.Ytdljlpialbebeaa
