/-
  WALKS of the statements ImageBack and ImageBounds.
-/
import Derived.Test.YtdljlpialbebeaaImgU
namespace Go.Proofs.Ytdljlpialbebeaa
open Go.RowKit

/-- k bytes p, the rest of n zero -/
def fillA (p : UInt8) (n k : Nat) : Array Value := (Lib.byteCells (List.replicate k p ++ List.replicate (n - k) 0)).toArray
theorem fillA_size (p : UInt8) (n k : Nat) (hk : k ≤ n) : (fillA p n k).size = n := by
  unfold fillA
  rw [List.size_toArray, Lib.byteCells_length, List.length_append, List.length_replicate, List.length_replicate]; omega
theorem fillA_at (p : UInt8) (n k : Nat) (hk : k < n) : (fillA p n k)[k]? = some (.int .u8 0) := by
  unfold fillA Lib.byteCells
  rw [List.getElem?_toArray, List.getElem?_map, List.getElem?_append_right (by simp)]
  simp [List.getElem?_replicate]
  omega
theorem fillA_set (p : UInt8) (n k : Nat) (hk : k < n) : (fillA p n k).setIfInBounds k (.int .u8 (p.toNat : Int)) = fillA p n (k + 1) := by
  apply Array.toList_inj.1
  unfold fillA Lib.byteCells
  rw [Array.toList_setIfInBounds]
  apply List.ext_getElem?
  intro j
  simp only [List.getElem?_set, List.getElem?_map, List.getElem?_append, List.length_replicate, List.getElem?_replicate, List.length_map, List.length_append]
  by_cases h1 : k = j
  · subst h1
    have h2 : k < k + (n - k) := by omega
    simp [h2]
  · by_cases h2 : j < k
    · have h3 : j < k + 1 := by omega
      simp [h1, h2, h3]
    · have h3 : ¬ j < k + 1 := by omega
      by_cases h4 : j < n
      · have h5 : j - k < n - k := by omega
        have h6 : j - (k + 1) < n - (k + 1) := by omega
        simp [h1, h2, h3, h5, h6]
      · have h5 : ¬ j - k < n - k := by omega
        have h6 : ¬ j - (k + 1) < n - (k + 1) := by omega
        simp [h1, h2, h3, h5, h6]

/-- block b is being filled -/
def Fill (w : World) (b : Nat) (p : UInt8) (n k : Nat) : Prop := w.heap[b]? = some (.cells (fillA p n k) 5 (0, 0))
theorem Fill.lt {w : World} {b : Nat} {p : UInt8} {n k : Nat} (h : Fill w b p n k) : b < w.heap.size := by
  rcases Nat.lt_or_ge b w.heap.size with hlt | hge
  · exact hlt
  · unfold Fill at h; rw [Array.getElem?_eq_none hge] at h; cases h
theorem Fill.cell {w : World} {b : Nat} {p : UInt8} {n k : Nat} (h : Fill w b p n k) (hk : k < n) : w.cell? ⟨b, k, none⟩ = some (.int .u8 0) := by
  unfold Fill at h
  rw [cell_of_row w b k _ _ _ h, fillA_at p n k hk]
theorem Fill.frozen {w : World} {b : Nat} {p : UInt8} {n k : Nat} (h : Fill w b p n k) (j : Nat) : w.frozen? ⟨b, j, none⟩ = false := by
  unfold Fill at h
  exact frozen_of_row w b j _ _ h
theorem Fill.step {w : World} {b : Nat} {p : UInt8} {n k : Nat} (h : Fill w b p n k) (hk : k < n) : Fill (w.setCell ⟨b, k, none⟩ (.int .u8 (p.toNat : Int))) b p n (k + 1) := by
  unfold Fill at h ⊢
  rw [heap_setCell_same w b k _ _ _ h, fillA_set p n k hk]
theorem Fill.own {w : World} {b B : Nat} {p : UInt8} {n : Nat} (h : Fill w b p n n) (hB : B ≤ b) (hn : n ≤ maxLen) : Own8 w B (.slice (some ⟨b, 0, none⟩) n n) (List.replicate n p) := by
  unfold Own8
  rw [List.length_replicate]
  refine ⟨by rw [Lib.byteCells_length, List.length_replicate, Nat.mul_one], Or.inr ⟨b, n, fillA p n n, rfl, hB, h, Nat.le_refl _, hn, by rw [fillA_size p n n (Nat.le_refl _), Nat.mul_one], ?_⟩⟩
  unfold fillA
  rw [Nat.sub_self, List.replicate_zero, List.append_nil, Nat.mul_one]
  exact List.take_of_length_le (by simp [Lib.byteCells_length])

theorem make8 (k : IntKind) (n : Nat) (x : Int) (hx : x = n) (hn : n ≤ 65536) (p : UInt8) (w : World) :
    (Instr.makeSlice 28 (.int k x) (.int k x)).run Try.prog w = .ok (.slice (some ⟨w.heap.size, 0, none⟩) n n) (w.alloc (.cells (fillA p n 0) 5)) := by
  subst hx
  obtain ⟨i0, hi, hz0, hz1, hz2⟩ := info_parts info8
  have hr := run_make (P := Try.prog) w 28 5 i0 (.int .u8 0) Try.underlying28 hi hz0 k k n n (by omega) (Int.le_refl _) (by rw [hz2]; omega) (by omega)
  simp only [Int.toNat_natCast] at hr
  rw [hr]
  have e : madeCells (Value.int .u8 0).cells (n * i0.size) = fillA p n 0 := by
    apply Array.toList_inj.1
    rw [hz1, Nat.mul_one]
    have : (Value.int .u8 0).cells = #[.int .u8 0] := rfl
    rw [this, toList_madeCells_one]
    unfold fillA Lib.byteCells
    simp
  rw [e]

theorem Own8.two (w : World) (B : Nat) (x y : UInt8) (hB : B ≤ w.heap.size) : Own8 (w.alloc (.cells #[.int .u8 (x.toNat : Int), .int .u8 (y.toNat : Int)] 5)) B (.slice (some ⟨w.heap.size, 0, none⟩) 2 2) [x, y] :=
  World.ownsRow_lit w #[.int .u8 (x.toNat : Int), .int .u8 (y.toNat : Int)] 2 hB (by decide) rfl

theorem back_big (b : ByteArray) (p n : Int) (w : World) (hb : b.size ≤ maxLen) (h : 20000 < b.size) :
    Calls Try.prog 5 #[.string b, .int .u8 p, .int .u16 n] w (Law w) := by
  unfold maxLen at hb
  go_enter Try.func5, Try.ntmps5
  go_wp2_with (go_at_call 7; refine (awake_any _).mono ?_; rintro e w1 ⟨rfl, h1⟩)
  go_ret
  exact ⟨rfl, h1⟩

set_option maxRecDepth 100000 in
set_option maxHeartbeats 1000000 in
theorem back_walk (b : ByteArray) (p : UInt8) (n : Nat) (w : World) (hb : b.size ≤ 20000) (hn : n ≤ 65535) :
    Calls Try.prog 5 #[.string b, .int .u8 (p.toNat : Int), .int .u16 (n : Int)] w (Law w) := by
  have l1 := short_len b.data.toList
  rw [str_size] at l1
  obtain ⟨x, hx⟩ : ∃ x : ByteArray, x.data.toList = short b.data.toList := ⟨⟨(short b.data.toList).toArray⟩, str_list _⟩
  rw [← hx, str_size] at l1
  have hlx : Hid (long x.data.toList = (b.data.toList, 0)) := by show _ = _; rw [hx]; exact long_short _ (by rw [str_size]; omega)
  have l2 := short_same n n p (Nat.le_refl _)
  obtain ⟨r, hr⟩ : ∃ r : ByteArray, r.data.toList = List.replicate n p := ⟨⟨(List.replicate n p).toArray⟩, str_list _⟩
  obtain ⟨y, hy⟩ : ∃ y : ByteArray, y.data.toList = short r.data.toList := ⟨⟨(short r.data.toList).toArray⟩, str_list _⟩
  have hrs : r.size ≤ n := by rw [← str_size, hr]; simp
  have hly : Hid (long y.data.toList = (r.data.toList, 0)) := by show _ = _; rw [hy]; exact long_short _ (by rw [str_size]; omega)
  rw [← hr, ← hy, str_size] at l2
  have HX := Lib.hid hx; have HR := Lib.hid hr; have HY := Lib.hid hy
  clear hx hr hy
  have hmk := make8 .u16 n (n : Int) rfl (by omega) p
  have hbp := p.toNat_lt
  have hne1 : (b.toList != b.toList) = false := by simp
  have t1 : decide ((b.size : Int) + ((b.size : Int) + 127) / 128 < (x.size : Int)) = false := by simp; omega
  have t2 : decide ((y.size : Int) ≤ 2 * ((n : Int) / 130 + 1) + 1) = true := by simp; omega
  go_enter Try.func5, Try.ntmps5
  go_wp2_with fail
  refine (short_at b x HX.out _ (by omega)).mono ?_
  rintro e w1 ⟨rfl, h1⟩
  go_wp2_with fail
  refine (long_at x b 0 hlx.out _ (by unfold maxLen; omega)).mono ?_
  rintro e w2 ⟨rfl, h2⟩
  have hb2 := below_next h1 h2
  clear h1 h2
  go_wp2_with fail
  clear hmk
  go_loopw [11, 49] (fun _ iv wr => ∃ k : Nat, k ≤ n ∧ iv = .int .i64 k ∧ Hid (Fill wr w2.heap.size p n k) ∧ Below w.heap.size w wr) (fun _ iv _ => n - (intOf iv).toNat)
  case atStart => exact ⟨0, Nat.zero_le _, rfl, heap_alloc_new _ _, hb2.alloc hb2.size _⟩
  case round =>
    have hB2 := hb2.size
    clear hb2
    obtain ⟨k, hk, rfl, hF, hb3⟩ := hrel
    by_cases hlt : k < n
    · have hc := hF.out.cell hlt
      have hf := hF.out.frozen k
      go_wp2_with fail
      go_roundw
      case rel => exact ⟨k + 1, by omega, by go_num, hF.out.step hlt, hb3.setCell hB2 _⟩
      case measure => simp [intOf]; omega
    · obtain rfl : k = n := by omega
      have hown := hF.out.own (B := w.heap.size) hB2 (by unfold maxLen; omega)
      clear hF
      have k1 := conv8 hown r HR.out
      go_wp2_with fail
      clear k1
      refine (short_at r y HY.out _ (by omega)).mono ?_
      rintro e w4 ⟨rfl, h4⟩
      go_wp2_with fail
      refine (long_at y r 0 hly.out _ (by unfold maxLen; omega)).mono ?_
      rintro e w5 ⟨rfl, h5⟩
      go_wp2_with fail
      refine (awake_any _).mono ?_
      rintro e w6 ⟨rfl, h6⟩
      have k2 := conv8 (((hown.next h4).next h5).next h6) r HR.out
      go_wp2_with fail
      go_ret
      exact ⟨rfl, below_next (below_next (below_next hb3 h4) h5) h6⟩

theorem u8_nat {x : Int} (h : 0 ≤ x ∧ x ≤ 255) : ∃ c : UInt8, x = (c.toNat : Int) := ⟨UInt8.ofNat x.toNat, by rw [UInt8.toNat_ofNat']; omega⟩

theorem back_all (b : ByteArray) (p n : Int) (w : World) (hb : b.size ≤ maxLen) (hp : 0 ≤ p ∧ p ≤ 255) (hn : 0 ≤ n ∧ n ≤ 65535) :
    Calls Try.prog 5 #[.string b, .int .u8 p, .int .u16 n] w (Law w) := by
  by_cases h : 20000 < b.size
  · exact back_big b p n w hb h
  · obtain ⟨c, rfl⟩ := u8_nat hp
    obtain ⟨m, rfl⟩ : ∃ m : Nat, n = m := ⟨n.toNat, by omega⟩
    exact back_walk b c m w (by omega) (by omega)

set_option maxRecDepth 100000 in
set_option maxHeartbeats 1000000 in
theorem bounds_walk (p q : UInt8) (w : World) :
    Calls Try.prog 6 #[.int .u8 (p.toNat : Int), .int .u8 (q.toNat : Int)] w (Law w) := by
  obtain ⟨n, hn⟩ : ∃ n : Nat, n = 65536 := ⟨_, rfl⟩
  have hn1 : n ≤ 65536 := by omega
  have hn2 : 65536 ≤ n := by omega
  have HNN := Lib.hid hn; clear hn
  have l2 := short_same n n p (Nat.le_refl _)
  obtain ⟨r, hr⟩ : ∃ r : ByteArray, r.data.toList = List.replicate n p := ⟨⟨(List.replicate n p).toArray⟩, str_list _⟩
  obtain ⟨y, hy⟩ : ∃ y : ByteArray, y.data.toList = short r.data.toList := ⟨⟨(short r.data.toList).toArray⟩, str_list _⟩
  have hrs : r.size = n := by rw [← str_size, hr]; simp
  have hrs1 : r.size ≤ n := by omega
  have hrs2 : n ≤ r.size := by omega
  have HRS := Lib.hid hrs
  have hly : Hid (long y.data.toList = (r.data.toList, 0)) := by show _ = _; rw [hy]; exact long_short _ (by rw [str_size]; omega)
  rw [← hr, ← hy, str_size] at l2
  have hq := q.toNat_lt
  have hbp := p.toNat_lt
  obtain ⟨m, hm⟩ : ∃ m : UInt8, m.toNat = 128 + q.toNat % 128 := ⟨UInt8.ofNat (128 + q.toNat % 128), by rw [UInt8.toNat_ofNat']; omega⟩
  obtain ⟨z, hz⟩ : ∃ z : ByteArray, z.data.toList = [m, p] := ⟨⟨#[m, p]⟩, rfl⟩
  have hzs : z.size = 2 := by rw [← str_size, hz]; rfl
  have hov : Hid (long (y ++ z).data.toList = ((⟨#[]⟩ : ByteArray).data.toList, 4)) := by
    show _ = _
    have e1 : (y ++ z).data.toList = y.data.toList ++ z.data.toList := by simp
    have e2 : (⟨#[]⟩ : ByteArray).data.toList = [] := rfl
    rw [e1, hy, hz, e2]
    exact long_over r.data.toList m p (by rw [str_size]; omega) (by omega) (by rw [← hy, str_size]; omega)
  have hmI : (m.toNat : Int) = 128 + (q.toNat : Int) % 128 := by rw [hm]; omega
  have hyz : (y ++ z).size = y.size + z.size := by simp
  have hyz2 : Hid ((y ++ z).size ≤ maxLen) := by show _ ≤ _; rw [hyz, hzs]; unfold maxLen; omega
  obtain ⟨t, ht⟩ : ∃ t : ByteArray, t = r ++ ⟨#[120]⟩ := ⟨_, rfl⟩
  have hts : t.size = n + 1 := by rw [ht]; have : (r ++ (⟨#[120]⟩ : ByteArray)).size = r.size + 1 := by rw [ByteArray.size_append]; rfl
                                  omega
  have hts1 : t.size ≤ n + 1 := by omega
  have hts2 : n + 1 ≤ t.size := by omega
  have hz2 : z.size ≤ 2 := by omega
  have HR := Lib.hid hr; have HY := Lib.hid hy; have HZ := Lib.hid hz; have HT := Lib.hid ht; have HM := Lib.hid hmI; have HZS := Lib.hid hzs
  clear hr hy hz ht hmI hyz hts hm hrs hzs
  have hmk := make8 .i64 n 65536 (by omega) hn1 p
  have tb : ((r.size : Int) == 65536) = true := by simp; omega
  go_enter Try.func6, Try.ntmps6
  go_wp2_with fail
  clear hmk
  go_loopw [6, 15] (fun _ iv wr => ∃ k : Nat, k ≤ n ∧ iv = .int .i64 k ∧ Hid (Fill wr w.heap.size p n k) ∧ Below w.heap.size w wr) (fun _ iv _ => n - (intOf iv).toNat)
  case atStart => exact ⟨0, Nat.zero_le _, rfl, heap_alloc_new _ _, (Below.refl _ _).alloc (Nat.le_refl _) _⟩
  case round =>
    obtain ⟨k, hk, rfl, hF, hb3⟩ := hrel
    by_cases hlt : k < n
    · have hc := hF.out.cell hlt
      have hf := hF.out.frozen k
      go_wp2_with fail
      go_roundw
      case rel => exact ⟨k + 1, by omega, by go_num, hF.out.step hlt, hb3.setCell (Nat.le_refl _) _⟩
      case measure => simp [intOf]; omega
    · obtain rfl : k = n := by omega
      have hown := hF.out.own (B := w.heap.size) (Nat.le_refl _) (by unfold maxLen; omega)
      clear hF
      have k1 := conv8 hown r HR.out
      go_wp2_with fail
      clear k1
      refine (short_at r y HY.out _ (by omega)).mono ?_
      rintro e w4 ⟨rfl, h4⟩
      go_wp2_with fail
      refine (long_at y r 0 hly.out _ (by unfold maxLen; omega)).mono ?_
      rintro e w5 ⟨rfl, h5⟩
      have k2 := conv8 (Own8.two w5 w5.heap.size m p (Nat.le_refl _)) z HZ.out
      rw [HM.out] at k2
      go_wp2_with fail
      clear k2
      refine (long_at (y ++ z) ⟨#[]⟩ 4 hov.out _ hyz2.out).mono ?_
      rintro e w6 ⟨rfl, h6⟩
      have h56 : Below w5.heap.size w5 w6 := ((Below.refl _ w5).alloc (Nat.le_refl _) _).trans (h6.mono (by simp))
      clear h6
      go_wp2_with fail
      refine (awake_any _).mono ?_
      rintro e w7 ⟨rfl, h7⟩
      have k3 := conv8 ((((hown.next h4).next h5).next h56).next h7) r HR.out
      have hb7 := below_next (below_next (below_next (below_next hb3 h4) h5) h56) h7
      clear h4 h5 h56 h7 hb3 hown
      go_wp2_with fail
      clear k3
      rw [← HT.out]
      refine (short_walk_long t _ (by unfold maxLen; omega) (by omega)).mono ?_
      rintro e w8 ⟨rfl, rfl⟩
      go_wp2_with fail
      go_ret
      exact ⟨rfl, hb7⟩

theorem bounds_all (p q : Int) (w : World) (hp : 0 ≤ p ∧ p ≤ 255) (hq : 0 ≤ q ∧ q ≤ 255) :
    Calls Try.prog 6 #[.int .u8 p, .int .u8 q] w (Law w) := by
  obtain ⟨c, rfl⟩ := u8_nat hp
  obtain ⟨d, rfl⟩ := u8_nat hq
  exact bounds_walk c d w
end Go.Proofs.Ytdljlpialbebeaa
