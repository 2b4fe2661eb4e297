/-
  WALK of layer 25: image.Short.
-/
import Derived.Test.YtdljlpialbebeaaImgW
namespace Go.Proofs.Ytdljlpialbebeaa
open Go.RowKit

theorem plainGo_yes {l : List UInt8} {k : Nat} (h1 : k < l.length) (h2 : k < 128) (h3 : runL (l.drop k) < 3) : plainGo l (129 - k) k = plainGo l (129 - (k + 1)) (k + 1) := by
  rw [show 129 - k = (129 - (k + 1)) + 1 by omega, plainGo, if_pos ⟨h1, h2, h3⟩]
theorem plainGo_no {l : List UInt8} {k : Nat} (hk : k ≤ 128) (h : ¬ (k < l.length ∧ k < 128 ∧ runL (l.drop k) < 3)) : plainGo l (129 - k) k = k := by
  rw [show 129 - k = (129 - (k + 1)) + 1 by omega, plainGo, if_neg h]

theorem run_at (s : ByteArray) (i : Nat) (n : Int) (hn : n = i) (r : Nat) (hr : runL (s.data.toList.drop i) = r) (w : World) (hs : s.size ≤ 65536) (hi : i < s.size) :
    Calls Try.prog 16 #[.string s, .int .i64 n] w fun e w' => e = .returned (.int .i64 r) ∧ Below w.heap.size w w' := by
  subst hn; subst hr; exact run_any s i w hs hi

theorem short_walk_long (s : ByteArray) (w : World) (hs : s.size ≤ maxLen) (h : 65536 < s.size) :
    Calls Try.prog 9 #[.string s] w fun e w' => e = .returned (.string ⟨#[]⟩) ∧ w = w' := by
  unfold maxLen at hs
  go_enter Try.func9, Try.ntmps9
  go_wp2
  go_ret
  exact ⟨rfl, rfl⟩

theorem extract_list (s : ByteArray) (i t : Nat) (_ht : t ≤ s.size) : (s.extract i t).data.toList = (s.data.toList.drop i).take (t - i) := by
  rw [ByteArray.data_extract, Array.toList_extract, List.extract_eq_take_drop]
theorem extract_size (s : ByteArray) (i t : Nat) (ht : t ≤ s.size) : (s.extract i t).size = t - i := by
  have h := congrArg List.length (extract_list s i t ht)
  simp at h
  simp
  omega
theorem acc_len {acc m l : List UInt8} (h : acc ++ m = short l) (hl : l.length ≤ 65536) : acc.length ≤ 70000 := by
  have h1 := short_len l
  have h2 : acc.length ≤ (short l).length := by rw [← h]; simp
  omega

set_option maxRecDepth 100000 in
set_option maxHeartbeats 1000000 in
theorem short_walk (s : ByteArray) (w : World) (hs : s.size ≤ 65536) :
    Calls Try.prog 9 #[.string s] w fun e w' => e = .returned (.string ⟨(short s.data.toList).toArray⟩) ∧ Below w.heap.size w w' := by
  have hsl : s.data.toList.length = s.size := by simp
  have HSL := Lib.hid hsl; clear hsl
  have hd0 : decide ((65536 : Int) < (s.size : Int)) = false := by simp; omega
  go_enter Try.func9, Try.ntmps9
  go_wp2_with fail
  go_loopw [4, 5, 6] (fun iv _ _ wr => ∃ (i : Nat) (acc : List UInt8), i ≤ s.size ∧ iv = .int .i64 i ∧ Try.Bd wr w.heap.size w.heap.size acc ∧ Hid (acc ++ short (s.data.toList.drop i) = short s.data.toList) ∧ Below w.heap.size w wr) (fun iv _ _ _ => s.size - (intOf iv).toNat)
  case atStart => exact ⟨0, [], Nat.zero_le _, rfl, Try.Bd.new w, rfl, (Below.refl _ _).alloc (Nat.le_refl _) _⟩
  case round =>
    obtain ⟨i, acc, hi, rfl, hbd, hinv, hb⟩ := hrel
    have hal := acc_len hinv.out (by rw [HSL.out]; exact hs)
    by_cases hlt : i < s.size
    · have hlen : 1 ≤ (s.data.toList.drop i).length := by rw [List.length_drop, HSL.out]; omega
      have hr1 := runL_bd (s.data.toList.drop i)
      have hr2 := runL_len (s.data.toList.drop i) hlen
      rw [List.length_drop, HSL.out] at hr2
      have hx := idx_str Try.underlying9 s i (i : Int) rfl hlt
      generalize hr : runL (s.data.toList.drop i) = r at hr1 hr2
      have HR := Lib.hid hr; clear hr
      obtain ⟨hr0, hr130⟩ := hr1
      go_wp2_with fail
      refine (run_at s i _ rfl r HR.out _ hs hlt).mono ?_
      rintro e w1 ⟨rfl, h1⟩
      have hbd1 := hbd.next h1
      have hb1 := below_next hb h1
      clear hbd hb h1
      by_cases h3 : 3 ≤ r
      · have hsh := Lib.hid (short_run (s.data.toList.drop i) hlen (by rw [HR.out]; exact h3))
        go_wp2_with fail
        refine (Try.bWriteByteI _ _ acc _ (UInt8.ofNat (125 + r)) ?_ _ hbd1 (by omega) hb1.size).mono ?_
        · rw [UInt8.toNat_ofNat']; omega
        rintro e w2 ⟨rfl, hbd2, h2⟩
        have hb2 := hb1.trans h2
        clear hbd1 hb1 h2
        go_wp2_with fail
        refine (Try.bWriteByteI _ _ _ _ (s.data.toList.getD i 0) rfl _ hbd2 (by simp; omega) hb2.size).mono ?_
        rintro e w3 ⟨rfl, hbd3, h3'⟩
        have hb3 := hb2.trans h3'
        clear hbd2 hb2 h3'
        go_wp2_with fail
        go_roundw
        case rel =>
          refine ⟨i + r, _, by omega, by go_num, hbd3, ?_, hb3⟩
          show _ = _
          rw [← hinv.out, hsh.out, HR.out]
          simp [List.drop_drop, List.getD]
        case measure => simp [intOf]; omega
      · have hsh := Lib.hid (short_plain (s.data.toList.drop i) hlen (by rw [HR.out]; exact h3))
        have h3' : decide ((3 : Int) ≤ (r : Int)) = false := by simp; omega
        have hp := plainL_bd (s.data.toList.drop i) hlen
        rw [List.length_drop, HSL.out] at hp
        generalize hpl : plainL (s.data.toList.drop i) = p at hp hsh
        have HP := Lib.hid hpl; clear hpl
        obtain ⟨hp1, hp128, hpl⟩ := hp
        go_wp2_with fail
        obtain ⟨wo, rfl⟩ : ∃ wo : World, wo = w1 := ⟨_, rfl⟩
        go_loopw [6] (fun tv wr => ∃ (t : Nat), i + 1 ≤ t ∧ t ≤ i + 128 ∧ t ≤ s.size ∧ tv = .int .i64 t ∧ Hid (plainGo (s.data.toList.drop i) (129 - (t - i)) (t - i) = p) ∧ Try.Bd wr w.heap.size w.heap.size acc ∧ Below w.heap.size w wr) (fun tv _ => s.size - (intOf tv).toNat)
        case atStart => exact ⟨i + 1, by omega, by omega, by omega, by go_num, by show _ = _; rw [show i + 1 - i = 1 by omega]; exact HP.out, hbd1, hb1⟩
        case round =>
          clear hbd1 hb1
          obtain ⟨t, ht1, ht2, ht3, rfl, hgo, hbd1, hb1⟩ := hrel
          have hdd : Hid ((s.data.toList.drop i).drop (t - i) = s.data.toList.drop t) := by show _ = _; rw [List.drop_drop]; congr 1; omega
          have hdl : Hid ((s.data.toList.drop i).length = s.size - i) := by show _ = _; rw [List.length_drop, HSL.out]
          by_cases ht4 : t < s.size
          · by_cases ht5 : t < i + 128
            · generalize hr' : runL (s.data.toList.drop t) = q
              have HQ := Lib.hid hr'; clear hr'
              go_wp2_with fail
              refine (run_at s t _ rfl q HQ.out _ hs ht4).mono ?_
              rintro e w2 ⟨rfl, h2⟩
              have hbd2 := hbd1.next h2
              have hb2 := below_next hb1 h2
              clear hbd1 hb1 h2
              by_cases hq : q < 3
              · go_wp2_with fail
                go_roundw
                case rel =>
                  refine ⟨t + 1, by omega, by omega, by omega, by go_num, ?_, hbd2, hb2⟩
                  show _ = _
                  rw [← hgo.out, show t + 1 - i = (t - i) + 1 by omega]
                  exact (plainGo_yes (by rw [hdl.out]; omega) (by omega) (by rw [hdd.out, HQ.out]; exact hq)).symm
                case measure => simp [intOf]; omega
              · have hend : Hid (t - i = p) := by
                  show _ = _
                  rw [← hgo.out]
                  exact (plainGo_no (by omega) (fun h => hq (by have := h.2.2; rw [hdd.out, HQ.out] at this; exact this))).symm
                go_wp2_with fail
                refine (Try.bWriteByteI _ _ acc _ (UInt8.ofNat (p - 1)) ?_ _ hbd2 (by omega) hb2.size).mono ?_
                · have := hend.out; rw [UInt8.toNat_ofNat']; omega
                rintro e w3 ⟨rfl, hbd3, h3''⟩
                have hb3 := hb2.trans h3''
                clear hbd2 hb2 h3''
                go_wp2_with fail
                refine (Try.bWriteString _ _ _ (s.extract i t) _ hbd3 (by have := extract_size s i t ht3; simp; omega) hb3.size).mono ?_
                rintro e w4 ⟨rfl, hbd4, h4⟩
                have hb4 := hb3.trans h4
                clear hbd3 hb3 h4
                go_wp2_with fail
                go_roundw
                case rel =>
                  refine ⟨t, _, by omega, rfl, hbd4, ?_, hb4⟩
                  show _ = _
                  rw [← hinv.out, hsh.out, extract_list s i t ht3, hend.out, ← hdd.out, hend.out]
                  simp
                case measure => simp [intOf]; omega
            · have hend : Hid (t - i = p) := by
                show _ = _
                rw [← hgo.out]
                exact (plainGo_no (by omega) (fun h => ht5 (by have := h.2.1; omega))).symm
              go_wp2_with fail
              refine (Try.bWriteByteI _ _ acc _ (UInt8.ofNat (p - 1)) ?_ _ hbd1 (by omega) hb1.size).mono ?_
              · have := hend.out; rw [UInt8.toNat_ofNat']; omega
              rintro e w3 ⟨rfl, hbd3, h3''⟩
              have hb3 := hb1.trans h3''
              clear hbd1 hb1 h3''
              go_wp2_with fail
              refine (Try.bWriteString _ _ _ (s.extract i t) _ hbd3 (by have := extract_size s i t ht3; simp; omega) hb3.size).mono ?_
              rintro e w4 ⟨rfl, hbd4, h4⟩
              have hb4 := hb3.trans h4
              clear hbd3 hb3 h4
              go_wp2_with fail
              go_roundw
              case rel =>
                refine ⟨t, _, by omega, rfl, hbd4, ?_, hb4⟩
                show _ = _
                rw [← hinv.out, hsh.out, extract_list s i t ht3, hend.out, ← hdd.out, hend.out]
                simp
              case measure => simp [intOf]; omega
          · have hend : Hid (t - i = p) := by
              show _ = _
              rw [← hgo.out]
              exact (plainGo_no (by omega) (fun h => ht4 (by have := h.1; rw [hdl.out] at this; omega))).symm
            go_wp2_with fail
            refine (Try.bWriteByteI _ _ acc _ (UInt8.ofNat (p - 1)) ?_ _ hbd1 (by omega) hb1.size).mono ?_
            · have := hend.out; rw [UInt8.toNat_ofNat']; omega
            rintro e w3 ⟨rfl, hbd3, h3''⟩
            have hb3 := hb1.trans h3''
            clear hbd1 hb1 h3''
            go_wp2_with fail
            refine (Try.bWriteString _ _ _ (s.extract i t) _ hbd3 (by have := extract_size s i t ht3; simp; omega) hb3.size).mono ?_
            rintro e w4 ⟨rfl, hbd4, h4⟩
            have hb4 := hb3.trans h4
            clear hbd3 hb3 h4
            go_wp2_with fail
            go_roundw
            case rel =>
              refine ⟨t, _, by omega, rfl, hbd4, ?_, hb4⟩
              show _ = _
              rw [← hinv.out, hsh.out, extract_list s i t ht3, hend.out, ← hdd.out, hend.out]
              simp
            case measure => simp [intOf]; omega
    · obtain rfl : i = s.size := by omega
      have hfin : Hid (acc = short s.data.toList) := by
        show _ = _
        rw [← hinv.out, List.drop_of_length_le (by rw [HSL.out]; exact Nat.le_refl _), short_nil, List.append_nil]
      go_wp2_with fail
      refine (Try.bString _ _ acc _ hbd hb.size).mono ?_
      rintro e w1 ⟨rfl, h1⟩
      go_wp2_with fail
      go_ret
      exact ⟨by rw [← hfin.out]; rfl, hb.trans h1⟩
end Go.Proofs.Ytdljlpialbebeaa
