/-
  WALK of layer 25: image.Long.
-/
import Derived.Test.YtdljlpialbebeaaImgX
import Derived.Test.YtdljlpialbebeaaShelf
namespace Go.Proofs.Ytdljlpialbebeaa
open Go.RowKit

theorem repeat_one (x : UInt8) : ∀ c : Nat, Lib.repeatL [x] c = List.replicate c x
  | 0 => rfl
  | c + 1 => by rw [Lib.repeatL, repeat_one x c, List.replicate_succ]; rfl

theorem repeat_at (s : ByteArray) (x : UInt8) (hs : s.data.toList = [x]) (c : Nat) (n : Int) (hn : n = c) (hc : c ≤ 200) (w : World) :
    Calls Try.prog 12 #[.string s, .int .i64 n] w fun e w' => e = .returned (.string ⟨(List.replicate c x).toArray⟩) ∧ Below w.heap.size w w' := by
  subst hn
  have hsz : s.size = 1 := by have := congrArg List.length hs; simpa using this
  have := Try.strings_Repeat s c w (by omega) (by rw [hsz]; omega)
  rw [hs, repeat_one] at this
  exact this

theorem stepL_plain_no {n : UInt8} {rest : List UInt8} (h1 : n.toNat < 128) (h2 : rest.length < n.toNat + 1) : stepL n rest = none := by unfold stepL; rw [if_pos h1, if_pos h2]
theorem stepL_plain {n : UInt8} {rest : List UInt8} (h1 : n.toNat < 128) (h2 : ¬ rest.length < n.toNat + 1) : stepL n rest = some (rest.take (n.toNat + 1), rest.drop (n.toNat + 1)) := by unfold stepL; rw [if_pos h1, if_neg h2]
theorem stepL_run_no {n : UInt8} {rest : List UInt8} (h1 : ¬ n.toNat < 128) (h2 : rest.length = 0) : stepL n rest = none := by unfold stepL; rw [if_neg h1, if_pos h2]
theorem stepL_run {n : UInt8} {rest : List UInt8} (h1 : ¬ n.toNat < 128) (h2 : ¬ rest.length = 0) : stepL n rest = some (List.replicate (n.toNat - 125) (rest.getD 0 0), rest.drop 1) := by unfold stepL; rw [if_neg h1, if_neg h2]

theorem long_walk_long (s : ByteArray) (w : World) (hs : s.size ≤ maxLen) (h : 131072 < s.size) :
    Calls Try.prog 8 #[.string s] w fun e w' => e = .returned (.tuple #[.string ⟨(long s.data.toList).1.toArray⟩, .int .i64 (long s.data.toList).2]) ∧ Below w.heap.size w w' := by
  have e : long s.data.toList = ([], errLong) := by unfold long; rw [if_pos (by simpa using h)]
  rw [e]
  unfold maxLen at hs
  clear e
  go_enter Try.func8, Try.ntmps8
  go_wp2
  go_ret2
  exact ⟨rfl, Below.refl _ _⟩

set_option maxRecDepth 100000 in
set_option maxHeartbeats 1000000 in
theorem long_walk (s : ByteArray) (w : World) (hs : s.size ≤ 131072) :
    Calls Try.prog 8 #[.string s] w fun e w' => e = .returned (.tuple #[.string ⟨(long s.data.toList).1.toArray⟩, .int .i64 (long s.data.toList).2]) ∧ Below w.heap.size w w' := by
  have hsl : s.data.toList.length = s.size := by simp
  rw [long_eq _ (by rw [hsl]; exact hs)]
  generalize hR : longR s.data.toList [] = R
  obtain ⟨out, code⟩ := R
  have HR := Lib.hid hR; clear hR
  have HSL := Lib.hid hsl; clear hsl
  have hd0 : decide ((131072 : Int) < (s.size : Int)) = false := by simp; omega
  go_enter Try.func8, Try.ntmps8
  go_wp2_with fail
  go_loopw [5, 6, 7] (fun iv _ _ wr => ∃ (i : Nat) (acc : List UInt8), i ≤ s.size ∧ iv = .int .i64 i ∧ acc.length ≤ 65536 ∧ Try.Bd wr w.heap.size w.heap.size acc ∧ Hid (longR (s.data.toList.drop i) acc = (out, code)) ∧ Below w.heap.size w wr) (fun iv _ _ _ => s.size - (intOf iv).toNat)
  case atStart => exact ⟨0, [], Nat.zero_le _, rfl, by simp, Try.Bd.new w, HR.out, (Below.refl _ _).alloc (Nat.le_refl _) _⟩
  case round =>
    obtain ⟨i, acc, hi, rfl, hal, hbd, hinv, hb⟩ := hrel
    by_cases hlt : i < s.size
    · have hx := idx_str Try.underlying9 s i (i : Int) rfl hlt
      have hdr : s.data.toList.drop i = s.data.toList.getD i 0 :: s.data.toList.drop (i + 1) := by
        have hl : i < s.data.toList.length := by rw [HSL.out]; exact hlt
        rw [List.drop_eq_getElem_cons hl]
        congr 1
        simp [List.getD, List.getElem?_eq_getElem hl]
      have hc := longR_cons (s.data.toList.getD i 0) (s.data.toList.drop (i + 1)) acc
      rw [← hdr, hinv.out] at hc
      have hlr : (s.data.toList.drop (i + 1)).length = s.size - (i + 1) := by rw [List.length_drop, HSL.out]
      have hbt := (s.data.toList.getD i 0).toNat_lt
      generalize hB : s.data.toList.getD i 0 = b at hc hbt
      have hx2 : byteAt s i = (b.toNat : Int) := by unfold byteAt; rw [hB]
      rw [hx2] at hx
      generalize hn : b.toNat = n at hx hbt
      have HN := Lib.hid hn; have HC := Lib.hid hc; have HLR := Lib.hid hlr
      clear hn hc hlr hdr hB hx2 hinv
      by_cases h128 : n < 128
      · by_cases hsh : s.size - (i + 1) < n + 1
        · have hfin : Hid ((out, code) = ([], errShort)) := by
            show _ = _
            rw [HC.out, stepL_plain_no (by rw [HN.out]; exact h128) (by rw [HLR.out, HN.out]; exact hsh)]
          go_wp2_with fail
          go_ret2
          have hf := hfin.out
          simp only [Prod.mk.injEq] at hf
          exact ⟨by rw [hf.1, hf.2]; rfl, hb⟩
        · have hstep := Lib.hid (stepL_plain (n := b) (rest := s.data.toList.drop (i + 1)) (by rw [HN.out]; exact h128) (by rw [HLR.out, HN.out]; exact hsh))
          have hpl : Hid ((s.extract (i + 1) (i + 1 + n + 1)).data.toList = (s.data.toList.drop (i + 1)).take (b.toNat + 1)) := by
            show _ = _
            rw [extract_list s _ _ (by omega), HN.out]; congr 1; omega
          have hps := extract_size s (i + 1) (i + 1 + n + 1) (by omega)
          have HPS := Lib.hid hps; clear hps
          have hps1 : (s.extract (i + 1) (i + 1 + n + 1)).size ≤ n + 1 := by rw [HPS.out]; omega
          have hps2 : n + 1 ≤ (s.extract (i + 1) (i + 1 + n + 1)).size := by rw [HPS.out]; omega
          by_cases hov : 65536 < acc.length + (n + 1)
          · have hfin : Hid ((out, code) = ([], errLong)) := by
              show _ = _
              rw [HC.out, hstep.out]
              simp only
              rw [if_pos (by rw [List.length_take, HLR.out, HN.out]; omega)]
            go_wp2_with fail
            refine (Try.bLen _ _ acc _ hbd).mono ?_
            rintro e w1 ⟨rfl, rfl⟩
            go_wp2_with fail
            go_ret2
            have hf := hfin.out
            simp only [Prod.mk.injEq] at hf
            exact ⟨by rw [hf.1, hf.2]; rfl, hb⟩
          · have hfin : Hid (longR (s.data.toList.drop (i + n + 2)) (acc ++ (s.extract (i + 1) (i + 1 + n + 1)).data.toList) = (out, code)) := by
              show _ = _
              rw [HC.out, hstep.out]
              simp only
              rw [if_neg (by rw [List.length_take, HLR.out, HN.out]; omega), hpl.out, List.drop_drop, HN.out]
              congr 2; omega
            go_wp2_with fail
            refine (Try.bLen _ _ acc _ hbd).mono ?_
            rintro e w1 ⟨rfl, rfl⟩
            go_wp2_with fail
            refine (Try.bWriteString _ _ acc (s.extract (i + 1) (i + 1 + n + 1)) _ hbd (by omega) hb.size).mono ?_
            rintro e w2 ⟨rfl, hbd2, h2⟩
            have hb2 := hb.trans h2
            clear hbd hb h2
            go_wp2_with fail
            go_roundw
            case rel =>
              refine ⟨i + n + 2, _, by omega, by go_num, ?_, hbd2, hfin.out, hb2⟩
              have := HPS.out
              have e := hpl.out
              rw [List.length_append, e, List.length_take, HLR.out, HN.out]; omega
            case measure => simp [intOf]; omega
      · by_cases hsh : i + 1 = s.size
        · have hfin : Hid ((out, code) = ([], errShort)) := by
            show _ = _
            rw [HC.out, stepL_run_no (by rw [HN.out]; exact h128) (by rw [HLR.out]; omega)]
          have hq : (((i : Int) + 1) == (s.size : Int)) = true := by simp; omega
          have HSH := Lib.hid hsh; clear hsh
          go_wp2_with fail
          go_ret2
          have hf := hfin.out
          simp only [Prod.mk.injEq] at hf
          exact ⟨by rw [hf.1, hf.2]; rfl, hb⟩
        · have hq : (((i : Int) + 1) == (s.size : Int)) = false := by simp; omega
          have hstep := Lib.hid (stepL_run (n := b) (rest := s.data.toList.drop (i + 1)) (by rw [HN.out]; exact h128) (by rw [HLR.out]; omega))
          have hx1 : Hid ((s.extract (i + 1) (i + 1 + 1)).data.toList = [(s.data.toList.drop (i + 1)).getD 0 0]) := by
            show _ = _
            rw [extract_list s _ _ (by omega), show i + 1 + 1 - (i + 1) = 1 by omega]
            have hl : 0 < (s.data.toList.drop (i + 1)).length := by rw [HLR.out]; omega
            match s.data.toList.drop (i + 1), hl with
            | y :: t, _ => rfl
          generalize hy : (s.data.toList.drop (i + 1)).getD 0 0 = y at hstep hx1
          clear hy
          go_wp2_with fail
          refine (repeat_at _ y hx1.out (n - 125) _ (by omega) (by omega) _).mono ?_
          rintro e w1 ⟨rfl, h1⟩
          have hbd1 := hbd.next h1
          have hb1 := below_next hb h1
          clear hbd hb h1
          have hsz : (⟨(List.replicate (n - 125) y).toArray⟩ : ByteArray).size = n - 125 := by simp [ByteArray.size]
          have hdl : (⟨(List.replicate (n - 125) y).toArray⟩ : ByteArray).data.toList = List.replicate (n - 125) y := by simp
          generalize (⟨(List.replicate (n - 125) y).toArray⟩ : ByteArray) = ps at hsz hdl
          have HSZ := Lib.hid hsz; have HDL := Lib.hid hdl
          have hps1 : ps.size ≤ n - 125 := by rw [hsz]; exact Nat.le_refl _
          have hps2 : n - 125 ≤ ps.size := by rw [hsz]; exact Nat.le_refl _
          clear hsz hdl
          by_cases hov : 65536 < acc.length + (n - 125)
          · have hfin : Hid ((out, code) = ([], errLong)) := by
              show _ = _
              rw [HC.out, hstep.out]
              simp only
              rw [if_pos (by rw [List.length_replicate, HN.out]; omega)]
            go_wp2_with fail
            refine (Try.bLen _ _ acc _ hbd1).mono ?_
            rintro e w2 ⟨rfl, rfl⟩
            go_wp2_with fail
            go_ret2
            have hf := hfin.out
            simp only [Prod.mk.injEq] at hf
            exact ⟨by rw [hf.1, hf.2]; rfl, hb1⟩
          · have hfin : Hid (longR (s.data.toList.drop (i + 2)) (acc ++ ps.data.toList) = (out, code)) := by
              show _ = _
              rw [HC.out, hstep.out]
              simp only
              rw [if_neg (by rw [List.length_replicate, HN.out]; omega), HDL.out, List.drop_drop, HN.out]
            go_wp2_with fail
            refine (Try.bLen _ _ acc _ hbd1).mono ?_
            rintro e w2 ⟨rfl, rfl⟩
            go_wp2_with fail
            refine (Try.bWriteString _ _ acc ps _ hbd1 (by omega) hb1.size).mono ?_
            rintro e w3 ⟨rfl, hbd2, h2⟩
            have hb2 := hb1.trans h2
            clear hbd1 hb1 h2
            go_wp2_with fail
            go_roundw
            case rel =>
              refine ⟨i + 2, _, by omega, by go_num, ?_, hbd2, hfin.out, hb2⟩
              rw [List.length_append, HDL.out, List.length_replicate]; omega
            case measure => simp [intOf]; omega
    · obtain rfl : i = s.size := by omega
      have hfin : Hid ((out, code) = (acc, 0)) := by
        show _ = _
        rw [← hinv.out, List.drop_of_length_le (by rw [HSL.out]; exact Nat.le_refl _), longR_nil]
      go_wp2_with fail
      refine (Try.bString _ _ acc _ hbd hb.size).mono ?_
      rintro e w1 ⟨rfl, h1⟩
      have hf := hfin.out
      simp only [Prod.mk.injEq] at hf
      have HF1 := Lib.hid hf.1; have HF2 := Lib.hid hf.2; clear hf
      go_wp2_with fail
      go_ret2
      exact ⟨by rw [HF1.out, HF2.out]; rfl, hb.trans h1⟩
end Go.Proofs.Ytdljlpialbebeaa
