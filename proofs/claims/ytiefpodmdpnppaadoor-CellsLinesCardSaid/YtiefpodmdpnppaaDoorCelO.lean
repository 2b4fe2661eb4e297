/-
  WALKS of layer 56: strings.TrimRight of blanks; Text.
-/
import Derived.Test.YtiefpodmdpnppaaDoorCelN
import Derived.Test.YtiefpodmdpnppaaDoorBldN
namespace Go.Proofs.YtiefpodmdpnppaaDoor
open Go.RowKit

/-- without blanks at the end -/
def trimL (l : List UInt8) : List UInt8 := (l.reverse.dropWhile (· == 32)).reverse
theorem trimL_blank (l : List UInt8) : trimL (l ++ [32]) = trimL l := by
  unfold trimL
  rw [List.reverse_append]
  rfl
theorem trimL_other (l : List UInt8) (c : UInt8) (h : (c == 32) = false) : trimL (l ++ [c]) = l ++ [c] := by
  unfold trimL
  rw [List.reverse_append, List.reverse_singleton, List.singleton_append, List.dropWhile_cons, h]
  simp

theorem extract_list (t : ByteArray) (k : Nat) : (t.extract 0 k).data.toList = t.data.toList.take k := by
  simp [ByteArray.data_extract]
def sizeV : Value → Nat | .string s => s.size | _ => 0
theorem trimL_nil (t : ByteArray) (h : t.size = 0) : trimL t.data.toList = t.data.toList := by
  have : t.data.toList = [] := List.length_eq_zero_iff.1 (by simpa using h)
  rw [this]; rfl
theorem last_split (t : ByteArray) (h : 0 < t.size) : t.data.toList = t.data.toList.take (t.size - 1) ++ [t.data.toList.getD (t.size - 1) 0] := by
  have hl : t.size - 1 < t.data.toList.length := by simp; omega
  rw [List.getD_eq_getElem?_getD, List.getElem?_eq_getElem hl]
  have := List.take_succ_eq_append_getElem hl
  rw [List.take_of_length_le (by simp; omega)] at this
  exact this
set_option maxRecDepth 100000 in
set_option maxHeartbeats 800000 in
theorem trimByte_any (s : ByteArray) (w : World) (hs : s.size ≤ 1000000) :
    Calls Tryd.prog 44 #[.string s, .int .u8 32] w (fun e w' => e = .returned (strV (trimL s.data.toList)) ∧ w = w') := by
  go_enter Tryd.func44, Tryd.ntmps44
  go_wp2_with fail
  go_loop [0] (fun sv => ∃ t : ByteArray, sv = .string t ∧ Hid (trimL t.data.toList = trimL s.data.toList) ∧ t.size ≤ s.size) (fun sv => sizeV sv)
  case atStart => exact ⟨s, rfl, rfl, Nat.le_refl _⟩
  case round =>
    obtain ⟨t, rfl, hT, ht⟩ := hrel
    by_cases h0 : t.size = 0
    · have HR : Hid (Value.string t = strV (trimL s.data.toList)) := by rw [← hT.out, trimL_nil t h0]; exact Lib.hid rfl
      obtain ⟨d⟩ := t
      obtain rfl : d = #[] := Array.eq_empty_of_size_eq_zero h0
      clear hT h0
      go_wp2_with fail
      go_ret
      refine ⟨?_, rfl⟩
      rw [← HR.out]; rfl
    · have hx := idx_str Tryd.underlying9 t (t.size - 1) ((t.size : Int) - 1) (by omega) (by omega)
      have hpos : 0 < t.size := by omega
      have hsp := last_split t hpos
      have hg : decide ((t.size : Int) > 0) = true := by simp; omega
      by_cases hc : t.data.toList.getD (t.size - 1) 0 = 32
      · have HT2 : Hid (trimL (t.data.toList.take (t.size - 1)) = trimL s.data.toList) := by rw [← hT.out, hsp, hc, trimL_blank]; exact Lib.hid (by simp)
        rw [hc] at hx
        clear hsp hc hT h0
        go_wp2_with fail
        refine ⟨⟨_, rfl, by rw [extract_list]; exact HT2.out, by simp; omega⟩, by simp [sizeV]; omega⟩
      · have HR : Hid (Value.string t = strV (trimL s.data.toList)) := by
          rw [← hT.out, hsp, trimL_other _ _ (by simpa using hc), ← hsp]; exact Lib.hid rfl
        have hne : ((t.data.toList.getD (t.size - 1) 0).toNat : Int) = 32 → False := by
          intro h; apply hc; apply UInt8.toNat_inj.1; have : (32 : UInt8).toNat = 32 := rfl; omega
        have hb : (((t.data.toList.getD (t.size - 1) 0).toNat : Int) == 32) = false := by simpa using hne
        generalize (t.data.toList.getD (t.size - 1) 0).toNat = c at *
        clear hsp hc hT h0 hne
        go_wp2_with fail
        go_ret
        refine ⟨?_, rfl⟩
        rw [← HR.out]; rfl

set_option maxRecDepth 100000 in
set_option maxHeartbeats 800000 in
theorem trim_any (s : ByteArray) (w : World) (hs : s.size ≤ 1000000) :
    Calls Tryd.prog 30 #[.string s, .string ⟨#[32]⟩] w (fun e w' => e = .returned (strV (trimL s.data.toList)) ∧ w = w') := by
  by_cases h0 : s.size = 0
  · have HR : Hid (Value.string s = strV (trimL s.data.toList)) := by rw [trimL_nil s h0]; exact Lib.hid rfl
    obtain ⟨d⟩ := s
    obtain rfl : d = #[] := Array.eq_empty_of_size_eq_zero h0
    clear h0
    go_enter Tryd.func30, Tryd.ntmps30
    go_wp2_with fail
    go_ret
    refine ⟨?_, rfl⟩
    rw [← HR.out]; rfl
  · have hx := idx_str Tryd.underlying9 ⟨#[32]⟩ 0 0 rfl (by decide)
    have hie : s.toList.isEmpty = false := by rw [Lib.toList_data]; simpa using fun h : s.data = #[] => h0 (congrArg Array.size h)
    have hne : ¬ s.toList = [] := by intro h; rw [h] at hie; cases hie
    go_enter Tryd.func30, Tryd.ntmps30
    go_wp2_with fail
    refine (trimByte_any s _ hs).mono ?_
    rintro e w1 ⟨rfl, rfl⟩
    go_wp2_with fail
    go_ret
    exact ⟨rfl, rfl⟩

/-- the rows, up to one, without blanks at their ends -/
def Scr.textUpto (S : Scr) (n : Nat) : List UInt8 := (List.range n).flatMap fun y : Nat => trimL (S.row (y : Int)) ++ [10]
def Scr.text (S : Scr) : List UInt8 := S.textUpto S.rows
theorem textUpto_succ (S : Scr) (n : Nat) : S.textUpto (n + 1) = S.textUpto n ++ trimL (S.row n) ++ [10] := by
  unfold Scr.textUpto
  rw [List.range_succ, List.flatMap_append]
  simp
theorem trimL_len (l : List UInt8) : (trimL l).length ≤ l.length := by
  unfold trimL
  rw [List.length_reverse]
  have := (List.dropWhile_sublist (l := l.reverse) (· == 32)).length_le
  simpa using this
theorem row_len (S : Scr) (y : Int) : (S.row y).length ≤ S.cols := by
  unfold Scr.row
  split
  · rw [List.length_take]; omega
  · simp
theorem textUpto_len (S : Scr) (n : Nat) : (S.textUpto n).length ≤ n * (S.cols + 1) := by
  induction n with
  | zero => exact Nat.zero_le _
  | succ n ih =>
    rw [textUpto_succ, List.length_append, List.length_append, Nat.succ_mul]
    have h1 := trimL_len (S.row n)
    have h2 := row_len S n
    simp
    omega

set_option maxRecDepth 100000 in
set_option maxHeartbeats 800000 in
theorem text_walk (v : Value) (S : Scr) (w : World) (h : CV w v S) (ok : S.Ok) :
    Calls Tryd.prog 14 #[v] w (ValPost w (strV S.text)) := by
  have HV := Lib.hid h
  obtain ⟨vc, vk, rfl, h1, h2, h3, h4⟩ := h
  obtain ⟨-, A3, c3, rfl, -, -, -, -⟩ := h1
  obtain ⟨-, A4, c4, rfl, -, -, -, -⟩ := h2
  have hr2 := ok.r2
  have hc2 := ok.c2
  have HO := Lib.hid ok
  clear h3 h4 ok
  unfold Scr.vals
  obtain ⟨W, hW⟩ : ∃ W, W = (w.alloc (.cells (S.vals (.slice A3 S.grid.length c3) (.slice A4 S.kept.length c4)) 29)).alloc (.cells #[.pointer none, .slice none 0 0] 62) := ⟨_, rfl⟩
  have hWx : W.heap[w.heap.size]? = some (.cells (S.vals (.slice A3 S.grid.length c3) (.slice A4 S.kept.length c4)) 29 (0, 0)) := by rw [hW]; exact alloc2_fst _ _ _
  have hWb : Below w.heap.size w W := by rw [hW]; exact below_alloc2 _ _ _
  have hWs : W.heap.size = w.heap.size + 2 := by rw [hW]; simp
  have hWB : Tryd.Bd W (w.heap.size + 1) (w.heap.size + 1) [] := by
    rw [hW]
    have := Tryd.Bd.new (w.alloc (.cells (S.vals (.slice A3 S.grid.length c3) (.slice A4 S.kept.length c4)) 29))
    simpa using this
  have HW := Lib.hid hW; have HX := Lib.hid hWx; have HB := Lib.hid hWb; have HS := Lib.hid hWs; have HD := Lib.hid hWB
  clear hW hWx hWb hWs hWB
  go_enter Tryd.func14, Tryd.ntmps14
  go_wp2_with fail
  unfold Scr.vals at HW
  rw [← HW.out]
  go_loopw [7] (fun iv wr => ∃ i : Nat, i ≤ S.rows ∧ iv = .int .i64 i ∧ Hid (Tryd.Bd wr (w.heap.size + 1) (w.heap.size + 1) (S.textUpto i)) ∧ Hid (Below (w.heap.size + 1) W wr)) (fun iv _ => S.rows - (intOf iv).toNat)
  case atStart => exact ⟨0, Nat.zero_le _, rfl, HD.out, Below.refl _ _⟩
  case round =>
    obtain ⟨i, hi, rfl, hD, hb⟩ := hrel
    have hlen : (S.textUpto i).length ≤ 10000 := Nat.le_trans (textUpto_len S i) (Nat.le_trans (Nat.mul_le_mul (by omega : i ≤ 64) (by omega : S.cols + 1 ≤ 129)) (by decide))
    have hwr : Below w.heap.size w wr := HB.out.trans (hb.out.mono (by omega))
    have hsz : w.heap.size + 1 ≤ wr.heap.size := by have := hb.out.size; have := HS.out; omega
    by_cases hlt : i < S.rows
    · have hx : wr.heap[w.heap.size]? = some (.cells (S.vals (.slice A3 S.grid.length c3) (.slice A4 S.kept.length c4)) 29 (0, 0)) := (hb.out.block _ (by omega)).trans HX.out
      have e0 : wr.cell? ⟨w.heap.size, 0, none⟩ = some (.int .i64 S.cols) := cell_of_row _ _ _ _ _ _ hx
      have e1 : wr.cell? ⟨w.heap.size, 1, none⟩ = some (.int .i64 S.rows) := cell_of_row _ _ _ _ _ _ hx
      have e2 : wr.cell? ⟨w.heap.size, 2, none⟩ = some (.int .i64 S.most) := cell_of_row _ _ _ _ _ _ hx
      have e3 : wr.cell? ⟨w.heap.size, 3, none⟩ = some (.int .i64 S.x) := cell_of_row _ _ _ _ _ _ hx
      have e4 : wr.cell? ⟨w.heap.size, 4, none⟩ = some (.int .i64 S.y) := cell_of_row _ _ _ _ _ _ hx
      have e5 : wr.cell? ⟨w.heap.size, 5, none⟩ = some (.slice A3 S.grid.length c3) := cell_of_row _ _ _ _ _ _ hx
      have e6 : wr.cell? ⟨w.heap.size, 6, none⟩ = some (.slice A4 S.kept.length c4) := cell_of_row _ _ _ _ _ _ hx
      have e7 : wr.cell? ⟨w.heap.size, 7, none⟩ = some (.int .i64 S.st) := cell_of_row _ _ _ _ _ _ hx
      have e8 : wr.cell? ⟨w.heap.size, 8, none⟩ = some (.int .i64 S.n0) := cell_of_row _ _ _ _ _ _ hx
      have e9 : wr.cell? ⟨w.heap.size, 9, none⟩ = some (.int .i64 S.n1) := cell_of_row _ _ _ _ _ _ hx
      have e10 : wr.cell? ⟨w.heap.size, 10, none⟩ = some (.int .i64 S.num) := cell_of_row _ _ _ _ _ _ hx
      have HL := Lib.hid hlen; have HWR := Lib.hid hwr
      clear hx hlen hwr
      go_wp2_with fail
      refine (row_any (.agg (S.vals (.slice A3 S.grid.length c3) (.slice A4 S.kept.length c4))) S (i : Int) _ (HV.out.next HWR.out) HO.out).mono ?_
      rintro e w1 ⟨rfl, hb1⟩
      unfold strV
      obtain ⟨R, hR⟩ : ∃ R : ByteArray, R = ⟨(S.row i).toArray⟩ := ⟨_, rfl⟩
      rw [← hR]
      have hRl : R.data.toList = S.row i := by rw [hR]
      have hRs : R.size ≤ 128 := by rw [hR]; have := row_len S i; show (S.row i).toArray.size ≤ 128; simp; omega
      have HR := Lib.hid hRl; have HB1 := Lib.hid hb1
      clear hR hRl hb1 e0 e1 e2 e3 e4 e5 e6 e7 e8 e9 e10
      go_wp2_with fail
      refine (trim_any R _ (by omega)).mono ?_
      rintro e w2 ⟨rfl, rfl⟩
      unfold strV
      obtain ⟨T, hT⟩ : ∃ T : ByteArray, T = ⟨(trimL R.data.toList).toArray⟩ := ⟨_, rfl⟩
      rw [← hT]
      have hTl : T.data.toList = trimL (S.row i) := by rw [hT, HR.out]
      have hTs : T.size ≤ 128 := by
        have h1 := trimL_len R.data.toList
        have h2 : R.data.toList.length = R.size := by simp
        have h3 : T.size = (trimL R.data.toList).length := by rw [hT]; show (trimL R.data.toList).toArray.size = _; simp
        omega
      have HT := Lib.hid hTl
      clear hT hTl
      go_wp2_with fail
      have hsz1 := HB1.out.size
      refine (Tryd.bWriteString (w.heap.size + 1) (w.heap.size + 1) (S.textUpto i) T _ (hD.out.next HB1.out) (by have := HL.out; omega) (by omega)).mono ?_
      rintro e w3 ⟨rfl, hD3, hb3⟩
      have HD3 := Lib.hid hD3; have HB3 := Lib.hid hb3
      clear hD3 hb3
      go_wp2_with fail
      have hsz3 := HB3.out.size
      have hTl2 : (S.textUpto i ++ T.data.toList).length ≤ 20000 := by
        have h1 := HL.out
        have h2 : T.data.toList.length = T.size := by simp
        rw [List.length_append]; omega
      refine (Tryd.bWriteByteI (w.heap.size + 1) (w.heap.size + 1) (S.textUpto i ++ T.data.toList) 10 10 rfl _ HD3.out (by omega) (by omega)).mono ?_
      rintro e w4 ⟨rfl, hD4, hb4⟩
      have HD4 := Lib.hid hD4; have HB4 := Lib.hid hb4
      clear hD4 hb4
      go_wp2_with fail
      go_roundw
      case rel => exact ⟨i + 1, by omega, by go_num, by rw [textUpto_succ, ← HT.out]; exact HD4, ((hb.out.trans (HB1.out.mono hsz)).trans HB3.out).trans HB4.out⟩
      case measure => simp [intOf]; omega
    · obtain rfl : i = S.rows := by omega
      have HWR := Lib.hid hwr
      clear hwr hlen
      go_wp2_with fail
      refine (Tryd.bString (w.heap.size + 1) (w.heap.size + 1) (S.textUpto S.rows) _ hD.out hsz).mono ?_
      rintro e w1 ⟨rfl, hb1⟩
      have HB1 := Lib.hid hb1
      clear hb1
      go_wp2_with fail
      go_ret
      exact ⟨rfl, HWR.out.trans (HB1.out.mono (by omega))⟩
end Go.Proofs.YtiefpodmdpnppaaDoor
