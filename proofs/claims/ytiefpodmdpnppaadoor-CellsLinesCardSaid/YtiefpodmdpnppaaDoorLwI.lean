/-
  WALK of the law CellsLines.
-/
import Derived.Test.YtiefpodmdpnppaaDoorLwS
import Derived.Test.YtiefpodmdpnppaaDoorPlD
import Derived.Test.YtiefpodmdpnppaaDoorPlL
import Derived.Test.YtiefpodmdpnppaaDoorOpn
namespace Go.Proofs.YtiefpodmdpnppaaDoor
open Go.RowKit
attribute [local go_sem ↓] Go.wp_at_zero Go.wp_at_succ

/-- a line's letter, out of any byte -/
def lineC (c : UInt8) : UInt8 := 33 + c % 94
def lineOf (w : Nat) (s : ByteArray) : List UInt8 := (s.data.toList.take w).map lineC
theorem lineC_nat (c : UInt8) : (lineC c).toNat = 33 + c.toNat % 94 := by
  unfold lineC
  rw [UInt8.toNat_add, UInt8.toNat_mod]
  have := Nat.mod_lt c.toNat (show 94 > 0 by decide)
  show (33 + c.toNat % 94) % 256 = _
  omega
theorem lineOf_len (w : Nat) (s : ByteArray) : (lineOf w s).length = min w s.size := by
  unfold lineOf; rw [List.length_map, List.length_take]; rfl
theorem lineOf_letters (w : Nat) (s : ByteArray) : Letters (lineOf w s) := by
  intro c hc
  unfold lineOf at hc
  obtain ⟨d, -, rfl⟩ := List.mem_map.1 hc
  rw [lineC_nat]
  omega
theorem lineOf_step (w : Nat) (s : ByteArray) (k : Nat) (h1 : k < w) (h2 : k < s.size) : (lineOf w s).take (k + 1) = (lineOf w s).take k ++ [lineC (s.data.toList.getD k 0)] := by
  have hl : k < (lineOf w s).length := by rw [lineOf_len]; omega
  have h3 : k < s.data.toList.length := h2
  have e : (lineOf w s)[k]? = some (lineC (s.data.toList.getD k 0)) := by
    unfold lineOf
    rw [List.getElem?_map, List.getElem?_take_of_lt h1, List.getElem?_eq_getElem h3, List.getD_eq_getElem?_getD, List.getElem?_eq_getElem h3]; rfl
  rw [List.getElem?_eq_getElem hl] at e
  injection e with e
  rw [List.take_succ_eq_append_getElem hl, e]
theorem lineC_cast (c : UInt8) : ((lineC c).toNat : Int) = 33 + (c.toNat : Int) % 94 := by rw [lineC_nat]; rfl

set_option maxRecDepth 100000 in
set_option maxHeartbeats 1600000 in
theorem lines_big (a b k : Nat) (A : Option Addr) (n c : Nat) (w : World) (h1 : 40 < n) (h2 : n ≤ 9223372036854775807) :
    Calls Tryd.prog 5 #[.agg #[.int .u8 a, .int .u8 b, .int .u8 k], .slice A n c] w (ValPost w (.bool true)) := by
  have hd : decide ((n : Int) > 40) = true := by simp; omega
  go_enter Tryd.func5, Tryd.ntmps5
  go_wp2_with fail
  refine (awake_walk _).mono ?_
  rintro e w1 ⟨rfl, hb1⟩
  have HB1 : Hid (Below w.heap.size w w1) := below_next ((Below.refl _ _).alloc (Nat.le_refl _) _) hb1
  clear hb1
  go_wp2_with fail
  go_ret
  exact ⟨rfl, HB1.out⟩

theorem load_u8b {w : World} {b o : Nat} {k : Int} (h : w.cell? ⟨b, o, none⟩ = some (.int .u8 k)) : (Instr.loadAt 5 (.pointer (some ⟨b, o, none⟩))).run Tryd.prog w = .ok (.int .u8 k) w := by
  go_simp
theorem extract_pre {Z X : ByteArray} (h : Z.data.toList.take X.size = X.data.toList) : Z.extract 0 X.size = X := by
  apply ByteArray.ext
  apply Array.toList_inj.1
  rw [ByteArray.data_extract, Array.toList_extract]
  simpa using h
theorem sub_wrapE {K i : Nat} (h : i ≤ K) (hK : K ≤ 1000) : IntKind.i64.wrap ((K : Int) - (i : Int)) = ((K - i : Nat) : Int) := by
  rw [IntWalk.i64_in _ (by omega)]; omega
set_option maxRecDepth 100000 in
set_option maxHeartbeats 1600000 in
theorem lines_walk (a b k : Nat) (A : Option Addr) (n c : Nat) (ls : List ByteArray) (w : World) (ha : a < 256) (hb : b < 256) (hk : k < 256) (hn : n = ls.length) (hn40 : n ≤ 40) (hsz : ∀ s ∈ ls, s.size ≤ maxLen)
    (hcell : 0 < n → ∃ rb ro, A = some ⟨rb, ro, none⟩ ∧ rb < w.heap.size ∧ ∀ j u, (ls.map Value.string)[j]? = some u → w.cell? ⟨rb, ro + j, none⟩ = some u) :
    Calls Tryd.prog 5 #[.agg #[.int .u8 a, .int .u8 b, .int .u8 k], .slice A n c] w (ValPost w (.bool true)) := by
  have hd : decide ((n : Int) > 40) = false := by simp; omega
  have HSZ := Lib.hid hsz; have HCL := Lib.hid hcell; have HN := Lib.hid hn
  obtain ⟨i0, hi, hz0, hz1, hz2⟩ := info_parts infoS
  have HI := Lib.hid hi; have HZ0 := Lib.hid hz0; have HZ1 := Lib.hid hz1; have HZ2 := Lib.hid hz2
  clear hsz hcell hn hi hz0 hz1 hz2
  go_enter Tryd.func5, Tryd.ntmps5
  go_wp2_with fail
  refine (made_walk a b k _ ha hb hk).mono ?_
  rintro e w1 ⟨v1, u1, rfl, hck, hrv, hb1⟩
  have hok := newScr_ok (1 + a % 20) (1 + b % 8) (k % 12) (by omega) (by omega) (by omega) (by omega) (by omega)
  have hom := newRef_ok (1 + a % 20) (1 + b % 8) (k % 12) (by omega) (by omega) (by omega) (by omega) (by omega)
  have hsim := sim_new (1 + a % 20) (1 + b % 8) (k % 12)
  obtain ⟨S, hS⟩ : ∃ S : Scr, S = newScr (1 + a % 20) (1 + b % 8) (k % 12) := ⟨_, rfl⟩
  obtain ⟨M, hM⟩ : ∃ M : Ref, M = newRef (1 + a % 20) (1 + b % 8) (k % 12) := ⟨_, rfl⟩
  rw [← hS] at hck hok hsim
  rw [← hM] at hrv hom hsim
  have hSc : S.cols = 1 + a % 20 := by rw [hS]; rfl
  have hSr : S.rows = 1 + b % 8 := by rw [hS]; rfl
  have HSc := Lib.hid hSc; have HSr := Lib.hid hSr
  have HV1 := Lib.hid hck; have HO := Lib.hid hok; have HOM := Lib.hid hom; have HSI := Lib.hid hsim; have HMq := Lib.hid hM
  have HB1 : Hid (Below w.heap.size w w1) := below_next ((Below.refl _ _).alloc (Nat.le_refl _) _) hb1
  have hsw : w.heap.size + 1 ≤ w1.heap.size := by have := hb1.size; simpa using this
  have hx0 : w1.heap[w.heap.size]? = some (.cells #[.int .u8 a, .int .u8 b, .int .u8 k] 23 (0, 0)) := (hb1.block _ (by simp)).trans (heap_alloc_new _ _)
  obtain ⟨A1, k1, A2, k2, rfl⟩ := hck.form
  obtain ⟨vr, vk', rfl, h21, h22⟩ := hrv
  have h25 := h21.1; have h26 := h22.1
  obtain ⟨-, A3, k3, rfl, -, -, -, -⟩ := h25
  obtain ⟨-, A4, k4, rfl, -, -, -, -⟩ := h26
  clear hck h21 h22 hok hom hsim hb1 hS hM hSc hSr
  rw [Scr.vals_eq S, Ref.vals_eq M]
  go_upto_region 6 with fail
  obtain ⟨w2, hw2⟩ : ∃ w2, w2 = (w1.alloc (.cells (S.vals (.slice A1 S.grid.length k1) (.slice A2 S.kept.length k2)) 29)).alloc (.cells (M.vals (.slice A3 M.rows.length k3) (.slice A4 M.kept.length k4)) 31) := ⟨_, rfl⟩
  have hb12 : Below w1.heap.size w1 w2 := by rw [hw2]; exact below_alloc2 _ _ _
  have hx2 : w2.heap[w1.heap.size]? = some (.cells (S.vals (.slice A1 S.grid.length k1) (.slice A2 S.kept.length k2)) 29 (0, 0)) := by rw [hw2]; exact alloc2_fst _ _ _
  have HX0 := Lib.hid ((hb12.block _ (block_lt hx0)).trans hx0)
  have HX2 := Lib.hid hx2
  have HV2 := Lib.hid (HV1.out.next hb12)
  have HB2 : Hid (Below w.heap.size w w2) := below_next HB1.out hb12
  have hcap : w.heap.size + 1 ≤ w1.heap.size := hsw
  rw [Scr.vals_eq S, Ref.vals_eq M] at hw2
  rw [← hw2]
  obtain ⟨b7, hb7⟩ : ∃ b7, b7 = w1.heap.size := ⟨_, rfl⟩
  rw [← hb7] at hx2 HX2 hcap ⊢
  have g0 : w2.cell? ⟨b7, 0, none⟩ = some (.int .i64 S.cols) := cell_of_row _ _ _ _ _ _ hx2
  have g1 : w2.cell? ⟨b7, 1, none⟩ = some (.int .i64 S.rows) := cell_of_row _ _ _ _ _ _ hx2
  have g2 : w2.cell? ⟨b7, 2, none⟩ = some (.int .i64 S.most) := cell_of_row _ _ _ _ _ _ hx2
  have g3 : w2.cell? ⟨b7, 3, none⟩ = some (.int .i64 S.x) := cell_of_row _ _ _ _ _ _ hx2
  have g4 : w2.cell? ⟨b7, 4, none⟩ = some (.int .i64 S.y) := cell_of_row _ _ _ _ _ _ hx2
  have g5 : w2.cell? ⟨b7, 5, none⟩ = some (.slice A1 S.grid.length k1) := cell_of_row _ _ _ _ _ _ hx2
  have g6 : w2.cell? ⟨b7, 6, none⟩ = some (.slice A2 S.kept.length k2) := cell_of_row _ _ _ _ _ _ hx2
  have g7 : w2.cell? ⟨b7, 7, none⟩ = some (.int .i64 S.st) := cell_of_row _ _ _ _ _ _ hx2
  have g8 : w2.cell? ⟨b7, 8, none⟩ = some (.int .i64 S.n0) := cell_of_row _ _ _ _ _ _ hx2
  have g9 : w2.cell? ⟨b7, 9, none⟩ = some (.int .i64 S.n1) := cell_of_row _ _ _ _ _ _ hx2
  have g10 : w2.cell? ⟨b7, 10, none⟩ = some (.int .i64 S.num) := cell_of_row _ _ _ _ _ _ hx2
  clear hw2 hb12 HV1 HB1 hb7 hx2 hx0 hsw
  go_wp2_with fail
  refine (size_any _ S _ HV2.out.cv).mono ?_
  rintro e w3 ⟨rfl, hb3⟩
  have HX3 := Lib.hid ((hb3.block _ (block_lt HX2.out)).trans HX2.out)
  have HX03 := Lib.hid ((hb3.block _ (block_lt HX0.out)).trans HX0.out)
  have HV3 := Lib.hid (HV2.out.next hb3)
  have HB3 : Hid (Below w.heap.size w w3) := below_next HB2.out hb3
  clear g0 g1 g2 g3 g4 g5 g6 g7 g8 g9 g10
  clear hb3 HX2 HX0 HV2 HB2
  obtain ⟨L, hL⟩ : ∃ L : List (List UInt8), L = ls.map (lineOf S.cols) := ⟨_, rfl⟩
  have HL := Lib.hid hL
  clear hL
  go_wp2_with fail
  go_loopw [10, 11, 12, 13, 14] (fun lv av iv _ _ wr => ∃ i : Nat, i ≤ n ∧ iv = .int .i64 i ∧ av = .string (bs (allOf (L.take i))) ∧ Hid (Own wr w3.heap.size 9 1 lv i ((L.take i).map strV)) ∧ Hid (Below w3.heap.size w3 wr)) (fun _ _ iv _ _ _ => n - (intOf iv).toNat)
  case atStart => exact ⟨0, Nat.zero_le _, rfl, rfl, Own.nil _ _ _ _, Below.refl _ _⟩
  case round =>
    obtain ⟨wo, rfl⟩ : ∃ wo, wo = wr := ⟨_, rfl⟩
    obtain ⟨i, hin, rfl, rfl, HOr, HBr⟩ := hrel
    have hc20 : S.cols ≤ 20 := by rw [HSc.out]; omega
    obtain ⟨-, A5, c5, rfl, -, -, -, -⟩ := HOr.out.rd
    have hAl : (bs (allOf (L.take i))).size ≤ 840 := by
      rw [bs_size]
      refine Nat.le_trans (allOf_len _ 20 fun l hl => ?_) ?_
      · have := List.mem_of_mem_take hl
        rw [HL.out] at this
        obtain ⟨s, -, rfl⟩ := List.mem_map.1 this
        rw [lineOf_len]; omega
      · rw [List.length_take]; omega
    by_cases hlt : i < n
    · obtain ⟨rb, ro, rfl, hrb, hcl⟩ := HCL.out (by omega)
      have hil : i < ls.length := by rw [← HN.out]; exact hlt
      obtain ⟨s, hs⟩ : ∃ s, s = ls[i] := ⟨_, rfl⟩
      have hcw : ∀ wq : World, Below wo.heap.size wo wq → wq.cell? ⟨rb, ro + i, none⟩ = some (.string s) := by
        intro wq hq
        have h1 : w.cell? ⟨rb, ro + i, none⟩ = some (.string s) := hcl i _ (by rw [List.getElem?_map, List.getElem?_eq_getElem hil, hs]; rfl)
        have h2 : Below w.heap.size w wq := below_next (below_next HB3.out HBr.out) hq
        exact (h2.cell (p := ⟨rb, ro + i, none⟩) hrb).trans h1
      have hss : s.size ≤ 9223372036854775807 := by have := HSZ.out s (by rw [hs]; exact List.getElem_mem _); unfold maxLen at this; omega
      have HLi : Hid (L.take (i + 1) = L.take i ++ [lineOf S.cols s]) := by
        have h1 : i < L.length := by rw [HL.out, List.length_map]; exact hil
        have e : L[i] = lineOf S.cols s := by rw [hs]; simp only [HL.out, List.getElem_map]
        rw [List.take_succ_eq_append_getElem h1, e]; exact Lib.hid rfl
      have HCW := Lib.hid hcw
      clear hs hil hcw hcl
      have HAE : Hid (∃ AL, AL = bs (allOf (L.take i))) := ⟨_, rfl⟩
      obtain ⟨AL, hAL⟩ := HAE.out
      have HAL := Lib.hid hAL
      rw [← hAL] at hAl ⊢
      clear HAE hAL
      go_wp2_with fail
      go_loopw [13, 14] (fun sv kv wq => ∃ p : Nat, p ≤ S.cols ∧ p ≤ s.size ∧ kv = .int .i64 p ∧ sv = .string (bs ((lineOf S.cols s).take p)) ∧ Hid (Below wo.heap.size wo wq)) (fun _ kv _ => S.cols - (intOf kv).toNat)
      case atStart => exact ⟨0, Nat.zero_le _, Nat.zero_le _, rfl, rfl, Below.refl _ _⟩
      case round =>
        obtain ⟨p, hp1, hp2, rfl, rfl, HBq⟩ := hrel
        have hq := HCW.out _ HBq.out
        by_cases hps : p < s.size
        · have d1 : decide ((p : Int) < (s.size : Int)) = true := by simp; omega
          by_cases hpc : p < S.cols
          · have d2 : decide ((p : Int) < (S.cols : Int)) = true := by simp; omega
            have hx := idx_str Tryd.underlying9 s p (p : Int) rfl hps
            have HST := Lib.hid (lineOf_step S.cols s p hpc hps)
            obtain ⟨d, hd⟩ : ∃ d : UInt8, d = s.data.toList.getD p 0 := ⟨_, rfl⟩
            rw [← hd] at hx HST
            clear hd
            have hcv := conv_one wr (lineC d)
            rw [lineC_cast] at hcv
            have hbs1 : (bs ((lineOf S.cols s).take p)).size ≤ 20 := by rw [bs_size, List.length_take]; omega
            have hbs2 : (bs [lineC d]).size = 1 := bs_size _
            obtain ⟨Z, hZ⟩ : ∃ Z, Z = bs ((lineOf S.cols s).take p) := ⟨_, rfl⟩
            have HZ := Lib.hid hZ
            rw [← hZ] at hbs1 ⊢
            clear hZ
            go_wp2_with fail
            go_roundw
            case rel =>
              refine ⟨p + 1, by omega, by omega, by go_num, ?_, below_next HBq.out ((Below.refl _ _).alloc (Nat.le_refl _) _)⟩
              rw [HST.out, HZ.out, bs_append]
            case measure => simp [intOf]; omega
          · have d2 : decide ((p : Int) < (S.cols : Int)) = false := by simp; omega
            obtain rfl : p = S.cols := by omega
            have HTK : Hid ((lineOf S.cols s).take S.cols = lineOf S.cols s) := by rw [List.take_of_length_le (by rw [lineOf_len]; omega)]; exact Lib.hid rfl
            rw [HTK.out]
            have hz1 : (lineOf S.cols s).length ≤ 20 := by rw [lineOf_len]; omega
            have hz2 := bs_size (lineOf S.cols s)
            obtain ⟨Z, hZ⟩ : ∃ Z, Z = bs (lineOf S.cols s) := ⟨_, rfl⟩
            have HZ := Lib.hid hZ
            have HOq : Hid (Own wr w3.heap.size 9 1 (.slice A5 i c5) i ((L.take i).map strV)) := HOr.out.next HBq.out
            have hwq : w3.heap.size ≤ wr.heap.size := Nat.le_trans HBr.out.size HBq.out.size
            rw [← hZ] at hz2 ⊢
            clear hZ
            go_wp2_with (at_builtin; refine wpList_app _ rfl (.tmp 70) (.tmp 72) 26 26 rfl w3.heap.size 9 i0 _ 1 16 Tryd.underlying26 HI.out HZ0.out HZ1.out HZ2.out rfl _ i ((L.take i).map strV) rfl ?c1 _ rfl 1 [.string Z] ?c2 ?c3 ?c4 ?c5 ?_)
            case c1 => exact HOq.out.next ((Below.refl _ _).alloc (Nat.le_refl _) _)
            case c2 => exact (build_one wr 9 _).src _ Tryd.underlying26 (by simp [Value.oneCell'])
            case c3 => unfold maxLen; omega
            case c4 => omega
            case c5 => simp; omega
            intro v9 w9 hown9 hrow9 hb9 _
            obtain ⟨-, A7, c7, rfl, -, -, -, -⟩ := hown9.rd
            have HO9 := Lib.hid hown9
            have HB9 : Hid (Below w3.heap.size w3 w9) := (((below_next HBr.out HBq.out).alloc hwq _).trans hb9)
            clear hown9 hrow9 hb9
            go_wp2_with fail
            go_roundw
            case rel =>
              refine ⟨i + 1, by omega, by go_num, ?_, ?_, HB9.out⟩
              · rw [HLi.out, allOf_snoc, HAL.out, HZ.out, ← bs_append, ← bs_append, ByteArray.append_assoc]; rfl
              · rw [HLi.out, List.map_append, show [lineOf S.cols s].map strV = [.string Z] from by rw [HZ.out]; rfl, List.map_take]; exact HO9.out
            case measure => simp [intOf]; omega
        · have d1 : decide ((p : Int) < (s.size : Int)) = false := by simp; omega
          obtain rfl : p = s.size := by omega
          have HTK : Hid ((lineOf S.cols s).take s.size = lineOf S.cols s) := by rw [List.take_of_length_le (by rw [lineOf_len]; omega)]; exact Lib.hid rfl
          rw [HTK.out]
          have hz1 : (lineOf S.cols s).length ≤ 20 := by rw [lineOf_len]; omega
          have hz2 := bs_size (lineOf S.cols s)
          obtain ⟨Z, hZ⟩ : ∃ Z, Z = bs (lineOf S.cols s) := ⟨_, rfl⟩
          have HZ := Lib.hid hZ
          have HOq : Hid (Own wr w3.heap.size 9 1 (.slice A5 i c5) i ((L.take i).map strV)) := HOr.out.next HBq.out
          have hwq : w3.heap.size ≤ wr.heap.size := Nat.le_trans HBr.out.size HBq.out.size
          rw [← hZ] at hz2 ⊢
          clear hZ
          go_wp2_with (at_builtin; refine wpList_app _ rfl (.tmp 70) (.tmp 72) 26 26 rfl w3.heap.size 9 i0 _ 1 16 Tryd.underlying26 HI.out HZ0.out HZ1.out HZ2.out rfl _ i ((L.take i).map strV) rfl ?c1 _ rfl 1 [.string Z] ?c2 ?c3 ?c4 ?c5 ?_)
          case c1 => exact HOq.out.next ((Below.refl _ _).alloc (Nat.le_refl _) _)
          case c2 => exact (build_one wr 9 _).src _ Tryd.underlying26 (by simp [Value.oneCell'])
          case c3 => unfold maxLen; omega
          case c4 => omega
          case c5 => simp; omega
          intro v9 w9 hown9 hrow9 hb9 _
          obtain ⟨-, A7, c7, rfl, -, -, -, -⟩ := hown9.rd
          have HO9 := Lib.hid hown9
          have HB9 : Hid (Below w3.heap.size w3 w9) := (((below_next HBr.out HBq.out).alloc hwq _).trans hb9)
          clear hown9 hrow9 hb9
          go_wp2_with fail
          go_roundw
          case rel =>
            refine ⟨i + 1, by omega, by go_num, ?_, ?_, HB9.out⟩
            · rw [HLi.out, allOf_snoc, HAL.out, HZ.out, ← bs_append, ← bs_append, ByteArray.append_assoc]; rfl
            · rw [HLi.out, List.map_append, show [lineOf S.cols s].map strV = [.string Z] from by rw [HZ.out]; rfl, List.map_take]; exact HO9.out
          case measure => simp [intOf]; omega
    · obtain rfl : i = n := by omega
      have HLn : Hid (L.length = i) := by rw [HL.out, List.length_map]; exact HN.out.symm
      have hLt : L.take i = L := List.take_of_length_le (by rw [HLn.out]; exact Nat.le_refl _)
      rw [hLt] at HOr hAl ⊢
      have HLL : Hid (∀ l ∈ L, l.length ≤ S.cols ∧ Letters l) := by
        rw [HL.out]
        refine Lib.hid fun l hl => ?_
        obtain ⟨s, -, rfl⟩ := List.mem_map.1 hl
        exact ⟨by rw [lineOf_len]; omega, lineOf_letters _ _⟩
      have HX4 := Lib.hid ((HBr.out.block _ (block_lt HX3.out)).trans HX3.out)
      have HX04 := Lib.hid ((HBr.out.block _ (block_lt HX03.out)).trans HX03.out)
      have HV4 := Lib.hid (HV3.out.next HBr.out)
      have HB4 : Hid (Below w.heap.size w wo) := below_next HB3.out HBr.out
      obtain ⟨T, hT⟩ : ∃ T : Scr, T = S.bytes (allOf L) := ⟨_, rfl⟩
      obtain ⟨N, hNq⟩ : ∃ N : Ref, N = M.bytes (allOf L) := ⟨_, rfl⟩
      have HOT : Hid T.Ok := by rw [hT]; exact HO.out.bytes _
      have HON : Hid N.Ok := by rw [hNq]; exact HOM.out.bytes _
      have HET : Hid (Eqv T N) := by rw [hT, hNq]; exact (HSI.out.bytes HOM.out _).eqv (HOM.out.bytes _)
      have HLA : Hid (LinesAt N S.cols S.rows (k % 12) L) := by rw [hNq, HMq.out, HSc.out, HSr.out]; refine lines_all _ _ _ (by omega) L ?_; rw [← HSc.out]; exact HLL.out
      have HTq := Lib.hid hT
      clear hT hNq hLt HX3 HX03 HV3 HB3
      have hx4 := HX4.out
      have g0 : wo.cell? ⟨b7, 0, none⟩ = some (.int .i64 S.cols) := cell_of_row _ _ _ _ _ _ hx4
      have g1 : wo.cell? ⟨b7, 1, none⟩ = some (.int .i64 S.rows) := cell_of_row _ _ _ _ _ _ hx4
      have g2 : wo.cell? ⟨b7, 2, none⟩ = some (.int .i64 S.most) := cell_of_row _ _ _ _ _ _ hx4
      have g3 : wo.cell? ⟨b7, 3, none⟩ = some (.int .i64 S.x) := cell_of_row _ _ _ _ _ _ hx4
      have g4 : wo.cell? ⟨b7, 4, none⟩ = some (.int .i64 S.y) := cell_of_row _ _ _ _ _ _ hx4
      have g5 : wo.cell? ⟨b7, 5, none⟩ = some (.slice A1 S.grid.length k1) := cell_of_row _ _ _ _ _ _ hx4
      have g6 : wo.cell? ⟨b7, 6, none⟩ = some (.slice A2 S.kept.length k2) := cell_of_row _ _ _ _ _ _ hx4
      have g7 : wo.cell? ⟨b7, 7, none⟩ = some (.int .i64 S.st) := cell_of_row _ _ _ _ _ _ hx4
      have g8 : wo.cell? ⟨b7, 8, none⟩ = some (.int .i64 S.n0) := cell_of_row _ _ _ _ _ _ hx4
      have g9 : wo.cell? ⟨b7, 9, none⟩ = some (.int .i64 S.n1) := cell_of_row _ _ _ _ _ _ hx4
      have g10 : wo.cell? ⟨b7, 10, none⟩ = some (.int .i64 S.num) := cell_of_row _ _ _ _ _ _ hx4
      have fu0 : wo.frozen? ⟨b7, 0, none⟩ = false := frozen_of_row _ _ _ _ _ hx4
      have fu1 : wo.frozen? ⟨b7, 1, none⟩ = false := frozen_of_row _ _ _ _ _ hx4
      have fu2 : wo.frozen? ⟨b7, 2, none⟩ = false := frozen_of_row _ _ _ _ _ hx4
      have fu3 : wo.frozen? ⟨b7, 3, none⟩ = false := frozen_of_row _ _ _ _ _ hx4
      have fu4 : wo.frozen? ⟨b7, 4, none⟩ = false := frozen_of_row _ _ _ _ _ hx4
      have fu5 : wo.frozen? ⟨b7, 5, none⟩ = false := frozen_of_row _ _ _ _ _ hx4
      have fu6 : wo.frozen? ⟨b7, 6, none⟩ = false := frozen_of_row _ _ _ _ _ hx4
      have fu7 : wo.frozen? ⟨b7, 7, none⟩ = false := frozen_of_row _ _ _ _ _ hx4
      have fu8 : wo.frozen? ⟨b7, 8, none⟩ = false := frozen_of_row _ _ _ _ _ hx4
      have fu9 : wo.frozen? ⟨b7, 9, none⟩ = false := frozen_of_row _ _ _ _ _ hx4
      have fu10 : wo.frozen? ⟨b7, 10, none⟩ = false := frozen_of_row _ _ _ _ _ hx4
      clear hx4
      obtain ⟨AL, hAL⟩ : ∃ AL, AL = bs (allOf L) := ⟨_, rfl⟩
      have HAL := Lib.hid hAL
      rw [← hAL] at hAl ⊢
      clear hAL
      go_wp2_with fail
      refine (write_walk _ S AL _ HV4.out.cv HO.out (by omega)).mono ?_
      rintro e w5 ⟨v5, rfl, hck5, hb5⟩
      rw [HAL.out, bs_list, ← HTq.out] at hck5
      have hx5 := (hb5.block _ (block_lt HX4.out)).trans HX4.out
      have HX5 := Lib.hid hx5
      have HX05 := Lib.hid ((hb5.block _ (block_lt HX04.out)).trans HX04.out)
      have HV5 := Lib.hid hck5
      have HO5 := Lib.hid (HOr.out.next hb5)
      have HB5 : Hid (Below w.heap.size w w5) := below_next HB4.out hb5
      obtain ⟨A6, k6, A8, k8, rfl⟩ := hck5.form
      clear hck5 hb5 HX4 HX04 HV4 HOr HB4 HBr
      clear g0 g1 g2 g3 g4 g5 g6 g7 g8 g9 g10
      clear fu0 fu1 fu2 fu3 fu4 fu5 fu6 fu7 fu8 fu9 fu10
      have g0 : w5.cell? ⟨b7, 0, none⟩ = some (.int .i64 S.cols) := cell_of_row _ _ _ _ _ _ hx5
      have g1 : w5.cell? ⟨b7, 1, none⟩ = some (.int .i64 S.rows) := cell_of_row _ _ _ _ _ _ hx5
      have g2 : w5.cell? ⟨b7, 2, none⟩ = some (.int .i64 S.most) := cell_of_row _ _ _ _ _ _ hx5
      have g3 : w5.cell? ⟨b7, 3, none⟩ = some (.int .i64 S.x) := cell_of_row _ _ _ _ _ _ hx5
      have g4 : w5.cell? ⟨b7, 4, none⟩ = some (.int .i64 S.y) := cell_of_row _ _ _ _ _ _ hx5
      have g5 : w5.cell? ⟨b7, 5, none⟩ = some (.slice A1 S.grid.length k1) := cell_of_row _ _ _ _ _ _ hx5
      have g6 : w5.cell? ⟨b7, 6, none⟩ = some (.slice A2 S.kept.length k2) := cell_of_row _ _ _ _ _ _ hx5
      have g7 : w5.cell? ⟨b7, 7, none⟩ = some (.int .i64 S.st) := cell_of_row _ _ _ _ _ _ hx5
      have g8 : w5.cell? ⟨b7, 8, none⟩ = some (.int .i64 S.n0) := cell_of_row _ _ _ _ _ _ hx5
      have g9 : w5.cell? ⟨b7, 9, none⟩ = some (.int .i64 S.n1) := cell_of_row _ _ _ _ _ _ hx5
      have g10 : w5.cell? ⟨b7, 10, none⟩ = some (.int .i64 S.num) := cell_of_row _ _ _ _ _ _ hx5
      have fu0 : w5.frozen? ⟨b7, 0, none⟩ = false := frozen_of_row _ _ _ _ _ hx5
      have fu1 : w5.frozen? ⟨b7, 1, none⟩ = false := frozen_of_row _ _ _ _ _ hx5
      have fu2 : w5.frozen? ⟨b7, 2, none⟩ = false := frozen_of_row _ _ _ _ _ hx5
      have fu3 : w5.frozen? ⟨b7, 3, none⟩ = false := frozen_of_row _ _ _ _ _ hx5
      have fu4 : w5.frozen? ⟨b7, 4, none⟩ = false := frozen_of_row _ _ _ _ _ hx5
      have fu5 : w5.frozen? ⟨b7, 5, none⟩ = false := frozen_of_row _ _ _ _ _ hx5
      have fu6 : w5.frozen? ⟨b7, 6, none⟩ = false := frozen_of_row _ _ _ _ _ hx5
      have fu7 : w5.frozen? ⟨b7, 7, none⟩ = false := frozen_of_row _ _ _ _ _ hx5
      have fu8 : w5.frozen? ⟨b7, 8, none⟩ = false := frozen_of_row _ _ _ _ _ hx5
      have fu9 : w5.frozen? ⟨b7, 9, none⟩ = false := frozen_of_row _ _ _ _ _ hx5
      have fu10 : w5.frozen? ⟨b7, 10, none⟩ = false := frozen_of_row _ _ _ _ _ hx5
      clear hx5
      rw [Scr.vals_eq T]
      go_upto_region 20 with fail
      change Code.wp _ _ _ _ (w5.setCells b7 0 (T.vals (.slice A6 T.grid.length k6) (.slice A8 T.kept.length k8)).toList)
      obtain ⟨w6, hw6⟩ : ∃ w6, w6 = w5.setCells b7 0 (T.vals (.slice A6 T.grid.length k6) (.slice A8 T.kept.length k8)).toList := ⟨_, rfl⟩
      have hg6 : w5.grownBy w6 (some b7) := by rw [hw6]; exact grown_setCells w5 b7 0 _
      have HX6 : Hid (w6.heap[b7]? = some (.cells (T.vals (.slice A6 T.grid.length k6) (.slice A8 T.kept.length k8)) 29 (0, 0))) := by rw [hw6]; exact scr_over HX5.out _ _ _
      have HX06 : Hid (w6.heap[w.heap.size]? = some (.cells #[.int .u8 a, .int .u8 b, .int .u8 k] 23 (0, 0))) := by rw [hw6]; exact (World.heap_setCells_other w5 b7 0 _ (block_lt HX05.out) (by omega)).trans HX05.out
      have HV6 := Lib.hid (HV5.out.ne HX5.out (by decide) (by decide) hg6)
      have HO6 : Hid (RdT w6 9 (.slice A5 i c5) i (L.map strV)) := HO5.out.rdt.ne HX5.out (by decide) hg6
      have HB6 : Hid (Below w.heap.size w w6) := by rw [hw6]; exact below_cells HB5.out b7 0 _ (by omega) HB5.out.size
      rw [← hw6]
      clear hw6 hg6 HX5 HX05 HV5 HO5 HB5
      clear g0 g1 g2 g3 g4 g5 g6 g7 g8 g9 g10
      clear fu0 fu1 fu2 fu3 fu4 fu5 fu6 fu7 fu8 fu9 fu10
      have hr1 : 1 ≤ S.rows := by rw [HSr.out]; omega
      have hr8 : S.rows ≤ 8 := by rw [HSr.out]; omega
      have HCE : Hid (0 < i → ∃ tb tt, A5 = some ⟨tb, tt, none⟩ ∧ tb < w6.heap.size ∧ ∀ j, j < i → w6.cell? ⟨tb, tt + j, none⟩ = some (.string (bs (L.getD j [])))) := by
        refine Lib.hid fun hi0 => ?_
        obtain ⟨-, A9, c9, h1, -, -, -, h2⟩ := HO6.out.1
        injection h1 with h1 h3 h4
        obtain ⟨tb, tt, h5, h6, h7⟩ := h2 hi0
        refine ⟨tb, tt, h1.trans h5, h6, fun j hj => h7 j _ ?_⟩
        rw [List.getElem?_map, List.getD_eq_getElem?_getD, List.getElem?_eq_getElem (by rw [HLn.out]; exact hj)]; rfl
      obtain ⟨g, hg⟩ : ∃ g : Nat, g = i - (S.rows - 1) := ⟨_, rfl⟩
      have hmax : max 0 ((i : Int) - ((S.rows : Int) - 1)) = (g : Int) := by rw [hg]; omega
      have hgi : g ≤ i := by omega
      have HG := Lib.hid hg
      have HWL : Hid (∀ n, (wantUpto L g n).length ≤ n * (20 + 1)) := Lib.hid fun n => want_len L 20 g n fun l hl => Nat.le_trans (HLL.out l hl).1 hc20
      clear hg
      go_wp2_with fail
      go_loop [16, 17] (fun tv jv => ∃ j : Nat, j ≤ S.rows ∧ jv = .int .i64 j ∧ tv = .string (bs (wantUpto L g j))) (fun _ jv => S.rows - (intOf jv).toNat)
      case atStart => exact ⟨0, Nat.zero_le _, rfl, rfl⟩
      case round =>
        obtain ⟨j, hj, rfl, rfl⟩ := hrel
        have hwl : (bs (wantUpto L g j)).size ≤ 168 := by have := HWL.out j; rw [bs_size]; omega
        by_cases hlj : j < S.rows
        · have d1 : decide ((j : Int) < (S.rows : Int)) = true := by simp; omega
          have HWS := Lib.hid (want_succ L g j)
          obtain ⟨Y, hY⟩ : ∃ Y, Y = bs (wantUpto L g j) := ⟨_, rfl⟩
          have HY := Lib.hid hY
          rw [← hY] at hwl ⊢
          clear hY
          by_cases hgj : g + j < i
          · have d2 : decide ((g : Int) + (j : Int) < (i : Int)) = true := by simp; omega
            obtain ⟨tb, tt, rfl, htb, hcl⟩ := HCE.out (by omega)
            have hc9 := hcl (g + j) hgj
            have hcz : (bs (L.getD (g + j) [])).size ≤ 20 := by rw [bs_size]; exact getD_le L 20 _ fun l hl => Nat.le_trans (HLL.out l hl).1 hc20
            obtain ⟨X, hX⟩ : ∃ X, X = bs (L.getD (g + j) []) := ⟨_, rfl⟩
            have HXX := Lib.hid hX
            rw [← hX] at hc9 hcz
            clear hX hcl
            go_wp2_with fail
            refine ⟨⟨j + 1, by omega, by go_num, ?_⟩, by simp [intOf]; omega⟩
            rw [HWS.out, ← bs_append, ← bs_append, HY.out, HXX.out]; rfl
          · have d2 : decide ((g : Int) + (j : Int) < (i : Int)) = false := by simp; omega
            have HGD : Hid (L.getD (g + j) [] = []) := by rw [List.getD_eq_getElem?_getD, List.getElem?_eq_none (by rw [HLn.out]; omega)]; exact Lib.hid rfl
            go_wp2_with fail
            refine ⟨⟨j + 1, by omega, by go_num, ?_⟩, by simp [intOf]; omega⟩
            rw [HWS.out, HGD.out, List.append_nil, ← bs_append, HY.out]; rfl
        · obtain rfl : j = S.rows := by omega
          have d1 : decide ((S.rows : Int) < (S.rows : Int)) = false := by simp
          have HTX : Hid (T.text = wantUpto L g S.rows) := by rw [HET.out.text, HLA.out.text (fun l hl => (HLL.out l hl).2), HLn.out, ← HG.out]; exact Lib.hid rfl
          have HKL : Hid (T.kept.length = min g (k % 12)) := by rw [HET.out.k, HLA.out.keptLen, HLn.out, ← HG.out]; exact Lib.hid rfl
          obtain ⟨K, hK⟩ : ∃ K, K = min g (k % 12) := ⟨_, rfl⟩
          rw [← hK] at HKL
          have hK12 : K ≤ 12 := by omega
          have hKg : K ≤ g := by omega
          have HKi : Hid ((K : Int) = min (g : Int) ((k : Int) % 12)) := Lib.hid (by omega)
          have HBK : Hid (∀ p : Nat, 1 ≤ p → p ≤ K → T.back p = pad S.cols (L.getD (g - p) []) ∧ g - p < i) := by
            refine Lib.hid fun p h1 h2 => ?_
            have hNK : N.kept.length = K := by rw [← HET.out.k]; exact HKL.out
            have := HLA.out.back p h1 (by omega)
            rw [HLn.out, ← HG.out] at this
            refine ⟨?_, this.2⟩
            rw [← this.1]
            unfold Scr.back
            rw [if_pos ⟨by omega, by rw [HKL.out]; omega⟩, HET.out.k, Int.toNat_natCast]
          obtain ⟨Y, hY⟩ : ∃ Y, Y = bs (wantUpto L g S.rows) := ⟨_, rfl⟩
          rw [← hY]
          have HY : Hid (strV T.text = .string Y) := by rw [strV_bs, HTX.out, ← hY]; exact Lib.hid rfl
          clear hY hwl hK
          go_upto_region 28 with fail
          have hLs : ∀ w', Later w6 w' → w'.heap[b7]? = some (.cells (T.vals (.slice A6 T.grid.length k6) (.slice A8 T.kept.length k8)) 29 (0, 0)) := fun w' h => (h.block _ (block_lt HX6.out)).trans HX6.out
          have hLz : ∀ w', Later w6 w' → w'.cell? ⟨w.heap.size, 2, none⟩ = some (.int .u8 k) := fun w' h => cell_of_row _ _ _ _ _ _ ((h.block _ (block_lt HX06.out)).trans HX06.out)
          refine wp_region_meek [Stay.val (.agg (T.vals (.slice A6 T.grid.length k6) (.slice A8 T.kept.length k8))), Stay.val (.string Y), Stay.val (.string Y), Stay.val (.bool false), Stay.val (.bool false), Stay.val (.agg (T.vals (.slice A6 T.grid.length k6) (.slice A8 T.kept.length k8))), Stay.val (.int .i64 K), Stay.val (.int .i64 g), Stay.val (.pointer (some ⟨w.heap.size, 2, none⟩)), Stay.val (.int .u8 k), Stay.val (.int .u8 ((k % 12 : Nat) : Int)), Stay.val (.int .i64 ((k % 12 : Nat) : Int)), Stay.val (.int .i64 K), Stay.val (.bool false), Stay.val (.bool false)] 151 rfl (by kernel_rfl) (by kernel_rfl) ?_ ?_
          · refine ⟨meek_plain rfl (body_load _ _ _ _ rfl (opd_out 5 (by kernel_rfl) _ rfl) fun w' h => ⟨load_scr (hLs w' h), rfl⟩), ?_⟩
            refine ⟨meek_plain rfl (body_call1 _ _ _ _ rfl (by kernel_rfl) (opd_in 0 108 (by kernel_rfl)) fun v w' h hv => ?_), ?_⟩
            · obtain rfl := hv
              refine (text_walk _ T _ (HV6.out.next h).cv HOT.out).mono ?_
              rintro e w9 ⟨rfl, hb9⟩
              exact ⟨_, rfl, hb9, HY.out⟩
            refine ⟨meek_plain rfl (body_move _ rfl (opd_out 16 (by kernel_rfl) _ rfl)), ?_⟩
            refine ⟨meek_plain rfl (body_two _ _ _ _ (.bool false) (opd_in 1 109 (by kernel_rfl)) (opd_in 2 110 (by kernel_rfl)) (fun _ => rfl) fun ρ w h1 h2 => (by simp [execOp, h1, h2, go_sem])), ?_⟩
            refine ⟨meek_plain rfl (body_move _ rfl (opd_in 3 111 (by kernel_rfl))), ?_⟩
            refine ⟨meek_on 4 false 151 rfl (by kernel_rfl) (fun _ _ h => h) (body_load _ _ _ _ rfl (opd_out 5 (by kernel_rfl) _ rfl) fun w' h => ⟨load_scr (hLs w' h), rfl⟩), ?_⟩
            refine ⟨meek_on 4 false 151 rfl (by kernel_rfl) (fun _ _ h => h) (body_call1 _ _ _ _ rfl (by kernel_rfl) (opd_in 5 113 (by kernel_rfl)) fun v w' h hv => ?_), ?_⟩
            · obtain rfl := hv
              refine (kept_any _ T _ (HV6.out.next h).cv).mono ?_
              rintro e w9 ⟨rfl, hb9⟩
              exact ⟨_, rfl, hb9, congrArg (fun n : Nat => Value.int .i64 (n : Int)) HKL.out⟩
            refine ⟨meek_on 4 false 151 rfl (by kernel_rfl) (fun _ _ h => h) (body_move _ rfl (opd_out 15 (by kernel_rfl) _ rfl)), ?_⟩
            refine ⟨meek_on 4 false 151 rfl (by kernel_rfl) (fun _ _ h => h) (body_one _ _ (.pointer (some ⟨w.heap.size, 2, none⟩)) (opd_out 2 (by kernel_rfl) _ rfl) (fun _ => rfl) fun ρ w h1 => (by simp [execOp, h1, go_sem])), ?_⟩
            refine ⟨meek_on 4 false 151 rfl (by kernel_rfl) (fun _ _ h => h) (body_load _ _ _ _ rfl (opd_in 8 116 (by kernel_rfl)) fun w' h => ⟨load_u8b (hLz w' h), rfl⟩), ?_⟩
            refine ⟨meek_on 4 false 151 rfl (by kernel_rfl) (fun _ _ h => h) (body_two _ _ _ _ (.int .u8 ((k % 12 : Nat) : Int)) (opd_in 9 117 (by kernel_rfl)) (opd_const (.int .u8 12)) (fun _ => rfl) fun ρ w h1 h2 => (by simp [execOp, h1, h2, go_sem]; exact Int.tmod_eq_emod_of_nonneg (by omega))), ?_⟩
            refine ⟨meek_on 4 false 151 rfl (by kernel_rfl) (fun _ _ h => h) (body_one _ _ (.int .i64 ((k % 12 : Nat) : Int)) (opd_in 10 118 (by kernel_rfl)) (fun _ => rfl) fun ρ w h1 => (by simp [execOp, h1, go_sem]; rw [IntWalk.i64_in _ (by omega)])), ?_⟩
            refine ⟨meek_on 4 false 151 rfl (by kernel_rfl) (fun _ _ h => h) (body_two _ _ _ _ (.int .i64 K) (opd_in 7 115 (by kernel_rfl)) (opd_in 11 119 (by kernel_rfl)) (fun _ => rfl) fun ρ w h1 h2 => (by simp [h1, h2, go_sem]; exact HKi.out.symm)), ?_⟩
            refine ⟨meek_on 4 false 151 rfl (by kernel_rfl) (fun _ _ h => h) (body_two _ _ _ _ (.bool false) (opd_in 6 114 (by kernel_rfl)) (opd_in 12 120 (by kernel_rfl)) (fun _ => rfl) fun ρ w h1 h2 => (by simp [execOp, h1, h2, go_sem])), ?_⟩
            refine ⟨meek_plain rfl (body_pick _ _ _ false rfl (opd_in 4 112 (by kernel_rfl)) (opd_in 13 121 (by kernel_rfl))), ?_⟩
            exact trivial
          · intro gg w7 h7 hend
            have e122 : gg 122 = .bool false := meek_val hend 14 122 (by kernel_rfl) _ rfl
            clear hend hLs hLz
            simp only [putAll, Act.put, List.setIfInBounds_toArray, List.set_cons_succ, List.set_cons_zero, e122]
            clear e122
            generalize gg 108 = z108
            generalize gg 109 = z109
            generalize gg 110 = z110
            generalize gg 111 = z111
            generalize gg 112 = z112
            generalize gg 113 = z113
            generalize gg 114 = z114
            generalize gg 115 = z115
            generalize gg 116 = z116
            generalize gg 117 = z117
            generalize gg 118 = z118
            generalize gg 119 = z119
            generalize gg 120 = z120
            generalize gg 121 = z121
            have HX7 := Lib.hid ((h7.block _ (block_lt HX6.out)).trans HX6.out)
            have HV7 := Lib.hid (HV6.out.next h7)
            have HB7 : Hid (Below w.heap.size w w7) := below_next HB6.out h7
            have HC7 : Hid (0 < i → ∃ tb tt, A5 = some ⟨tb, tt, none⟩ ∧ tb < w7.heap.size ∧ ∀ j, j < i → w7.cell? ⟨tb, tt + j, none⟩ = some (.string (bs (L.getD j [])))) := by
              refine Lib.hid fun hi0 => ?_
              obtain ⟨tb, tt, h1, h2, h3⟩ := HCE.out hi0
              exact ⟨tb, tt, h1, Nat.lt_of_lt_of_le h2 h7.size, fun j hj => (h7.cell (p := ⟨tb, tt + j, none⟩) h2).trans (h3 j hj)⟩
            clear HX6 HV6 HB6 HCE h7 HX06
            go_wp2_with fail
            go_loopw [18, 19, 20] (fun pv _ _ wr => ∃ p : Nat, 1 ≤ p ∧ p ≤ K + 1 ∧ pv = .int .i64 p ∧ Hid (Below w7.heap.size w7 wr)) (fun pv _ _ _ => K + 1 - (intOf pv).toNat)
            case atStart => exact ⟨1, Nat.le_refl _, by omega, rfl, Below.refl _ _⟩
            case round =>
              obtain ⟨p, hp1, hp2, rfl, HBr⟩ := hrel
              have hx8 := (HBr.out.block _ (block_lt HX7.out)).trans HX7.out
              have HX8 := Lib.hid hx8
              have HV8 := Lib.hid (HV7.out.next HBr.out)
              have g0 : wr.cell? ⟨b7, 0, none⟩ = some (.int .i64 T.cols) := cell_of_row _ _ _ _ _ _ hx8
              have g1 : wr.cell? ⟨b7, 1, none⟩ = some (.int .i64 T.rows) := cell_of_row _ _ _ _ _ _ hx8
              have g2 : wr.cell? ⟨b7, 2, none⟩ = some (.int .i64 T.most) := cell_of_row _ _ _ _ _ _ hx8
              have g3 : wr.cell? ⟨b7, 3, none⟩ = some (.int .i64 T.x) := cell_of_row _ _ _ _ _ _ hx8
              have g4 : wr.cell? ⟨b7, 4, none⟩ = some (.int .i64 T.y) := cell_of_row _ _ _ _ _ _ hx8
              have g5 : wr.cell? ⟨b7, 5, none⟩ = some (.slice A6 T.grid.length k6) := cell_of_row _ _ _ _ _ _ hx8
              have g6 : wr.cell? ⟨b7, 6, none⟩ = some (.slice A8 T.kept.length k8) := cell_of_row _ _ _ _ _ _ hx8
              have g7 : wr.cell? ⟨b7, 7, none⟩ = some (.int .i64 T.st) := cell_of_row _ _ _ _ _ _ hx8
              have g8 : wr.cell? ⟨b7, 8, none⟩ = some (.int .i64 T.n0) := cell_of_row _ _ _ _ _ _ hx8
              have g9 : wr.cell? ⟨b7, 9, none⟩ = some (.int .i64 T.n1) := cell_of_row _ _ _ _ _ _ hx8
              have g10 : wr.cell? ⟨b7, 10, none⟩ = some (.int .i64 T.num) := cell_of_row _ _ _ _ _ _ hx8
              clear hx8
              go_wp2_with fail
              refine (kept_any _ T _ HV8.out.cv).mono ?_
              rintro e w9 ⟨rfl, hb9⟩
              have HX9 := Lib.hid ((hb9.block _ (block_lt HX8.out)).trans HX8.out)
              have HV9 := Lib.hid (HV8.out.next hb9)
              have HB9 : Hid (Below w7.heap.size w7 w9) := below_next HBr.out hb9
              clear g0 g1 g2 g3 g4 g5 g6 g7 g8 g9 g10
              clear hb9 HX8 HV8 HBr
              by_cases hpK : p ≤ K
              · have hpT : (p : Int) ≤ (T.kept.length : Int) := by have := HKL.out; omega
                obtain ⟨hbk, hgp⟩ := HBK.out p hp1 hpK
                obtain ⟨tb, tt, rfl, htb, hcl⟩ := HC7.out (by omega)
                have hLc : ∀ w', Later w9 w' → w'.cell? ⟨tb, tt + (g - p), none⟩ = some (.string (bs (L.getD (g - p) []))) := fun w' h => ((below_next HB9.out h).cell (p := ⟨tb, tt + (g - p), none⟩) htb).trans (hcl _ hgp)
                have hLs : ∀ w', Later w9 w' → w'.heap[b7]? = some (.cells (T.vals (.slice A6 T.grid.length k6) (.slice A8 T.kept.length k8)) 29 (0, 0)) := fun w' h => (h.block _ (block_lt HX9.out)).trans HX9.out
                have hln : (L.getD (g - p) []).length ≤ S.cols := getD_le L S.cols _ fun l hl => (HLL.out l hl).1
                have hpl := pad_len S.cols (L.getD (g - p) []) hln
                have hpt := pad_take S.cols (L.getD (g - p) [])
                have hgp1 : 1 ≤ g := by omega
                have hpg : p ≤ g := by omega
                obtain ⟨X, hX⟩ : ∃ X, X = bs (L.getD (g - p) []) := ⟨_, rfl⟩
                obtain ⟨Z, hZ⟩ : ∃ Z, Z = bs (pad S.cols (L.getD (g - p) [])) := ⟨_, rfl⟩
                have hXs : X.size ≤ S.cols := by rw [hX, bs_size]; exact hln
                have hZs : Z.size = S.cols := by rw [hZ, bs_size]; exact hpl
                have HBV : Hid (strV (T.back p) = .string Z) := by rw [hbk, hZ]; exact Lib.hid rfl
                have HXZ : Hid (X.size ≤ Z.size ∧ Z.data.toList.take X.size = X.data.toList) := by
                  rw [hX, hZ, bs_size, bs_size, bs_list, bs_list]
                  exact Lib.hid ⟨by rw [hpl]; exact hln, hpt⟩
                have hkT : T.kept.length ≤ 100000 := by rw [HKL.out]; omega
                rw [← hX] at hLc
                clear hbk hX hZ hpt hpl hln hcl
                go_upto_region 33 with fail
                refine wp_region_meek [Stay.val (.agg (T.vals (.slice A6 T.grid.length k6) (.slice A8 T.kept.length k8))), Stay.val (.int .i64 p), Stay.val (.string Z), Stay.val (.slice (some ⟨tb, tt, none⟩) i c5), Stay.val (.int .i64 g), Stay.val (.int .i64 p), Stay.val (.int .i64 (g - p : Nat)), Stay.val (.pointer (some ⟨tb, tt + (g - p), none⟩)), Stay.val (.string X), Stay.val (.string Z), Stay.val (.string X)] 151 rfl (by kernel_rfl) (by kernel_rfl) ?_ ?_
                · refine ⟨meek_plain rfl (body_load _ _ _ _ rfl (opd_out 5 (by kernel_rfl) _ rfl) fun w' h => ⟨load_scr (hLs w' h), rfl⟩), ?_⟩
                  refine ⟨meek_plain rfl (body_move _ rfl (opd_out 18 (by kernel_rfl) _ rfl)), ?_⟩
                  refine ⟨meek_plain rfl (body_call2 _ _ _ _ _ _ rfl (by kernel_rfl) (opd_in 0 129 (by kernel_rfl)) (opd_in 1 130 (by kernel_rfl)) fun v u w' h hv hu => ?_), ?_⟩
                  · obtain rfl := hv
                    obtain rfl := hu
                    refine (back_any _ T p _ (HV9.out.next h).cv hkT).mono ?_
                    rintro e w9 ⟨rfl, hb9⟩
                    exact ⟨_, rfl, hb9, HBV.out⟩
                  refine ⟨meek_plain rfl (body_move _ rfl (opd_out 10 (by kernel_rfl) _ rfl)), ?_⟩
                  refine ⟨meek_plain rfl (body_move _ rfl (opd_out 15 (by kernel_rfl) _ rfl)), ?_⟩
                  refine ⟨meek_plain rfl (body_move _ rfl (opd_out 18 (by kernel_rfl) _ rfl)), ?_⟩
                  refine ⟨meek_plain rfl (body_two _ _ _ _ (.int .i64 (g - p : Nat)) (opd_in 4 133 (by kernel_rfl)) (opd_in 5 134 (by kernel_rfl)) (fun _ => rfl) fun ρ w h1 h2 => (by simp [execOp, h1, h2, go_sem]; exact sub_wrapE hpg (by omega))), ?_⟩
                  refine ⟨meek_plain rfl (body_two _ _ _ _ (.pointer (some ⟨tb, tt + (g - p), none⟩)) (opd_in 3 132 (by kernel_rfl)) (opd_in 6 135 (by kernel_rfl)) (fun _ => rfl) fun ρ w h1 h2 => (by exact idx_strs ρ w h1 h2 hgp)), ?_⟩
                  refine ⟨meek_plain rfl (body_load _ _ _ _ rfl (opd_in 7 136 (by kernel_rfl)) fun w' h => ⟨load_str (hLc w' h), rfl⟩), ?_⟩
                  refine ⟨meek_plain rfl (body_assign _ rfl (opd_in 2 131 (by kernel_rfl))), ?_⟩
                  refine ⟨meek_plain rfl (body_assign _ rfl (opd_in 8 137 (by kernel_rfl))), ?_⟩
                  exact trivial
                · intro gg w10 h10 hend
                  have e19 : gg 19 = .string Z := meek_val hend 9 19 (by kernel_rfl) _ rfl
                  have e20 : gg 20 = .string X := meek_val hend 10 20 (by kernel_rfl) _ rfl
                  clear hend hLs hLc
                  simp only [putAll, Act.put, List.setIfInBounds_toArray, List.set_cons_succ, List.set_cons_zero, e19, e20]
                  clear e19 e20
                  have HB10 : Hid (Below w7.heap.size w7 w10) := below_next HB9.out h10
                  clear h10 HB9 HX9 HV9
                  have hext : Z.extract 0 X.size = X := extract_pre HXZ.out.2
                  go_wp2_with fail
                  exact ⟨⟨p + 1, by omega, by omega, by go_num, HB10.out⟩, by simp [intOf]; omega⟩
              · obtain rfl : p = K + 1 := by omega
                have hpT : (T.kept.length : Int) < (K : Int) + 1 := by have := HKL.out; omega
                go_wp2_with fail
                refine (awake_walk _).mono ?_
                rintro e w11 ⟨rfl, hb11⟩
                have HB11 : Hid (Below w.heap.size w w11) := below_next (below_next HB7.out HB9.out) hb11
                clear hb11
                go_wp2_with fail
                go_ret
                exact ⟨rfl, HB11.out⟩

theorem lines_all' (a b k : Nat) (A : Option Addr) (n c : Nat) (ls : List ByteArray) (w : World) (ha : a < 256) (hb : b < 256) (hk : k < 256) (hn : n = ls.length) (hm : n ≤ maxLen) (hsz : ∀ s ∈ ls, s.size ≤ maxLen)
    (hcell : 0 < n → ∃ rb ro, A = some ⟨rb, ro, none⟩ ∧ rb < w.heap.size ∧ ∀ j u, (ls.map Value.string)[j]? = some u → w.cell? ⟨rb, ro + j, none⟩ = some u) :
    Calls Tryd.prog 5 #[.agg #[.int .u8 a, .int .u8 b, .int .u8 k], .slice A n c] w (ValPost w (.bool true)) := by
  by_cases h : n ≤ 40
  · exact lines_walk a b k A n c ls w ha hb hk hn h hsz hcell
  · exact lines_big a b k A n c w (by omega) (by unfold maxLen at hm; omega)
section
open Go.ChangeShapes Go.WideShapes Go.ChangeAt Go.RowKit Go.WideElems
variable {H : Type} {enc : TypeId × Value → H} {P : Program} {W : World} {base : Nat}
theorem opn_strings {t e : TypeId} {v : Value} {d : DataW H} {p : List MemPlace} (ht : P.underlying t = some (.slice e)) (he : P.underlying e = some .string) (hc : P.cellsOf e = 1)
    (hv : Value.okWide P W .any base t v) (h : DataW.Trod enc P W 0 (fun _ => true) true t v d p) :
    ∃ (A : Option Addr) (n c : Nat) (ls : List ByteArray), v = .slice A n c ∧ n = ls.length ∧ n ≤ maxLen ∧ (∀ s ∈ ls, s.size ≤ maxLen) ∧ (0 < n → ∃ rb ro, A = some ⟨rb, ro, none⟩ ∧ rb < W.heap.size ∧ ∀ j u, (ls.map Value.string)[j]? = some u → W.cell? ⟨rb, ro + j, none⟩ = some u) := by
  obtain ⟨a1, len, cap, rfl⟩ := okWide_slice ht hv
  obtain ⟨fuel, hf⟩ := h
  rcases open_strings ht he hc hf with ⟨hcs, -⟩ | ⟨a, len', cap', ss, hcs, _, hl, hm, hz, -, hcell, hwz⟩
  · simp [Value.cells] at hcs
    obtain ⟨rfl, rfl, rfl⟩ := hcs
    exact ⟨none, 0, 0, [], rfl, rfl, Nat.zero_le _, fun s hs => (List.not_mem_nil hs).elim, fun h => absurd h (by decide)⟩
  · simp [Value.cells] at hcs
    obtain ⟨rfl, rfl, rfl⟩ := hcs
    simp only [if_true] at hz
    have hlen : (ss.take len).length = len := by rw [List.length_take]; omega
    refine ⟨some a, len, cap, ss.take len, rfl, hlen.symm, Nat.le_trans hl hm, fun s hs => hwz s (List.mem_of_mem_take hs), fun hn => ?_⟩
    obtain ⟨ab, ao, spot⟩ := a
    have hspot : spot = none := by simpa [Addr.add] using World.cell?_spot (hcell 0 (by omega))
    subst hspot
    refine ⟨ab, ao, rfl, ?_, fun i u hu => ?_⟩
    · have h0 := hcell 0 (by omega)
      rw [add_none] at h0
      rcases Nat.lt_or_ge ab W.heap.size with hlt | hge
      · exact hlt
      · exact absurd h0 (by simp [World.cell?, Array.getElem?_eq_none hge])
    · have hi : i < len := by
        have := (List.getElem?_eq_some_iff.1 hu).1
        simp at this; omega
      have hci := hcell i (by omega)
      rw [add_none] at hci
      rw [hci, ← hu, List.getElem?_map, List.getElem?_take_of_lt hi, List.getElem?_eq_getElem (show i < ss.length by omega), List.getD_eq_getElem?_getD, List.getElem?_eq_getElem (show i < ss.length by omega)]
      rfl
end
end Go.Proofs.YtiefpodmdpnppaaDoor
