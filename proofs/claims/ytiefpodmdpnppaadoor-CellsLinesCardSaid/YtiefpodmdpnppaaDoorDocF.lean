/-
  WALK of layer 56's document: Text.
-/
import Derived.Test.YtiefpodmdpnppaaDoorDocE
namespace Go.Proofs.YtiefpodmdpnppaaDoor
open Go.RowKit

def Ref.textUpto (M : Ref) (n : Nat) : List UInt8 := (List.range n).flatMap fun y : Nat => trimL (M.rows.getD y []) ++ [10]
def Ref.text (M : Ref) : List UInt8 := M.textUpto M.h
theorem rtext_succ (M : Ref) (n : Nat) : M.textUpto (n + 1) = M.textUpto n ++ trimL (M.rows.getD n []) ++ [10] := by
  unfold Ref.textUpto
  rw [List.range_succ, List.flatMap_append]
  simp
theorem trimL_len' (l : List UInt8) : (trimL l).length ≤ l.length := trimL_len l
theorem trim_step (l : List UInt8) (n : Nat) (h : 0 < n) (hn : n ≤ l.length) (hc : l.getD (n - 1) 0 = 32) : trimL (l.take n) = trimL (l.take (n - 1)) := by
  have e : l.take n = l.take (n - 1) ++ [32] := by
    rw [show n = n - 1 + 1 from by omega, List.take_succ_eq_append_getElem (by omega)]
    congr 2
    rw [List.getD_eq_getElem?_getD, List.getElem?_eq_getElem (by omega)] at hc
    simpa using hc
  rw [e, trimL_blank]
theorem trim_stop (l : List UInt8) (n : Nat) (h : 0 < n) (hn : n ≤ l.length) (hc : l.getD (n - 1) 0 ≠ 32) : trimL (l.take n) = l.take n := by
  have e : l.take n = l.take (n - 1) ++ [l.getD (n - 1) 0] := by
    rw [show n = n - 1 + 1 from by omega, List.take_succ_eq_append_getElem (by omega)]
    congr 2
    rw [List.getD_eq_getElem?_getD, show n - 1 + 1 - 1 = n - 1 from by omega, List.getElem?_eq_getElem (by omega)]
    rfl
  rw [e, trimL_other _ _ (by simpa using hc)]
theorem rtext_len (M : Ref) (hr : ∀ r ∈ M.rows, r.length = M.w) (n : Nat) : (M.textUpto n).length ≤ n * (M.w + 1) := by
  induction n with
  | zero => simp [Ref.textUpto]
  | succ n ih =>
    rw [rtext_succ, List.length_append, List.length_append, Nat.succ_mul]
    have h1 := trimL_len (M.rows.getD n [])
    have h2 : (M.rows.getD n []).length ≤ M.w := by
      rw [List.getD_eq_getElem?_getD]
      rcases Nat.lt_or_ge n M.rows.length with h | h
      · rw [List.getElem?_eq_getElem h]; exact Nat.le_of_eq (hr _ (List.getElem_mem h))
      · rw [List.getElem?_eq_none h]; exact Nat.zero_le _
    simp only [List.length_singleton]
    omega

set_option maxRecDepth 100000 in
set_option maxHeartbeats 1600000 in
theorem rtext_walk (v : Value) (M : Ref) (w : World) (h : RV w v M) (ok : M.Ok) :
    Calls Tryd.prog 33 #[v] w (ValPost w (strV M.text)) := by
  obtain ⟨vr, vk, rfl, h1, h2⟩ := h
  have hh2 := ok.h2; have hh1 := ok.h1; have hw2 := ok.w2
  have hrl := ok.r
  obtain ⟨-, A3, c3, rfl, hn3, hm3, -, hc3⟩ := h1.1
  obtain ⟨rb, ro, rfl, hrb, hcell⟩ := hc3 (by omega)
  obtain ⟨-, A4, c4, rfl, -⟩ := h2.1
  have HR := Lib.hid hrl
  have HOk := Lib.hid ok
  have HC := Lib.hid hcell
  clear h1 h2 hc3 hcell hrl ok
  unfold maxLen at hm3
  unfold Ref.vals
  obtain ⟨L, hL⟩ : ∃ L : Nat, L = M.rows.length := ⟨_, rfl⟩
  have hLh : L = M.h := by rw [hL]; exact HR.out
  rw [← hL] at hn3 ⊢
  have hLh2 := Lib.hid hLh
  have hLle : L ≤ 64 := by omega
  have hhL : M.h ≤ L := by omega
  clear hL hLh
  go_enter Tryd.func33, Tryd.ntmps33
  go_wp2_with fail
  go_loop [3, 4, 5] (fun sv yv _ => ∃ y : Nat, y ≤ M.h ∧ yv = .int .i64 y ∧ sv = .string (bs (M.textUpto y))) (fun _ yv _ => M.h - (intOf yv).toNat)
  case atStart => exact ⟨0, Nat.zero_le _, rfl, rfl⟩
  case round =>
    obtain ⟨y, hy, rfl, rfl⟩ := hrel
    by_cases hlt : y < M.h
    · have hd1 : decide ((y : Int) < (M.h : Int)) = true := by simp; omega
      have hyL : (y : Int) < (L : Int) := by omega
      have hly : y < M.rows.length := by have := hLh2.out; have := HR.out; omega
      have hrow : w.cell? ⟨rb, ro + y, none⟩ = some (.string (bs (M.rows.getD y []))) := by
        refine HC.out y _ ?_
        rw [List.getElem?_map, List.getElem?_eq_getElem hly, List.getD_eq_getElem?_getD, List.getElem?_eq_getElem hly]; rfl
      have hlen : (M.rows.getD y []).length = M.w := by
        rw [List.getD_eq_getElem?_getD, List.getElem?_eq_getElem hly]; exact HOk.out.rw _ (List.getElem_mem hly)
      have hsz := bs_size (M.rows.getD y [])
      rw [hlen] at hsz
      have hsn := rtext_succ M y
      have htl := rtext_len M HOk.out.rw y
      have hbl := bs_list (M.rows.getD y [])
      obtain ⟨r, hr⟩ : ∃ r : List UInt8, r = M.rows.getD y [] := ⟨_, rfl⟩
      rw [← hr] at hrow hlen hsz hsn hbl
      obtain ⟨R, hRr⟩ : ∃ R : ByteArray, R = bs r := ⟨_, rfl⟩
      rw [← hRr] at hrow hsz hbl
      obtain ⟨t, ht⟩ : ∃ t : List UInt8, t = M.textUpto y := ⟨_, rfl⟩
      rw [← ht] at hsn htl ⊢
      have HSN := Lib.hid hsn; have HLE := Lib.hid hlen; have HBL := Lib.hid hbl; have HSZ := Lib.hid hsz; have HRR := Lib.hid hRr
      have hBs : (bs t).size ≤ 100000 := by rw [bs_size]; have : y * (M.w + 1) ≤ 64 * 129 := Nat.mul_le_mul (by omega) (by omega); omega
      clear hsn hlen hbl hr hRr ht htl
      go_wp2_with fail
      go_loop [5] (fun nv => ∃ n : Nat, n ≤ M.w ∧ nv = .int .i64 n ∧ Hid (trimL (r.take n) = trimL r)) (fun nv => (intOf nv).toNat)
      case atStart => exact ⟨M.w, Nat.le_refl _, rfl, by rw [List.take_of_length_le (by rw [HLE.out]; exact Nat.le_refl _)]; exact Lib.hid rfl⟩
      case round =>
        obtain ⟨n, hn, rfl, hT⟩ := hrel
        by_cases hn0 : n = 0
        · subst hn0
          have HX : Hid (bs t ++ ⟨#[10]⟩ = bs (M.textUpto (y + 1))) := by
            have e : trimL r = [] := by rw [← hT.out]; simp [trimL]
            rw [show (⟨#[10]⟩ : ByteArray) = bs [10] from rfl, bs_append, HSN.out, e, List.append_nil]; exact Lib.hid rfl
          rw [show ((0 : Nat) : Int) = 0 from rfl]
          have h0R : (0 : Int) ≤ (R.size : Int) := by omega
          clear hT
          generalize bs t = B at *
          go_wp2_with fail
          exact ⟨⟨y + 1, by omega, by go_num, by rw [HX.out]⟩, by simp [intOf]; omega⟩
        · have hg : decide ((n : Int) > 0) = true := by simp; omega
          have hx := idx_str Tryd.underlying9 R (n - 1) ((n : Int) - 1) (by omega) (by rw [HSZ.out]; omega)
          rw [HBL.out] at hx
          by_cases hc : r.getD (n - 1) 0 = 32
          · have HT2 : Hid (trimL (r.take (n - 1)) = trimL r) := by rw [← hT.out, trim_step r n (by omega) (by rw [HLE.out]; exact hn) hc]; exact Lib.hid rfl
            rw [hc] at hx
            clear hc hT
            go_wp2_with fail
            go_round
            case rel => exact ⟨n - 1, by omega, by go_num, HT2.out⟩
            case measure => simp [intOf]; omega
          · have HX : Hid (bs t ++ R.extract 0 n ++ ⟨#[10]⟩ = bs (M.textUpto (y + 1))) := by
              have e : R.extract 0 n = bs (trimL r) := by
                apply ba_ext
                rw [extract_list, bs_list, ← hT.out, HBL.out, trim_stop r n (by omega) (by rw [HLE.out]; exact hn) hc]
              rw [e, show (⟨#[10]⟩ : ByteArray) = bs [10] from rfl, bs_append, bs_append, HSN.out]; exact Lib.hid rfl
            have hne : ((r.getD (n - 1) 0).toNat : Int) = 32 → False := by
              intro h; apply hc; apply UInt8.toNat_inj.1; have : (32 : UInt8).toNat = 32 := rfl; omega
            have hb : (((r.getD (n - 1) 0).toNat : Int) == 32) = false := by simpa using hne
            generalize (r.getD (n - 1) 0).toNat = c at *
            have hnR : n ≤ R.size := by rw [HSZ.out]; exact hn
            have hnR2 : (n : Int) ≤ (R.size : Int) := by omega
            clear hc hT hne
            generalize bs t = B at *
            go_wp2_with fail
            exact ⟨⟨y + 1, by omega, by go_num, by rw [HX.out]⟩, by simp [intOf]; omega⟩
    · obtain rfl : y = M.h := by omega
      have hd1 : decide ((M.h : Int) < (M.h : Int)) = false := by simp
      go_wp2_with fail
      go_ret
      exact ⟨rfl, (Below.refl _ _).alloc (Nat.le_refl _) _⟩
end Go.Proofs.YtiefpodmdpnppaaDoor
