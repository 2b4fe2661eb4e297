/-
  WALKS of layer 56's document: blanks, number.
-/
import Derived.Test.YtiefpodmdpnppaaDoorCelQ
import Derived.Deep.RegionHeld3
import Derived.Deep.DrawnRows
namespace Go.Proofs.YtiefpodmdpnppaaDoor
open Go.RowKit

def bs (l : List UInt8) : ByteArray := ⟨l.toArray⟩
theorem strV_bs (l : List UInt8) : strV l = .string (bs l) := rfl
theorem bs_size (l : List UInt8) : (bs l).size = l.length := by show l.toArray.size = _; simp
theorem bs_list (l : List UInt8) : (bs l).data.toList = l := by show l.toArray.toList = _; simp
theorem bs_append (l k : List UInt8) : bs l ++ bs k = bs (l ++ k) := by
  apply ByteArray.ext
  show (ByteArray.append (bs l) (bs k)).data = _
  simp [bs]

set_option maxRecDepth 100000 in
theorem rblanks_any (n : Nat) (w : World) (hn : n ≤ 1000) :
    Calls Tryd.prog 39 #[.int .i64 n] w (fun e w' => e = .returned (.string (bs (List.replicate n 32))) ∧ w = w') := by
  go_enter Tryd.func39, Tryd.ntmps39
  go_wp2_with fail
  go_loop [3] (fun sv => ∃ k : Nat, k ≤ n ∧ sv = .string (bs (List.replicate k 32))) (fun sv => n - sizeV sv)
  case atStart => exact ⟨0, Nat.zero_le _, rfl⟩
  case round =>
    obtain ⟨k, hk, rfl⟩ := hrel
    have hs := bs_size (List.replicate k 32)
    rw [List.length_replicate] at hs
    have ha := bs_append (List.replicate k 32) [32]
    rw [show List.replicate k 32 ++ [32] = List.replicate (k + 1) (32 : UInt8) from by rw [List.replicate_succ']] at ha
    have hs2 := bs_size (List.replicate (k + 1) 32)
    rw [List.length_replicate] at hs2
    have HS2 := Lib.hid hs2; have HA := Lib.hid ha
    clear hs2 ha
    by_cases hlt : k < n
    · generalize bs (List.replicate k 32) = B at *
      go_wp2_with fail
      rw [show B ++ { data := #[32] } = bs (List.replicate (k + 1) 32) from HA.out]
      exact ⟨⟨k + 1, by omega, rfl⟩, by show n - (bs (List.replicate (k + 1) 32)).size < n - B.size; rw [HS2.out]; omega⟩
    · obtain rfl : k = n := by omega
      clear HS2 HA
      go_wp2_with fail
      go_ret
      exact ⟨rfl, rfl⟩

/-- a command's number -/
def numStep (n : Nat) (p : Nat × Nat) (c : UInt8) : Nat × Nat :=
  if c.toNat = 59 then (p.1, p.2 + 1) else if p.2 = n then (min (10 * p.1 + c.toNat - 48) 999, p.2) else p
def numFold (n : Nat) (l : List UInt8) : Nat × Nat := l.foldl (numStep n) (0, 0)
def numL (l : List UInt8) (n : Nat) : Nat := (numFold n l).1
def Digs (l : List UInt8) : Prop := ∀ c ∈ l, 48 ≤ c.toNat ∧ c.toNat ≤ 59
theorem numFold_bd (n : Nat) (l : List UInt8) : (numFold n l).1 ≤ 999 ∧ (numFold n l).2 ≤ l.length := by
  unfold numFold
  suffices h : ∀ (l : List UInt8) (p : Nat × Nat), p.1 ≤ 999 → (l.foldl (numStep n) p).1 ≤ 999 ∧ (l.foldl (numStep n) p).2 ≤ p.2 + l.length by
    have := h l (0, 0) (by simp)
    simpa using this
  intro l
  induction l with
  | nil => intro p hp; exact ⟨hp, by simp⟩
  | cons c l ih =>
    intro p hp
    have h1 : (numStep n p c).1 ≤ 999 := by unfold numStep; split; exact hp; split; (show min _ 999 ≤ 999; omega); exact hp
    have h2 : (numStep n p c).2 ≤ p.2 + 1 := by unfold numStep; split; simp; split <;> simp
    have := ih (numStep n p c) h1
    simp only [List.foldl_cons, List.length_cons]
    exact ⟨this.1, by omega⟩
theorem numFold_snoc (n : Nat) (l : List UInt8) (k : Nat) (h : k < l.length) : numFold n (l.take (k + 1)) = numStep n (numFold n (l.take k)) (l.getD k 0) := by
  unfold numFold
  rw [List.take_succ_eq_append_getElem h, List.foldl_append, List.getD_eq_getElem?_getD, List.getElem?_eq_getElem h]
  rfl

set_option maxRecDepth 100000 in
set_option maxHeartbeats 400000 in
theorem number_any (l : List UInt8) (n : Nat) (w : World) (hl : Digs l) (hs : l.length ≤ 100000) :
    Calls Tryd.prog 66 #[.string (bs l), .int .i64 n] w (fun e w' => e = .returned (.int .i64 (numL l n)) ∧ w = w') := by
  have hz := bs_size l
  have hL := bs_list l
  have HL := Lib.hid hL
  have HD := Lib.hid hl
  obtain ⟨s, hs0⟩ : ∃ s : ByteArray, s = bs l := ⟨_, rfl⟩
  rw [← hs0] at hz HL ⊢
  clear hl hL hs0
  have HZ := Lib.hid hz
  have hzs : s.size ≤ 100000 := by omega
  clear hz
  go_enter Tryd.func66, Tryd.ntmps66
  go_wp2_with fail
  go_loop [5, 6, 7] (fun v a i => ∃ k : Nat, k ≤ s.size ∧ v = .int .i64 (numFold n (l.take k)).1 ∧ a = .int .i64 (numFold n (l.take k)).2 ∧ i = .int .i64 k) (fun _ _ i => s.size - (intOf i).toNat)
  case atStart => exact ⟨0, Nat.zero_le _, rfl, rfl, rfl⟩
  case round =>
    obtain ⟨k, hk, rfl, rfl, rfl⟩ := hrel
    have hb := numFold_bd n (l.take k)
    have hb2 : (l.take k).length ≤ k := List.length_take_le _ _
    by_cases hlt : k < s.size
    · have hx := idx_str Tryd.underlying9 s k (k : Int) rfl hlt
      rw [HL.out] at hx
      have HN := Lib.hid (numFold_snoc n l k (by rw [← HZ.out]; exact hlt))
      have hd := HD.out (l.getD k 0) (by rw [List.getD_eq_getElem?_getD, List.getElem?_eq_getElem (by rw [← HZ.out]; exact hlt)]; exact List.getElem_mem _)
      obtain ⟨c, hc⟩ : ∃ c : UInt8, c = l.getD k 0 := ⟨_, rfl⟩
      rw [← hc] at hx HN hd
      obtain ⟨v, hv⟩ : ∃ v : Nat, v = (numFold n (l.take k)).1 := ⟨_, rfl⟩
      obtain ⟨a, ha⟩ : ∃ a : Nat, a = (numFold n (l.take k)).2 := ⟨_, rfl⟩
      have hN : numFold n (l.take (k + 1)) = numStep n (v, a) c := by rw [HN.out, hv, ha]
      rw [← hv, ← ha] at hb
      rw [← hv, ← ha]
      obtain ⟨hb0, hb1⟩ := hb
      obtain ⟨hd0, hd1⟩ := hd
      have HN := Lib.hid hN
      clear hN hv ha hc hb2
      have hak : a ≤ 100000 := by have := List.length_take_le k l; omega
      clear hb1
      by_cases h59 : c.toNat = 59
      · have t1 : ((c.toNat : Int) == 59) = true := by rw [h59]; rfl
        have HR : Hid (numStep n (v, a) c = (v, a + 1)) := by unfold numStep; rw [if_pos h59]; exact Lib.hid rfl
        clear h59
        go_wp2_with fail
        go_round
        case rel => exact ⟨k + 1, by omega, by rw [HN.out, HR.out], by rw [HN.out, HR.out]; go_num, by go_num⟩
        case measure => simp [intOf]; omega
      · have t1 : ((c.toNat : Int) == 59) = false := by simp; omega
        by_cases hna : a = n
        · have t2 : ((a : Int) == (n : Int)) = true := by rw [hna]; simp
          have HR : Hid (numStep n (v, a) c = (min (10 * v + c.toNat - 48) 999, a)) := by unfold numStep; rw [if_neg h59, if_pos hna]; exact Lib.hid rfl
          clear h59 hna
          go_wp2_with fail
          rw [show min (10 * (v : Int) + (c.toNat : Int) - 48) 999 = ((min (10 * v + c.toNat - 48) 999 : Nat) : Int) from by omega]
          go_round
          case rel => exact ⟨k + 1, by omega, by rw [HN.out, HR.out], by rw [HN.out, HR.out], by go_num⟩
          case measure => simp [intOf]; omega
        · have t2 : ((a : Int) == (n : Int)) = false := by simp; omega
          have HR : Hid (numStep n (v, a) c = (v, a)) := by unfold numStep; rw [if_neg h59, if_neg hna]; exact Lib.hid rfl
          clear h59 hna
          go_wp2_with fail
          go_round
          case rel => exact ⟨k + 1, by omega, by rw [HN.out, HR.out], by rw [HN.out, HR.out], by go_num⟩
          case measure => simp [intOf]; omega
    · obtain rfl : k = s.size := by omega
      have HR : Hid ((numFold n (l.take s.size)).1 = numL l n) := by rw [List.take_of_length_le (by rw [HZ.out]; exact Nat.le_refl _)]; exact Lib.hid rfl
      go_wp2_with fail
      go_ret
      refine ⟨?_, rfl⟩
      rw [← HR.out]; rfl
end Go.Proofs.YtiefpodmdpnppaaDoor
