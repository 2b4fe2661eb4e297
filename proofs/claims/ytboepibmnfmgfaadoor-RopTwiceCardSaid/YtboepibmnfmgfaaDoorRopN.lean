/-
  WALKS of the statements RopThen and RopTwice.
-/
import Derived.Test.YtboepibmnfmgfaaDoorRopM
namespace Go.Proofs.YtboepibmnfmgfaaDoor
open Go.RowKit

set_option maxHeartbeats 600000 in
theorem then_walk (a b s d p : Int) (w : World) (hs : 0 ≤ s ∧ s ≤ 255) (hd : 0 ≤ d ∧ d ≤ 255) (hp : 0 ≤ p ∧ p ≤ 255) (hN : NamesIn w) :
    Calls Tryd.prog 3 #[.int .i64 a, .int .i64 b, .int .u8 s, .int .u8 d, .int .u8 p] w (Law w) := by
  have HN := Lib.hid hN; clear hN
  by_cases hk : ropKnown a = true ∧ ropKnown b = true
  · obtain ⟨ha, hb⟩ := hk
    have HA := Lib.hid ha
    have HB := Lib.hid hb
    have hT := then_bd ha hb
    have hm := mixI_then ha hb s d p
    have hb2 := mixI_bd a s d p
    clear ha hb
    generalize hT' : then2 a b = T at hT hm
    generalize hM : mixI a s d p = M at hm hb2
    generalize hR : mixI T s d p = R at hm
    have HT := Lib.hid hT'
    have HM := Lib.hid hM
    have HR := Lib.hid hR
    have HX := Lib.hid hm
    clear hT' hM hR hm
    obtain ⟨hT0, hT1⟩ := hT
    have tg : decide (T ≥ 0) = true := by simpa using hT0
    go_enter Tryd.func3, Tryd.ntmps3
    go_wp2_with fail
    refine (awake_any _ HN.out).mono ?_
    rintro e w1 ⟨rfl, h1⟩
    go_wp2_with fail
    refine (then_at _ T HT.out HA.out HB.out).mono ?_
    rintro e w2 ⟨rfl, h2⟩
    go_wp2_with fail
    refine (refThen_yes _ _ _ HA.out HB.out).mono ?_
    rintro e w3 ⟨rfl, rfl⟩
    rw [HT.out]
    go_wp2_with fail
    refine (mix_at _ R HR.out hs hd hp).mono ?_
    rintro e w4 ⟨rfl, h4⟩
    go_wp2_with fail
    refine (mix_at _ M HM.out hs hd hp).mono ?_
    rintro e w5 ⟨rfl, h5⟩
    go_wp2_with fail
    refine (mix_at _ R HX.out hs hb2 hp).mono ?_
    rintro e w6 ⟨rfl, h6⟩
    go_wp2_with fail
    go_ret
    exact ⟨rfl, below_next (below_next (below_next (below_next h1 h2) h4) h5) h6⟩
  · have hn : ropKnown a = false ∨ ropKnown b = false := by
      rcases h1 : ropKnown a with _ | _ <;> rcases h2 : ropKnown b with _ | _ <;> simp_all
    have HK := Lib.hid hn
    clear hn hk
    go_enter Tryd.func3, Tryd.ntmps3
    go_wp2_with fail
    refine (awake_any _ HN.out).mono ?_
    rintro e w1 ⟨rfl, h1⟩
    go_wp2_with fail
    refine (rop_then_no _ _ _ HK.out).mono ?_
    rintro e w2 ⟨rfl, rfl⟩
    go_wp2_with fail
    refine (refThen_no _ _ _ HK.out).mono ?_
    rintro e w3 ⟨rfl, rfl⟩
    go_wp2_with fail
    go_ret
    exact ⟨rfl, h1⟩

theorem cell_next {w w' : World} {b o : Nat} {v : Value} (hb : Below w.heap.size w w') (hlt : b < w.heap.size) (h : w.cell? ⟨b, o, none⟩ = some v) : w'.cell? ⟨b, o, none⟩ = some v := by
  rw [hb.cell (p := ⟨b, o, none⟩) hlt]; exact h
def opsA (k : Nat) : Int := [6, 10, 5].getD k 0
def opsB (k : Nat) : Int := [3, 0, 15, 12, 1, 7].getD k 0
theorem opsA_law (k : Nat) (hk : k < 3) (s d p : Int) (hd : 0 ≤ d ∧ d ≤ 255) : mixI (opsA k) s (mixI (opsA k) s d p) p = d := by
  match k, hk with
  | 0, _ => exact mixI_twice 6 s d p hd fn_twice.1
  | 1, _ => exact mixI_twice 10 s d p hd fn_twice.2.1
  | 2, _ => exact mixI_twice 5 s d p hd fn_twice.2.2
theorem opsB_law (k : Nat) (hk : k < 6) (s d p : Int) : mixI (opsB k) s (mixI (opsB k) s d p) p = mixI (opsB k) s d p := by
  match k, hk with
  | 0, _ => exact mixI_once 3 s d p fn_once.1
  | 1, _ => exact mixI_once 0 s d p fn_once.2.1
  | 2, _ => exact mixI_once 15 s d p fn_once.2.2.1
  | 3, _ => exact mixI_once 12 s d p fn_once.2.2.2.1
  | 4, _ => exact mixI_once 1 s d p fn_once.2.2.2.2.1
  | 5, _ => exact mixI_once 7 s d p fn_once.2.2.2.2.2
/-- a row of numbers in block B -/
def RowI (w : World) (B n : Nat) (f : Nat → Int) : Prop := B < w.heap.size ∧ ∀ k, k < n → w.cell? ⟨B, k, none⟩ = some (.int .i64 (f k))
theorem rowI_next {w w' : World} {B n : Nat} {f : Nat → Int} (h : RowI w B n f) (hb : Below w.heap.size w w') : RowI w' B n f := ⟨Nat.lt_of_lt_of_le h.1 hb.size, fun k hk => cell_next hb h.1 (h.2 k hk)⟩
theorem rowA (w : World) (t : TypeId) : RowI (w.alloc (.cells #[.int .i64 6, .int .i64 10, .int .i64 5] t)) w.heap.size 3 opsA :=
  ⟨by simp, fun k hk => by
    match k, hk with
    | 0, _ => simp [opsA]
    | 1, _ => simp [opsA]
    | 2, _ => simp [opsA]⟩
theorem rowB (w : World) (t : TypeId) : RowI (w.alloc (.cells #[.int .i64 3, .int .i64 0, .int .i64 15, .int .i64 12, .int .i64 1, .int .i64 7] t)) w.heap.size 6 opsB :=
  ⟨by simp, fun k hk => by
    match k, hk with
    | 0, _ => simp [opsB]
    | 1, _ => simp [opsB]
    | 2, _ => simp [opsB]
    | 3, _ => simp [opsB]
    | 4, _ => simp [opsB]
    | 5, _ => simp [opsB]⟩

set_option maxRecDepth 100000 in
set_option maxHeartbeats 1000000 in
theorem twice_walk (s d p : Int) (w : World) (hs : 0 ≤ s ∧ s ≤ 255) (hd : 0 ≤ d ∧ d ≤ 255) (hp : 0 ≤ p ∧ p ≤ 255) (hN : NamesIn w) :
    Calls Tryd.prog 4 #[.int .u8 s, .int .u8 d, .int .u8 p] w (Law w) := by
  have HN := Lib.hid hN; clear hN
  go_enter Tryd.func4, Tryd.ntmps4
  go_wp2_with fail
  refine (awake_any _ HN.out).mono ?_
  rintro e w1 ⟨rfl, h1⟩
  go_wp2_with fail
  go_loopw [16] (fun i wr => ∃ k : Nat, k ≤ 3 ∧ i = .int .i64 k ∧ RowI wr w1.heap.size 3 opsA ∧ Below w.heap.size w wr) (fun i _ => 3 - (intOf i).toNat)
  case atStart => exact ⟨0, by omega, rfl, rowA _ _, h1.alloc h1.size _⟩
  case round =>
    obtain ⟨k, hk, rfl, hrow, hb⟩ := hrel
    by_cases hlt : k < 3
    · have hc := hrow.2 k hlt
      have hlaw := opsA_law k hlt s d p hd
      have hbd := mixI_bd (opsA k) s d p
      generalize opsA k = n at hc hlaw hbd
      generalize hM : mixI n s d p = M at hlaw hbd
      have HM := Lib.hid hM; have HL := Lib.hid hlaw; have HR := Lib.hid hrow; clear hM hlaw hrow
      go_wp2_with fail
      refine (mix_at _ M HM.out hs hd hp).mono ?_
      rintro e w2 ⟨rfl, h2⟩
      go_wp2_with fail
      refine (mix_at _ d HL.out hs hbd hp).mono ?_
      rintro e w3 ⟨rfl, h3⟩
      go_wp2_with fail
      go_roundw
      case rel => exact ⟨k + 1, by omega, by go_num, rowI_next (rowI_next HR.out h2) h3, below_next (below_next hb h2) h3⟩
      case measure => simp [intOf]; omega
    · obtain rfl : k = 3 := by omega
      clear hrow h1
      rw [show ((3 : Nat) : Int) = 3 from rfl]
      go_wp2_with fail
      go_loopw [34] (fun i wz => ∃ k : Nat, k ≤ 6 ∧ i = .int .i64 k ∧ RowI wz wr.heap.size 6 opsB ∧ Below w.heap.size w wz) (fun i _ => 6 - (intOf i).toNat)
      case atStart => exact ⟨0, by omega, rfl, rowB _ _, hb.alloc hb.size _⟩
      case round =>
        clear hb
        obtain ⟨k, hk, rfl, hrow, hb⟩ := hrel
        by_cases hlt : k < 6
        · have hc := hrow.2 k hlt
          have hlaw := opsB_law k hlt s d p
          have hbd := mixI_bd (opsB k) s d p
          generalize opsB k = n at hc hlaw hbd
          generalize hM : mixI n s d p = M at hlaw hbd
          have HM := Lib.hid hM; have HL := Lib.hid hlaw; have HR := Lib.hid hrow; clear hM hlaw hrow
          go_wp2_with fail
          refine (mix_at _ M HM.out hs hd hp).mono ?_
          rintro e w2 ⟨rfl, h2⟩
          go_wp2_with fail
          refine (mix_at _ M HL.out hs hbd hp).mono ?_
          rintro e w3 ⟨rfl, h3⟩
          go_wp2_with fail
          go_roundw
          case rel => exact ⟨k + 1, by omega, by go_num, rowI_next (rowI_next HR.out h2) h3, below_next (below_next hb h2) h3⟩
          case measure => simp [intOf]; omega
        · obtain rfl : k = 6 := by omega
          clear hrow
          go_wp2_with fail
          go_ret
          exact ⟨rfl, hb⟩
end Go.Proofs.YtboepibmnfmgfaaDoor
