/-
  WALKS of the reference of layer 18 and of rop.Bit.
-/
import Derived.Test.YtboepibmnfmgfaaDoorRopC
namespace Go.Proofs.YtboepibmnfmgfaaDoor
open Go.RowKit

theorem refIs_any (n : Int) (w : World) :
    Calls Tryd.prog 14 #[.int .i64 n] w fun e w' => e = .returned (.bool (ropKnown n)) ∧ w = w' := by
  unfold ropKnown
  by_cases h0 : 0 ≤ n <;> by_cases h1 : n ≤ 15
  all_goals
    go_enter Tryd.func14, Tryd.ntmps14
    go_wp2
    go_ret
    exact ⟨by simp [h0, h1], rfl⟩

def place (s d : Bool) : Nat := if s && d then 0 else if s then 1 else if d then 2 else 3
def refDoes (n : Int) (s d : Bool) : Bool := halve (place s d) n % 2 == 1

theorem refDoes_fin : ∀ n : Fin 16, ∀ s d : Bool, refDoes (n.val : Int) s d = ropDoes (n.val : Int) s d := by decide +kernel
theorem known_cast {n : Int} (h : ropKnown n = true) : ∃ k : Nat, k < 16 ∧ n = k := by
  simp [ropKnown] at h
  exact ⟨n.toNat, by omega, by omega⟩
theorem known_of {k : Nat} (h : k < 16) : ropKnown (k : Int) = true := by simp [ropKnown]; omega
theorem refDoes_eq (n : Int) (h : ropKnown n = true) (s d : Bool) : refDoes n s d = ropDoes n s d := by
  obtain ⟨k, hk, rfl⟩ := known_cast h
  exact refDoes_fin ⟨k, hk⟩ s d

theorem rem_self_bool (b : Bool) : (b == true) = b := by cases b <;> rfl

theorem refBit_no (n : Int) (s d : Bool) (w : World) (hk : ropKnown n = false) :
    Calls Tryd.prog 17 #[.int .i64 n, .bool s, .bool d] w fun e w' => e = .returned (.bool d) ∧ w = w' := by
  go_enter Tryd.func17, Tryd.ntmps17
  go_wp2_with (go_at_call 14; refine (refIs_any _ _).mono ?_; rintro e w' ⟨rfl, rfl⟩)
  go_ret
  exact ⟨rfl, rfl⟩

theorem refBit_yes (n : Int) (s d : Bool) (w : World) (hk : ropKnown n = true) :
    Calls Tryd.prog 17 #[.int .i64 n, .bool s, .bool d] w fun e w' => e = .returned (.bool (refDoes n s d)) ∧ w = w' := by
  have hn : 0 ≤ n ∧ n ≤ 15 := by simpa [ropKnown] using hk
  obtain ⟨h0, h15⟩ := hn
  cases s <;> cases d
  all_goals
    go_enter Tryd.func17, Tryd.ntmps17
    go_wp2_with (go_at_call 14; refine (refIs_any _ _).mono ?_; rintro e w' ⟨rfl, rfl⟩)
  · go_loop [0, 8] (fun o i => ∃ k : Nat, k ≤ 3 ∧ i = .int .i64 k ∧ o = .int .i64 (halve k n)) (fun _ i => 3 - (intOf i).toNat)
    case atStart => exact ⟨0, by omega, rfl, rfl⟩
    case round =>
      obtain ⟨k, hk3, rfl, rfl⟩ := hrel
      have hs : Hid (halve (k + 1) n = halve k n / 2) := rfl
      have hb := halve_nonneg k n h0
      have hl := halve_le k n h0
      by_cases hlt : k < 3
      · go_wp2
        go_round
        case rel => exact ⟨k + 1, by omega, by go_num, by rw [hs.out]⟩
        case measure => simp [intOf]; omega
      · obtain rfl : k = 3 := by omega
        go_wp2
        go_ret
        exact ⟨rfl, rfl⟩
  · go_loop [0, 8] (fun o i => ∃ k : Nat, k ≤ 2 ∧ i = .int .i64 k ∧ o = .int .i64 (halve k n)) (fun _ i => 2 - (intOf i).toNat)
    case atStart => exact ⟨0, by omega, rfl, rfl⟩
    case round =>
      obtain ⟨k, hk3, rfl, rfl⟩ := hrel
      have hs : Hid (halve (k + 1) n = halve k n / 2) := rfl
      have hb := halve_nonneg k n h0
      have hl := halve_le k n h0
      by_cases hlt : k < 2
      · go_wp2
        go_round
        case rel => exact ⟨k + 1, by omega, by go_num, by rw [hs.out]⟩
        case measure => simp [intOf]; omega
      · obtain rfl : k = 2 := by omega
        go_wp2
        go_ret
        exact ⟨rfl, rfl⟩
  · go_loop [0, 8] (fun o i => ∃ k : Nat, k ≤ 1 ∧ i = .int .i64 k ∧ o = .int .i64 (halve k n)) (fun _ i => 1 - (intOf i).toNat)
    case atStart => exact ⟨0, by omega, rfl, rfl⟩
    case round =>
      obtain ⟨k, hk3, rfl, rfl⟩ := hrel
      have hs : Hid (halve (k + 1) n = halve k n / 2) := rfl
      have hb := halve_nonneg k n h0
      have hl := halve_le k n h0
      by_cases hlt : k < 1
      · go_wp2
        go_round
        case rel => exact ⟨k + 1, by omega, by go_num, by rw [hs.out]⟩
        case measure => simp [intOf]; omega
      · obtain rfl : k = 1 := by omega
        go_wp2
        go_ret
        exact ⟨rfl, rfl⟩
  · go_loop [0, 8] (fun o i => i = .int .i64 0 ∧ o = .int .i64 n) (fun _ _ => 0)
    case atStart => exact ⟨rfl, rfl⟩
    case round =>
      obtain ⟨rfl, rfl⟩ := hrel
      go_wp2
      go_ret
      exact ⟨rfl, rfl⟩

theorem refBit_any (n : Int) (s d : Bool) (w : World) :
    Calls Tryd.prog 17 #[.int .i64 n, .bool s, .bool d] w fun e w' => e = .returned (.bool (ropFn n s d)) ∧ w = w' := by
  rcases h : ropKnown n with _ | _
  · have : ropFn n s d = d := by simp [ropFn, h]
    rw [this]; exact refBit_no n s d w h
  · have : ropFn n s d = refDoes n s d := by simp [ropFn, h, refDoes_eq n h]
    rw [this]; exact refBit_yes n s d w h

set_option maxHeartbeats 600000 in
theorem refMix_any (n s d p : Int) (w : World) (hs : 0 ≤ s ∧ s ≤ 255) (hd : 0 ≤ d ∧ d ≤ 255) (hp : 0 ≤ p ∧ p ≤ 255) :
    Calls Tryd.prog 15 #[.int .i64 n, .int .u8 s, .int .u8 d, .int .u8 p] w fun e w' =>
      e = .returned (.int .u8 (mixI n s d p)) ∧ w = w' := by
  have e : refTo (ropFn n) s d p 8 = mixI n s d p := by
    have := refTo_eq (ropFn n) s.toNat d.toNat p.toNat (by omega) (by omega) (by omega)
    rw [Int.toNat_of_nonneg hs.1, Int.toNat_of_nonneg hd.1, Int.toNat_of_nonneg hp.1] at this
    exact this
  have hbd := mixI_bd n s d p
  have HE := Lib.hid e; clear e
  obtain ⟨hs0, hs1⟩ := hs
  obtain ⟨hd0, hd1⟩ := hd
  obtain ⟨hp0, hp1⟩ := hp
  go_enter Tryd.func15, Tryd.ntmps15
  go_wp2_with fail
  go_loop [9, 10, 11, 12, 13, 14] (fun o al vs vd vp i => ∃ k : Nat, k ≤ 8 ∧ i = .int .i64 k ∧ o = .int .i64 (refTo (ropFn n) s d p k) ∧ al = .int .i64 (pow2 k) ∧ vs = .int .i64 (halve k s) ∧ vd = .int .i64 (halve k d) ∧ vp = .int .i64 (halve k p)) (fun _ _ _ _ _ i => 8 - (intOf i).toNat)
  case atStart => exact ⟨0, by omega, rfl, rfl, rfl, rfl, rfl, rfl⟩
  case round =>
    obtain ⟨k, hk, rfl, rfl, rfl, rfl, rfl, rfl⟩ := hrel
    have s0 := halve_nonneg k s hs0
    have s1 := halve_le k s hs0
    have d0 := halve_nonneg k d hd0
    have d1 := halve_le k d hd0
    have p0 := halve_nonneg k p hp0
    have p1 := halve_le k p hp0
    have hw := pow2_bd k hk
    have hr := refTo_bd (ropFn n) s d p k hk
    obtain ⟨hw0, hw1⟩ := hw
    obtain ⟨hr0, hr1⟩ := hr
    by_cases hlt : k < 8
    · have hS : Hid (halve (k + 1) s = halve k s / 2) := rfl
      have hD : Hid (halve (k + 1) d = halve k d / 2) := rfl
      have hP : Hid (halve (k + 1) p = halve k p / 2) := rfl
      have hW : Hid (pow2 (k + 1) = 2 * pow2 k) := rfl
      have hR : Hid (refTo (ropFn n) s d p (k + 1) = if refBitAt (ropFn n) s d p k then refTo (ropFn n) s d p k + pow2 k else refTo (ropFn n) s d p k) := rfl
      have hB : Hid (refBitAt (ropFn n) s d p k = if halve k p % 2 == 1 then ropFn n (halve k s % 2 == 1) (halve k d % 2 == 1) else halve k d % 2 == 1) := rfl
      rcases hp' : (halve k p % 2 == 1) with _ | _
      · rcases hd' : (halve k d % 2 == 1) with _ | _
        all_goals
          go_wp2_with fail
          go_round
          case rel => exact ⟨k + 1, by omega, by go_num, by rw [hR.out, hB.out, hp', hd']; rfl, by rw [hW.out], by rw [hS.out], by rw [hD.out], by rw [hP.out]⟩
          case measure => simp [intOf]; omega
      · go_wp2_with fail
        refine (refBit_any _ _ _ _).mono ?_
        rintro e w' ⟨rfl, rfl⟩
        rcases hq : ropFn n (halve k s % 2 == 1) (halve k d % 2 == 1) with _ | _
        all_goals
          go_wp2_with fail
          go_round
          case rel => exact ⟨k + 1, by omega, by go_num, by rw [hR.out, hB.out, hp', hq]; rfl, by rw [hW.out], by rw [hS.out], by rw [hD.out], by rw [hP.out]⟩
          case measure => simp [intOf]; omega
    · obtain rfl : k = 8 := by omega
      rw [HE.out] at hr0 hr1 ⊢
      generalize hM : mixI n s d p = M at hbd hr0 hr1 ⊢
      have HM := Lib.hid hM; clear hM
      obtain ⟨hb0, hb1⟩ := hbd
      go_wp2_with fail
      go_ret
      exact ⟨by rw [HM.out]; rfl, rfl⟩

theorem rop_bit_any (n : Int) (s d : Bool) (w : World) :
    Calls Tryd.prog 16 #[.int .i64 n, .bool s, .bool d] w fun e w' => e = .returned (.bool (ropFn n s d)) ∧ Below w.heap.size w w' := by
  rcases h : ropKnown n with _ | _
  · have : ropFn n s d = d := by simp [ropFn, h]
    rw [this]
    go_enter Tryd.func16, Tryd.ntmps16
    go_wp2_with (first | (go_at_call 23; refine (function_no _ _ h).mono ?_; rintro e w' ⟨rfl, rfl⟩) | (go_at_call 25; refine (function1_any _ _ _).mono ?_; rintro e w' ⟨rfl, rfl⟩))
    go_ret
    exact ⟨rfl, (Below.refl _ _).alloc (Nat.le_refl _) _⟩
  · have : ropFn n s d = ropDoes n s d := by simp [ropFn, h]
    rw [this]
    go_enter Tryd.func16, Tryd.ntmps16
    go_wp2_with (first | (go_at_call 23; refine (function_yes _ _ h).mono ?_; rintro e w' ⟨rfl, rfl⟩) | (go_at_call 26; refine (function2_any _ _ n _ _ (by simp)).mono ?_; rintro e w' ⟨rfl, k, rfl⟩))
    go_ret
    exact ⟨rfl, below_drewN ((Below.refl _ _).alloc (Nat.le_refl _) _) _⟩
end Go.Proofs.YtboepibmnfmgfaaDoor
