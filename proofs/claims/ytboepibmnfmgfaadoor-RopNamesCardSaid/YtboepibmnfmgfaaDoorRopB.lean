/-
  WALKS of package rop (layer 18): function, Mix.
-/
import Derived.Test.YtboepibmnfmgfaaDoorRop
import Derived.Test.YtboepibmnfmgfaaDoorBits
namespace Go.Proofs.YtboepibmnfmgfaaDoor
open Go.RowKit

theorem function1_q (s d : Bool) (w : World) :
    Calls Tryd.prog 25 #[.bool s, .bool d] w fun e w' => e = .returned (.bool d) ∧ ∃ k, w' = w.drewN k :=
  (function1_any s d w).mono fun _ _ h => ⟨h.1, 0, h.2.symm⟩

theorem function_yes (n : Int) (w : World) (hk : ropKnown n = true) :
    Calls Tryd.prog 23 #[.int .i64 n] w fun e w' =>
      e = .returned (.func (.func 26) #[] #[.pointer (some ⟨w.heap.size, 0, none⟩)]) ∧ w.alloc (.cells #[.int .i64 n] 3) = w' := by
  have hmf : ∀ (fn : Fn) (first cap : Array Value) (w : World), (Instr.makeFunc fn first cap).run Tryd.prog w = .ok (.func fn first cap) w := fun _ _ _ _ => rfl
  go_enter Tryd.func23, Tryd.ntmps23
  go_wp2_with (go_at_call 22; refine (known_any _ _).mono ?_; rintro e w' ⟨rfl, rfl⟩)
  go_ret
  exact ⟨rfl, rfl⟩

theorem function_no (n : Int) (w : World) (hk : ropKnown n = false) :
    Calls Tryd.prog 23 #[.int .i64 n] w fun e w' =>
      e = .returned (.func (.func 25) #[] #[]) ∧ w.alloc (.cells #[.int .i64 n] 3) = w' := by
  have hmf : ∀ (fn : Fn) (first cap : Array Value) (w : World), (Instr.makeFunc fn first cap).run Tryd.prog w = .ok (.func fn first cap) w := fun _ _ _ _ => rfl
  go_enter Tryd.func23, Tryd.ntmps23
  go_wp2_with (go_at_call 22; refine (known_any _ _).mono ?_; rintro e w' ⟨rfl, rfl⟩)
  go_ret
  exact ⟨rfl, rfl⟩

def ropFn (n : Int) (s d : Bool) : Bool := if ropKnown n then ropDoes n s d else d

set_option maxHeartbeats 400000 in
theorem mix_yes (n s d p : Int) (w : World) (hk : ropKnown n = true) :
    Calls Tryd.prog 13 #[.int .i64 n, .int .u8 s, .int .u8 d, .int .u8 p] w fun e w' =>
      e = .returned (.int .u8 (mixTo (ropFn n) s d p 8)) ∧ Below w.heap.size w w' := by
  have hf : ropFn n = ropDoes n := by funext s d; simp [ropFn, hk]
  rw [hf]
  have hk' := Lib.hid hk; clear hk hf
  go_enter Tryd.func13, Tryd.ntmps13
  go_wp2_with (go_at_call 23; refine (function_yes _ _ hk'.out).mono ?_; rintro e w' ⟨rfl, rfl⟩)
  go_loopw [10, 18] (fun o i wr => ∃ k : Nat, k ≤ 8 ∧ i = .int .i64 k ∧ o = .int .u8 (mixTo (ropDoes n) s d p k) ∧ wr.cell? ⟨w.heap.size, 0, none⟩ = some (.int .i64 n) ∧ Below w.heap.size w wr) (fun _ i _ => 8 - (intOf i).toNat)
  case atStart => exact ⟨0, Nat.zero_le _, rfl, rfl, by simp, (Below.refl _ _).alloc (Nat.le_refl _) _⟩
  case round =>
    obtain ⟨k, hk8, rfl, rfl, hc, hb⟩ := hrel
    by_cases hlt : k < 8
    · have hs := mixTo_succ (ropDoes n) s d p k
      generalize hM : mixTo (ropDoes n) s d p (k + 1) = M at hs
      generalize mixTo (ropDoes n) s d p k = O at hs ⊢
      have HM := Lib.hid hM; clear hM
      have HS := Lib.hid hs; clear hs
      rcases hp : (bits .and .u8 p (2 ^ k % 256) != 0) with _ | _
      · go_wp2_with fail
        go_roundw
        case rel => exact ⟨k + 1, by omega, by go_num, by rw [HM.out, HS.out, hp]; rfl, hc, hb⟩
        case measure => simp [intOf]; omega
      · go_wp2_with fail
        refine (function2_any _ _ n _ _ hc).mono ?_
        rintro e w' ⟨rfl, j, rfl⟩
        rcases hq : (ropDoes n) (bits .and .u8 s (2 ^ k % 256) != 0) (bits .and .u8 d (2 ^ k % 256) != 0) with _ | _
        all_goals
          go_wp2_with fail
          go_roundw
          case rel => exact ⟨k + 1, by omega, by go_num, by rw [HM.out, HS.out, hp, hq]; rfl, by simpa using hc, below_drewN hb j⟩
          case measure => simp [intOf]; omega
    · obtain rfl : k = 8 := by omega
      go_wp2_with fail
      go_ret
      exact ⟨rfl, hb⟩

set_option maxHeartbeats 400000 in
theorem mix_no (n s d p : Int) (w : World) (hk : ropKnown n = false) :
    Calls Tryd.prog 13 #[.int .i64 n, .int .u8 s, .int .u8 d, .int .u8 p] w fun e w' =>
      e = .returned (.int .u8 (mixTo (ropFn n) s d p 8)) ∧ Below w.heap.size w w' := by
  have hf : ropFn n = fun _ d => d := by funext s d; simp [ropFn, hk]
  rw [hf]
  have hk' := Lib.hid hk; clear hk hf
  go_enter Tryd.func13, Tryd.ntmps13
  go_wp2_with (go_at_call 23; refine (function_no _ _ hk'.out).mono ?_; rintro e w' ⟨rfl, rfl⟩)
  go_loopw [10, 18] (fun o i wr => ∃ k : Nat, k ≤ 8 ∧ i = .int .i64 k ∧ o = .int .u8 (mixTo (fun _ d => d) s d p k) ∧ wr.cell? ⟨w.heap.size, 0, none⟩ = some (.int .i64 n) ∧ Below w.heap.size w wr) (fun _ i _ => 8 - (intOf i).toNat)
  case atStart => exact ⟨0, Nat.zero_le _, rfl, rfl, by simp, (Below.refl _ _).alloc (Nat.le_refl _) _⟩
  case round =>
    obtain ⟨k, hk8, rfl, rfl, hc, hb⟩ := hrel
    by_cases hlt : k < 8
    · have hs := mixTo_succ (fun _ d => d) s d p k
      generalize hM : mixTo (fun _ d => d) s d p (k + 1) = M at hs
      generalize mixTo (fun _ d => d) s d p k = O at hs ⊢
      have HM := Lib.hid hM; clear hM
      have HS := Lib.hid hs; clear hs
      rcases hp : (bits .and .u8 p (2 ^ k % 256) != 0) with _ | _
      · go_wp2_with fail
        go_roundw
        case rel => exact ⟨k + 1, by omega, by go_num, by rw [HM.out, HS.out, hp]; rfl, hc, hb⟩
        case measure => simp [intOf]; omega
      · go_wp2_with fail
        refine (function1_q _ _ _).mono ?_
        rintro e w' ⟨rfl, j, rfl⟩
        rcases hq : (fun _ d => d) (bits .and .u8 s (2 ^ k % 256) != 0) (bits .and .u8 d (2 ^ k % 256) != 0) with _ | _
        all_goals
          go_wp2_with fail
          go_roundw
          case rel => exact ⟨k + 1, by omega, by go_num, by rw [HM.out, HS.out, hp, hq]; rfl, by simpa using hc, below_drewN hb j⟩
          case measure => simp [intOf]; omega
    · obtain rfl : k = 8 := by omega
      go_wp2_with fail
      go_ret
      exact ⟨rfl, hb⟩

/-- MIX: what comes, as a number -/
def mixI (n s d p : Int) : Int := (mixV (ropFn n) s.toNat d.toNat p.toNat : Nat)
theorem mixI_bd (n s d p : Int) : 0 ≤ mixI n s d p ∧ mixI n s d p ≤ 255 := by
  have := mixV_lt (ropFn n) s.toNat d.toNat p.toNat
  unfold mixI
  omega

theorem mix_any (n s d p : Int) (w : World) (hs : 0 ≤ s ∧ s ≤ 255) (hd : 0 ≤ d ∧ d ≤ 255) (hp : 0 ≤ p ∧ p ≤ 255) :
    Calls Tryd.prog 13 #[.int .i64 n, .int .u8 s, .int .u8 d, .int .u8 p] w fun e w' =>
      e = .returned (.int .u8 (mixI n s d p)) ∧ Below w.heap.size w w' := by
  have e : mixTo (ropFn n) s d p 8 = mixI n s d p := by
    have := mixTo_eq (ropFn n) s.toNat d.toNat p.toNat (by omega) (by omega) (by omega)
    rw [Int.toNat_of_nonneg hs.1, Int.toNat_of_nonneg hd.1, Int.toNat_of_nonneg hp.1] at this
    exact this
  rw [← e]
  rcases h : ropKnown n with _ | _
  · exact mix_no n s d p w h
  · exact mix_yes n s d p w h
end Go.Proofs.YtboepibmnfmgfaaDoor
