/-
  WALKS of the reference of layer 18: Then; the plain laws on Then.
-/
import Derived.Test.YtboepibmnfmgfaaDoorRopD
namespace Go.Proofs.YtboepibmnfmgfaaDoor
open Go.RowKit

def allF (c a b : Int) : Nat → Bool
  | 0 => true
  | j + 1 => allF c a b j && (ropFn c (j % 2 == 1) (decide (j > 1)) == ropFn b (j % 2 == 1) (ropFn a (j % 2 == 1) (decide (j > 1))))

theorem allF_one (c a b : Int) (j : Nat) (s d : Bool) (hs : (j % 2 == 1) = s) (hd : decide (j > 1) = d) :
    allF c a b (j + 1) = (allF c a b j && (ropFn c s d == ropFn b s (ropFn a s d))) := by rw [allF, hs, hd]

theorem does_ext : ∀ c t : Fin 16, (ropDoes c.val false false == ropDoes t.val false false && ropDoes c.val true false == ropDoes t.val true false && ropDoes c.val false true == ropDoes t.val false true && ropDoes c.val true true == ropDoes t.val true true) = decide (c = t) := by decide +kernel
theorem then_fin : ∀ a b : Fin 16, 0 ≤ then2 a.val b.val ∧ then2 a.val b.val ≤ 15 ∧ (∀ s d : Bool, ropDoes (then2 a.val b.val) s d = ropDoes b.val s (ropDoes a.val s d)) := by decide +kernel
theorem then_bd {a b : Int} (ha : ropKnown a = true) (hb : ropKnown b = true) : 0 ≤ then2 a b ∧ then2 a b ≤ 15 := by
  obtain ⟨x, hx, rfl⟩ := known_cast ha
  obtain ⟨y, hy, rfl⟩ := known_cast hb
  exact ⟨(then_fin ⟨x, hx⟩ ⟨y, hy⟩).1, (then_fin ⟨x, hx⟩ ⟨y, hy⟩).2.1⟩
theorem then_known {a b : Int} (ha : ropKnown a = true) (hb : ropKnown b = true) : ropKnown (then2 a b) = true := by
  have := then_bd ha hb
  simp [ropKnown]; omega
theorem then_does {a b : Int} (ha : ropKnown a = true) (hb : ropKnown b = true) (s d : Bool) : ropFn (then2 a b) s d = ropFn b s (ropFn a s d) := by
  simp only [ropFn, ha, hb, then_known ha hb, if_true]
  obtain ⟨x, hx, rfl⟩ := known_cast ha
  obtain ⟨y, hy, rfl⟩ := known_cast hb
  exact (then_fin ⟨x, hx⟩ ⟨y, hy⟩).2.2 s d
theorem allF_eq {c a b : Int} (hc : ropKnown c = true) (ha : ropKnown a = true) (hb : ropKnown b = true) : allF c a b 4 = decide (c = then2 a b) := by
  have h4 := allF_one c a b 3 true true rfl rfl
  have h3 := allF_one c a b 2 false true rfl rfl
  have h2 := allF_one c a b 1 true false rfl rfl
  have h1 := allF_one c a b 0 false false rfl rfl
  rw [h4, h3, h2, h1]
  simp only [← then_does ha hb]
  have ht := then_known ha hb
  generalize then2 a b = t at ht
  simp only [ropFn, hc, ht, if_true]
  obtain ⟨x, hx, rfl⟩ := known_cast hc
  obtain ⟨y, hy, rfl⟩ := known_cast ht
  have := does_ext ⟨x, hx⟩ ⟨y, hy⟩
  simp only [Fin.mk.injEq] at this
  simp only [allF, Bool.true_and]
  rw [this]
  exact decide_eq_decide.2 (by omega)

theorem refThen_no (a b : Int) (w : World) (hk : ropKnown a = false ∨ ropKnown b = false) :
    Calls Tryd.prog 12 #[.int .i64 a, .int .i64 b] w fun e w' =>
      e = .returned (.int .i64 (-1)) ∧ w = w' := by
  rcases ha : ropKnown a with _ | _
  · go_enter Tryd.func12, Tryd.ntmps12
    go_wp2_with (go_at_call 14; refine (refIs_any _ _).mono ?_; rintro e w' ⟨rfl, rfl⟩)
    go_ret
    exact ⟨rfl, rfl⟩
  · have hb : ropKnown b = false := by simpa [ha] using hk
    clear hk
    go_enter Tryd.func12, Tryd.ntmps12
    go_wp2_with (go_at_call 14; refine (refIs_any _ _).mono ?_; rintro e w' ⟨rfl, rfl⟩)
    go_ret
    exact ⟨rfl, rfl⟩

set_option maxRecDepth 100000 in
set_option maxHeartbeats 1000000 in
theorem refThen_yes (a b : Int) (w : World) (ha : ropKnown a = true) (hb : ropKnown b = true) :
    Calls Tryd.prog 12 #[.int .i64 a, .int .i64 b] w fun e w' =>
      e = .returned (.int .i64 (then2 a b)) ∧ w = w' := by
  have hall := fun c hc => @allF_eq c a b hc ha hb
  have HALL := Lib.hid hall; clear hall
  have hbd := then_bd ha hb
  generalize hT : then2 a b = T at hbd ⊢
  obtain ⟨t, ht⟩ : ∃ t : Nat, T = t := ⟨T.toNat, by omega⟩
  subst ht
  have HT := Lib.hid hT; clear hT
  obtain ⟨_, ht15⟩ := hbd
  go_enter Tryd.func12, Tryd.ntmps12
  go_wp2_with (go_at_call 14; refine (refIs_any _ _).mono ?_; rintro e w' ⟨rfl, rfl⟩)
  clear ha hb
  go_loop [5, 6] (fun o _ => ∃ k : Nat, k ≤ t ∧ o = .int .i64 k) (fun o _ => 16 - (intOf o).toNat)
  case atStart => exact ⟨0, by omega, rfl⟩
  case round =>
    obtain ⟨k, hkt, rfl⟩ := hrel
    have hck : ropKnown (k : Int) = true := by simp [ropKnown]; omega
    have hfin : Hid (allF k a b 4 = decide ((k : Int) = t)) := by have := HALL.out k hck; rw [HT.out] at this; exact this
    clear hck
    go_wp2_with fail
    go_loop [6, 7] (fun o i => (i = .int .i64 0 ∧ o = .bool true) ∨ (i = .int .i64 1 ∧ o = .bool (allF k a b 1)) ∨ (i = .int .i64 2 ∧ o = .bool (allF k a b 2)) ∨ (i = .int .i64 3 ∧ o = .bool (allF k a b 3)) ∨ (i = .int .i64 4 ∧ o = .bool (allF k a b 4))) (fun _ i => 4 - (intOf i).toNat)
    case atStart => exact Or.inl ⟨rfl, rfl⟩
    case round =>
      rcases hrel with ⟨rfl, rfl⟩ | ⟨rfl, rfl⟩ | ⟨rfl, rfl⟩ | ⟨rfl, rfl⟩ | ⟨rfl, rfl⟩
      · have hone : Hid (allF k a b 1 = (ropFn k false false == ropFn b false (ropFn a false false))) := by have := allF_one k a b 0 false false rfl rfl; rw [this]; simp [allF, Hid]
        go_wp2_with (go_at_call 17; refine (refBit_any _ _ _ _).mono ?_; rintro e w' ⟨rfl, rfl⟩)
        go_round
        case rel => exact Or.inr (Or.inl ⟨rfl, by rw [hone.out]⟩)
        case measure => simp [intOf]
      · have hone := allF_one k a b 1 true false rfl rfl
        rcases hv : allF k a b 1 with _ | _
        · rw [hv] at hone
          have HO := Lib.hid hone; clear hone hv
          go_wp2_with fail
          go_round
          case rel => exact Or.inr (Or.inr (Or.inl ⟨rfl, by rw [HO.out]; rfl⟩))
          case measure => simp [intOf]
        · rw [hv, Bool.true_and] at hone
          have HO := Lib.hid hone; clear hone hv
          go_wp2_with (go_at_call 17; refine (refBit_any _ _ _ _).mono ?_; rintro e w' ⟨rfl, rfl⟩)
          go_round
          case rel => exact Or.inr (Or.inr (Or.inl ⟨rfl, by rw [HO.out]⟩))
          case measure => simp [intOf]
      · have hone := allF_one k a b 2 false true rfl rfl
        rcases hv : allF k a b 2 with _ | _
        · rw [hv] at hone
          have HO := Lib.hid hone; clear hone hv
          go_wp2_with fail
          go_round
          case rel => exact Or.inr (Or.inr (Or.inr (Or.inl ⟨rfl, by rw [HO.out]; rfl⟩)))
          case measure => simp [intOf]
        · rw [hv, Bool.true_and] at hone
          have HO := Lib.hid hone; clear hone hv
          go_wp2_with (go_at_call 17; refine (refBit_any _ _ _ _).mono ?_; rintro e w' ⟨rfl, rfl⟩)
          go_round
          case rel => exact Or.inr (Or.inr (Or.inr (Or.inl ⟨rfl, by rw [HO.out]⟩)))
          case measure => simp [intOf]
      · have hone := allF_one k a b 3 true true rfl rfl
        rcases hv : allF k a b 3 with _ | _
        · rw [hv] at hone
          have HO := Lib.hid hone; clear hone hv
          go_wp2_with fail
          go_round
          case rel => exact Or.inr (Or.inr (Or.inr (Or.inr ⟨rfl, by rw [HO.out]; rfl⟩)))
          case measure => simp [intOf]
        · rw [hv, Bool.true_and] at hone
          have HO := Lib.hid hone; clear hone hv
          go_wp2_with (go_at_call 17; refine (refBit_any _ _ _ _).mono ?_; rintro e w' ⟨rfl, rfl⟩)
          go_round
          case rel => exact Or.inr (Or.inr (Or.inr (Or.inr ⟨rfl, by rw [HO.out]⟩)))
          case measure => simp [intOf]
      · rw [hfin.out]
        by_cases he : k = t
        · have hd : decide ((k : Int) = t) = true := by simp [he]
          rw [hd]
          have HE := Lib.hid he; clear he hd
          go_wp2_with fail
          go_ret
          exact ⟨by rw [← HE.out]; rfl, rfl⟩
        · have hd : decide ((k : Int) = t) = false := by simp; omega
          rw [hd]
          clear hd
          go_wp2_with fail
          go_round
          case rel => exact ⟨k + 1, by omega, by go_num⟩
          case measure => simp [intOf]; omega
end Go.Proofs.YtboepibmnfmgfaaDoor
