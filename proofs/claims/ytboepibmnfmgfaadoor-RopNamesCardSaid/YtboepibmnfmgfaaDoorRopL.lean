/-
  PLAIN LAWS on mixes and on Then.
-/
import Derived.Test.YtboepibmnfmgfaaDoorRopF
namespace Go.Proofs.YtboepibmnfmgfaaDoor

theorem mixV_comp (f g : Bool → Bool → Bool) (s d p : Nat) : mixV g s (mixV f s d p) p = mixV (fun x y => g x (f x y)) s d p := by
  refine mixV_congr fun j hj => ?_
  unfold mixB
  rw [testBit_mixV _ _ _ _ _ hj, mixB]
  cases p.testBit j <;> simp
theorem mixV_self (f : Bool → Bool → Bool) (s d p : Nat) (hd : d < 256) (h : ∀ x y, f x y = y) : mixV f s d p = d := by
  rw [← bsum_self d hd]
  refine bsum_congr fun j hj => ?_
  rw [mixB, h, bsum_self d hd]
  simp

theorem mixI_toNat (n s d p : Int) : (mixI n s d p).toNat = mixV (ropFn n) s.toNat d.toNat p.toNat := by simp [mixI]
theorem mixI_comp (a b s d p : Int) : mixI b s (mixI a s d p) p = (mixV (fun x y => ropFn b x (ropFn a x y)) s.toNat d.toNat p.toNat : Nat) := by
  unfold mixI
  rw [Int.toNat_natCast, mixV_comp]
theorem mixI_then {a b : Int} (ha : ropKnown a = true) (hb : ropKnown b = true) (s d p : Int) : mixI b s (mixI a s d p) p = mixI (then2 a b) s d p := by
  rw [mixI_comp, mixI]
  congr 2
  funext x y
  rw [then_does ha hb]
theorem mixI_idle (n s d p : Int) (hd : 0 ≤ d ∧ d ≤ 255) (h : ∀ x y, ropFn n x y = y) : mixI n s d p = d := by
  unfold mixI
  rw [mixV_self _ _ _ _ (by omega) h]
  omega
theorem mixI_twice (n s d p : Int) (hd : 0 ≤ d ∧ d ≤ 255) (h : ∀ x y, ropFn n x (ropFn n x y) = y) : mixI n s (mixI n s d p) p = d := by
  rw [mixI_comp, mixV_self _ _ _ _ (by omega) h]
  omega
theorem mixI_once (n s d p : Int) (h : ∀ x y, ropFn n x (ropFn n x y) = ropFn n x y) : mixI n s (mixI n s d p) p = mixI n s d p := by
  rw [mixI_comp, mixI]
  congr 2
  funext x y
  exact h x y

theorem fn_twice : (∀ x y, ropFn 6 x (ropFn 6 x y) = y) ∧ (∀ x y, ropFn 10 x (ropFn 10 x y) = y) ∧ (∀ x y, ropFn 5 x (ropFn 5 x y) = y) := by decide +kernel
theorem fn_once : (∀ x y, ropFn 3 x (ropFn 3 x y) = ropFn 3 x y) ∧ (∀ x y, ropFn 0 x (ropFn 0 x y) = ropFn 0 x y) ∧ (∀ x y, ropFn 15 x (ropFn 15 x y) = ropFn 15 x y) ∧
    (∀ x y, ropFn 12 x (ropFn 12 x y) = ropFn 12 x y) ∧ (∀ x y, ropFn 1 x (ropFn 1 x y) = ropFn 1 x y) ∧ (∀ x y, ropFn 7 x (ropFn 7 x y) = ropFn 7 x y) := by decide +kernel

/- planes -/
theorem bits_andNot_I (x p : Int) (hx : 0 ≤ x ∧ x ≤ 255) (hp : 0 ≤ p ∧ p ≤ 255) : bits .andNot .u8 x p = ((x.toNat &&& (255 - p.toNat) : Nat) : Int) := by
  have := bits_andNot_u8 x.toNat p.toNat (by omega) (by omega)
  rwa [Int.toNat_of_nonneg hx.1, Int.toNat_of_nonneg hp.1] at this
theorem bits_and_I (x p : Int) (hx : 0 ≤ x ∧ x ≤ 255) (hp : 0 ≤ p ∧ p ≤ 255) : bits .and .u8 x p = ((x.toNat &&& p.toNat : Nat) : Int) := by
  have := bits_and_u8 x.toNat p.toNat (by omega) (by omega)
  rwa [Int.toNat_of_nonneg hx.1, Int.toNat_of_nonneg hp.1] at this
theorem nat_and_lt (x y : Nat) (hy : y < 256) : x &&& y < 256 := by have := Nat.and_lt_two_pow (n := 8) x (y := y) (by omega); omega

theorem planes_out (n s d p : Int) (hd : 0 ≤ d ∧ d ≤ 255) (hp : 0 ≤ p ∧ p ≤ 255) : bits .andNot .u8 (mixI n s d p) p = bits .andNot .u8 d p := by
  rw [bits_andNot_I _ _ (mixI_bd _ _ _ _) hp, bits_andNot_I _ _ hd hp, mixI_toNat]
  congr 1
  refine eq_of_bits (nat_and_lt _ _ (by omega)) (nat_and_lt _ _ (by omega)) fun j hj => ?_
  rw [Nat.testBit_and, Nat.testBit_and, testBit_255_sub _ _ (by omega) hj, testBit_mixV _ _ _ _ _ hj, mixB]
  cases p.toNat.testBit j <;> simp
theorem planes_none (n s d : Int) (hd : 0 ≤ d ∧ d ≤ 255) : mixI n s d 0 = d := by
  unfold mixI
  have : mixV (ropFn n) s.toNat d.toNat (0 : Int).toNat = d.toNat := by
    rw [← bsum_self d.toNat (by omega)]
    refine bsum_congr fun j hj => ?_
    simp [mixB, bsum_self d.toNat (by omega)]
  rw [this]; omega
theorem testBit_255 : ∀ j : Fin 8, (255 : Nat).testBit j.val = true := by decide +kernel
theorem planes_rest (n s d p : Int) (hp : 0 ≤ p ∧ p ≤ 255) : mixI n s (mixI n s d p) (255 - p) = mixI n s d 255 := by
  unfold mixI
  rw [Int.toNat_natCast]
  congr 1
  refine mixV_congr fun j hj => ?_
  have e : (255 - p).toNat = 255 - p.toNat := by omega
  have e2 : (255 : Int).toNat = 255 := rfl
  unfold mixB
  rw [e, e2, testBit_255_sub _ _ (by omega) hj, testBit_mixV _ _ _ _ _ hj, testBit_255 ⟨j, hj⟩, mixB]
  cases p.toNat.testBit j <;> simp
theorem planes_in (n s d p : Int) (hp : 0 ≤ p ∧ p ≤ 255) : bits .and .u8 (mixI n s d p) p = bits .and .u8 (mixI n s d 255) p := by
  rw [bits_and_I _ _ (mixI_bd _ _ _ _) hp, bits_and_I _ _ (mixI_bd _ _ _ _) hp, mixI_toNat, mixI_toNat]
  congr 1
  refine eq_of_bits (nat_and_lt _ _ (by omega)) (nat_and_lt _ _ (by omega)) fun j hj => ?_
  have e2 : (255 : Int).toNat = 255 := rfl
  rw [Nat.testBit_and, Nat.testBit_and, testBit_mixV _ _ _ _ _ hj, testBit_mixV _ _ _ _ _ hj, mixB, mixB, e2, testBit_255 ⟨j, hj⟩]
  cases p.toNat.testBit j <;> simp

/- turns -/
theorem turns_fin : ∀ a : Fin 16, then2 a.val 10 = 15 - (a.val : Int) ∧ (∀ x y, ropDoes (15 - (a.val : Int)) x y = !ropDoes a.val x y) := by decide +kernel
theorem turns_then {a : Int} (ha : ropKnown a = true) : then2 a 10 = 15 - a := by
  obtain ⟨x, hx, rfl⟩ := known_cast ha
  exact (turns_fin ⟨x, hx⟩).1
theorem turns_known {a : Int} (ha : ropKnown a = true) : ropKnown (15 - a) = true := by simp [ropKnown] at *; omega
theorem turns_fn {a : Int} (ha : ropKnown a = true) (x y : Bool) : ropFn (15 - a) x y = !ropFn a x y := by
  simp only [ropFn, ha, turns_known ha, if_true]
  obtain ⟨k, hk, rfl⟩ := known_cast ha
  exact (turns_fin ⟨k, hk⟩).2 x y
theorem turns_mix {a : Int} (ha : ropKnown a = true) (s d : Int) : mixI (15 - a) s d 255 = 255 - mixI a s d 255 := by
  have h1 := mixI_bd a s d 255
  have h2 := mixI_bd (15 - a) s d 255
  have : (mixI (15 - a) s d 255).toNat = 255 - (mixI a s d 255).toNat := by
    refine eq_of_bits (by omega) (by omega) fun j hj => ?_
    have e2 : (255 : Int).toNat = 255 := rfl
    rw [testBit_255_sub _ _ (by omega) hj, mixI_toNat, mixI_toNat, testBit_mixV _ _ _ _ _ hj, testBit_mixV _ _ _ _ _ hj, mixB, mixB, e2, testBit_255 ⟨j, hj⟩]
    simp [turns_fn ha]
  omega
theorem mixI_unknown (n s d p : Int) (hn : ropKnown n = false) (hd : 0 ≤ d ∧ d ≤ 255) : mixI n s d p = d :=
  mixI_idle n s d p hd fun x y => by simp [ropFn, hn]

/- groups -/
theorem fn_ext {a b : Int} (ha : ropKnown a = true) (hb : ropKnown b = true) (h : ∀ x y, ropFn a x y = ropFn b x y) : a = b := by
  simp only [ropFn, ha, hb, if_true] at h
  obtain ⟨x, hx, rfl⟩ := known_cast ha
  obtain ⟨y, hy, rfl⟩ := known_cast hb
  have := does_ext ⟨x, hx⟩ ⟨y, hy⟩
  simp only [h, Fin.mk.injEq] at this
  simp at this
  omega
theorem then_assoc {a b c : Int} (ha : ropKnown a = true) (hb : ropKnown b = true) (hc : ropKnown c = true) : then2 (then2 a b) c = then2 a (then2 b c) := by
  have h1 := then_known ha hb
  have h2 := then_known hb hc
  refine fn_ext (then_known h1 hc) (then_known ha h2) fun x y => ?_
  rw [then_does h1 hc, then_does ha h2, then_does ha hb, then_does hb hc]
theorem then_fin3 : ∀ a : Fin 16, then2 5 a.val = a.val ∧ then2 a.val 5 = a.val ∧ then2 a.val 3 = 3 := by decide +kernel
theorem then_unit {a : Int} (ha : ropKnown a = true) : then2 5 a = a ∧ then2 a 5 = a ∧ then2 a 3 = 3 := by
  obtain ⟨x, hx, rfl⟩ := known_cast ha
  exact then_fin3 ⟨x, hx⟩
end Go.Proofs.YtboepibmnfmgfaaDoor
