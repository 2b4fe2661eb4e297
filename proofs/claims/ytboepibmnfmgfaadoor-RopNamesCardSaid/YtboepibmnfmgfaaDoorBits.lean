/-
  PLAIN LAWS on eight bits: no program in sight.
-/
import Derived.Laws.Entries
namespace Go.Proofs.YtboepibmnfmgfaaDoor

/-- the number that has these eight bits -/
def bsum (b : Nat → Bool) : Nat :=
  (b 0).toNat + 2 * (b 1).toNat + 4 * (b 2).toNat + 8 * (b 3).toNat + 16 * (b 4).toNat + 32 * (b 5).toNat + 64 * (b 6).toNat + 128 * (b 7).toNat

theorem bsum_lt (b : Nat → Bool) : bsum b < 256 := by
  unfold bsum
  have h : ∀ x : Bool, x.toNat ≤ 1 := by decide
  have := h (b 0); have := h (b 1); have := h (b 2); have := h (b 3); have := h (b 4); have := h (b 5); have := h (b 6); have := h (b 7)
  omega

theorem testBit_sum8 : ∀ b0 b1 b2 b3 b4 b5 b6 b7 : Bool, ∀ j : Fin 8,
    (b0.toNat + 2 * b1.toNat + 4 * b2.toNat + 8 * b3.toNat + 16 * b4.toNat + 32 * b5.toNat + 64 * b6.toNat + 128 * b7.toNat).testBit j.val = [b0, b1, b2, b3, b4, b5, b6, b7].getD j.val false := by
  decide +kernel

theorem testBit_bsum (b : Nat → Bool) (j : Nat) (hj : j < 8) : (bsum b).testBit j = b j := by
  have := testBit_sum8 (b 0) (b 1) (b 2) (b 3) (b 4) (b 5) (b 6) (b 7) ⟨j, hj⟩
  unfold bsum
  rw [this]
  match j, hj with
  | 0, _ => rfl
  | 1, _ => rfl
  | 2, _ => rfl
  | 3, _ => rfl
  | 4, _ => rfl
  | 5, _ => rfl
  | 6, _ => rfl
  | 7, _ => rfl

theorem bsum_self_fin : ∀ x : Fin 256, bsum (fun j => x.val.testBit j) = x.val := by decide +kernel
theorem bsum_self (x : Nat) (h : x < 256) : bsum (fun j => x.testBit j) = x := bsum_self_fin ⟨x, h⟩

theorem bsum_congr {a b : Nat → Bool} (h : ∀ j, j < 8 → a j = b j) : bsum a = bsum b := by
  unfold bsum
  rw [h 0 (by omega), h 1 (by omega), h 2 (by omega), h 3 (by omega), h 4 (by omega), h 5 (by omega), h 6 (by omega), h 7 (by omega)]

theorem eq_of_bits {x y : Nat} (hx : x < 256) (hy : y < 256) (h : ∀ j, j < 8 → x.testBit j = y.testBit j) : x = y := by
  rw [← bsum_self x hx, ← bsum_self y hy]
  exact bsum_congr h

theorem wrap_u8 (n : Int) : IntKind.u8.wrap n = n % 256 := by simp [IntKind.wrap, IntKind.bits, IntKind.signed]

theorem bv8 (a : Nat) (ha : a < 256) : (BitVec.ofInt 8 (a : Int)).toNat = a := by
  rw [BitVec.ofInt_natCast, BitVec.toNat_ofNat]; exact Nat.mod_eq_of_lt (by omega)

theorem bits_and_u8 (a b : Nat) (ha : a < 256) (hb : b < 256) : bits .and .u8 (a : Int) (b : Int) = ((a &&& b : Nat) : Int) := by
  have hx : a &&& b < 2 ^ 8 := Nat.and_lt_two_pow _ (by omega)
  show IntKind.u8.wrap ((BitVec.ofInt 8 (a : Int) &&& BitVec.ofInt 8 (b : Int)).toNat : Int) = _
  rw [BitVec.toNat_and, bv8 a ha, bv8 b hb, wrap_u8]
  omega

theorem bits_or_u8 (a b : Nat) (ha : a < 256) (hb : b < 256) : bits .or .u8 (a : Int) (b : Int) = ((a ||| b : Nat) : Int) := by
  have hx : a ||| b < 2 ^ 8 := Nat.or_lt_two_pow (by omega) (by omega)
  show IntKind.u8.wrap ((BitVec.ofInt 8 (a : Int) ||| BitVec.ofInt 8 (b : Int)).toNat : Int) = _
  rw [BitVec.toNat_or, bv8 a ha, bv8 b hb, wrap_u8]
  omega

theorem bits_andNot_u8 (a b : Nat) (ha : a < 256) (hb : b < 256) : bits .andNot .u8 (a : Int) (b : Int) = ((a &&& (255 - b) : Nat) : Int) := by
  have hx : a &&& (255 - b) < 2 ^ 8 := Nat.and_lt_two_pow _ (by omega)
  show IntKind.u8.wrap ((BitVec.ofInt 8 (a : Int) &&& ~~~ BitVec.ofInt 8 (b : Int)).toNat : Int) = _
  rw [BitVec.toNat_and, BitVec.toNat_not, bv8 a ha, bv8 b hb, wrap_u8]
  have : (2 : Nat) ^ 8 - 1 - b = 255 - b := by omega
  rw [this]
  omega

theorem testBit_255_sub_fin : ∀ x : Fin 256, ∀ j : Fin 8, (255 - x.val).testBit j.val = !x.val.testBit j.val := by decide +kernel
theorem testBit_255_sub (x j : Nat) (hx : x < 256) (hj : j < 8) : (255 - x).testBit j = !x.testBit j := testBit_255_sub_fin ⟨x, hx⟩ ⟨j, hj⟩

theorem and_pow_fin : ∀ x : Fin 256, ∀ j : Fin 8, (((x.val &&& 2 ^ j.val : Nat) : Int) != 0) = x.val.testBit j.val := by decide +kernel

theorem pow_mod (k : Nat) (hk : k < 8) : (2 ^ k % 256 : Int) = ((2 ^ k : Nat) : Int) := by
  match k, hk with
  | 0, _ => decide
  | 1, _ => decide
  | 2, _ => decide
  | 3, _ => decide
  | 4, _ => decide
  | 5, _ => decide
  | 6, _ => decide
  | 7, _ => decide

/-- 'x & (1 << k) != 0' is the bit at place k -/
theorem bit_at (x k : Nat) (hx : x < 256) (hk : k < 8) : (bits .and .u8 (x : Int) (2 ^ k % 256) != 0) = x.testBit k := by
  have hp : (2 : Nat) ^ k < 256 := Nat.pow_lt_pow_right (a := 2) (m := k) (n := 8) (by omega) hk
  rw [pow_mod k hk, bits_and_u8 _ _ hx hp]
  exact and_pow_fin ⟨x, hx⟩ ⟨k, hk⟩
theorem or_at (x k : Nat) (hx : x < 256) (hk : k < 8) : bits .or .u8 (x : Int) (2 ^ k % 256) = ((x ||| 2 ^ k : Nat) : Int) := by
  have hp : (2 : Nat) ^ k < 256 := Nat.pow_lt_pow_right (a := 2) (m := k) (n := 8) (by omega) hk
  rw [pow_mod k hk, bits_or_u8 _ _ hx hp]

theorem comp_fin : ∀ x : Fin 256, bits .xor .u8 IntKind.u8.max (x.val : Int) = 255 - (x.val : Int) := by decide +kernel
/-- '^x' -/
theorem comp_u8 (x : Int) (h : 0 ≤ x ∧ x ≤ 255) : bits .xor .u8 IntKind.u8.max x = 255 - x := by
  have := comp_fin ⟨x.toNat, by omega⟩
  simp only [Int.toNat_of_nonneg h.1] at this
  exact this

/-- one bit of a mix -/
def mixB (f : Bool → Bool → Bool) (s d p : Nat) (j : Nat) : Bool := if p.testBit j then f (s.testBit j) (d.testBit j) else d.testBit j
/-- WHAT A MIX COMES TO -/
def mixV (f : Bool → Bool → Bool) (s d p : Nat) : Nat := bsum (mixB f s d p)
theorem mixV_lt (f : Bool → Bool → Bool) (s d p : Nat) : mixV f s d p < 256 := bsum_lt _
theorem testBit_mixV (f : Bool → Bool → Bool) (s d p j : Nat) (hj : j < 8) : (mixV f s d p).testBit j = mixB f s d p j := testBit_bsum _ _ hj

/-- the program's way -/
def mixTo (f : Bool → Bool → Bool) (s d p : Int) : Nat → Int
  | 0 => bits .andNot .u8 d p
  | k + 1 => if bits .and .u8 p (2 ^ k % 256) != 0 && f (bits .and .u8 s (2 ^ k % 256) != 0) (bits .and .u8 d (2 ^ k % 256) != 0) then bits .or .u8 (mixTo f s d p k) (2 ^ k % 256) else mixTo f s d p k
theorem mixTo_succ (f : Bool → Bool → Bool) (s d p : Int) (k : Nat) : mixTo f s d p (k + 1) =
    if bits .and .u8 p (2 ^ k % 256) != 0 && f (bits .and .u8 s (2 ^ k % 256) != 0) (bits .and .u8 d (2 ^ k % 256) != 0) then bits .or .u8 (mixTo f s d p k) (2 ^ k % 256) else mixTo f s d p k := rfl

theorem mixTo_bits (f : Bool → Bool → Bool) (s d p : Nat) (hs : s < 256) (hd : d < 256) (hp : p < 256) (k : Nat) (hk : k ≤ 8) :
    ∃ v : Nat, mixTo f s d p k = v ∧ v < 256 ∧ ∀ j, j < 8 → v.testBit j = if j < k then mixB f s d p j else (d.testBit j && !p.testBit j) := by
  induction k with
  | zero =>
    refine ⟨d &&& (255 - p), by rw [mixTo, bits_andNot_u8 _ _ hd hp], ?_, fun j hj => ?_⟩
    · have := Nat.and_lt_two_pow (n := 8) d (y := 255 - p) (by omega); omega
    · simp [Nat.testBit_and, testBit_255_sub p j hp hj]
  | succ k ih =>
    obtain ⟨v, hv, hv2, hb⟩ := ih (by omega)
    rw [mixTo_succ, bit_at p k hp (by omega), bit_at s k hs (by omega), bit_at d k hd (by omega), hv, or_at v k hv2 (by omega)]
    by_cases hc : (p.testBit k && f (s.testBit k) (d.testBit k)) = true
    · refine ⟨v ||| 2 ^ k, by rw [if_pos hc], ?_, fun j hj => ?_⟩
      · have hp2 : (2 : Nat) ^ k < 256 := Nat.pow_lt_pow_right (a := 2) (m := k) (n := 8) (by omega) (by omega)
        have := Nat.or_lt_two_pow (n := 8) (x := v) (y := 2 ^ k) (by omega) (by omega); omega
      · rw [Nat.testBit_or, hb j hj, Nat.testBit_two_pow]
        simp only [Bool.and_eq_true] at hc
        by_cases e : j = k
        · subst e; simp [mixB, hc.1, hc.2]
        · have : ¬ k = j := fun h => e h.symm
          by_cases hl : j < k
          · have : j < k + 1 := by omega
            simp [*]
          · have : ¬ j < k + 1 := by omega
            simp [*]
    · refine ⟨v, by rw [if_neg hc], hv2, fun j hj => ?_⟩
      rw [hb j hj]
      by_cases e : j = k
      · subst e
        simp only [Nat.lt_irrefl, if_false, Nat.lt_succ_self, if_true, mixB]
        revert hc
        cases p.testBit j <;> cases f (s.testBit j) (d.testBit j) <;> cases d.testBit j <;> simp
      · by_cases hl : j < k
        · have : j < k + 1 := by omega
          simp [*]
        · have : ¬ j < k + 1 := by omega
          simp [*]

theorem mixTo_eq (f : Bool → Bool → Bool) (s d p : Nat) (hs : s < 256) (hd : d < 256) (hp : p < 256) : mixTo f s d p 8 = (mixV f s d p : Int) := by
  obtain ⟨v, hv, hv2, hb⟩ := mixTo_bits f s d p hs hd hp 8 (by omega)
  rw [hv]
  congr 1
  refine eq_of_bits hv2 (mixV_lt _ _ _ _) fun j hj => ?_
  rw [hb j hj, if_pos hj, testBit_mixV _ _ _ _ _ hj]

/-- a number halved so often -/
def halve : Nat → Int → Int
  | 0, n => n
  | k + 1, n => halve k n / 2
theorem halve_nonneg (k : Nat) (n : Int) (h : 0 ≤ n) : 0 ≤ halve k n := by
  induction k with
  | zero => exact h
  | succ k ih => rw [halve]; omega
theorem halve_le (k : Nat) (n : Int) (h : 0 ≤ n) : halve k n ≤ n := by
  induction k with
  | zero => exact Int.le_refl _
  | succ k ih => have := halve_nonneg k n h; rw [halve]; omega
theorem halve_bit_fin : ∀ x : Fin 256, ∀ j : Fin 8, (halve j.val (x.val : Int) % 2 == 1) = x.val.testBit j.val := by decide +kernel
theorem halve_bit (x j : Nat) (hx : x < 256) (hj : j < 8) : (halve j (x : Int) % 2 == 1) = x.testBit j := halve_bit_fin ⟨x, hx⟩ ⟨j, hj⟩

/-- the reference's way -/
def refBitAt (f : Bool → Bool → Bool) (s d p : Int) (k : Nat) : Bool := if halve k p % 2 == 1 then f (halve k s % 2 == 1) (halve k d % 2 == 1) else halve k d % 2 == 1
def pow2 : Nat → Int
  | 0 => 1
  | k + 1 => 2 * pow2 k
theorem pow2_bd (k : Nat) (hk : k ≤ 8) : 1 ≤ pow2 k ∧ pow2 k ≤ 256 := by
  match k, hk with
  | 0, _ => decide
  | 1, _ => decide
  | 2, _ => decide
  | 3, _ => decide
  | 4, _ => decide
  | 5, _ => decide
  | 6, _ => decide
  | 7, _ => decide
  | 8, _ => decide
def refTo (f : Bool → Bool → Bool) (s d p : Int) : Nat → Int
  | 0 => 0
  | k + 1 => if refBitAt f s d p k then refTo f s d p k + pow2 k else refTo f s d p k
theorem refTo_bd (f : Bool → Bool → Bool) (s d p : Int) (k : Nat) (hk : k ≤ 8) : 0 ≤ refTo f s d p k ∧ refTo f s d p k < pow2 k := by
  induction k with
  | zero => simp [refTo, pow2]
  | succ k ih =>
    have h1 := ih (by omega)
    have h2 := pow2_bd k (by omega)
    rw [refTo, pow2]
    split <;> omega
theorem refTo_eq (f : Bool → Bool → Bool) (s d p : Nat) (hs : s < 256) (hd : d < 256) (hp : p < 256) : refTo f s d p 8 = (mixV f s d p : Int) := by
  have h : ∀ k, k < 8 → refBitAt f s d p k = mixB f s d p k := fun k hk => by
    rw [refBitAt, halve_bit s k hs hk, halve_bit d k hd hk, halve_bit p k hp hk, mixB]
  have hn : ∀ (k : Nat), k < 8 → refTo f s d p (k + 1) = refTo f s d p k + pow2 k * (mixB f s d p k).toNat := fun k hk => by
    rw [refTo, h k hk]
    cases mixB f s d p k <;> simp
  rw [hn 7 (by omega), hn 6 (by omega), hn 5 (by omega), hn 4 (by omega), hn 3 (by omega), hn 2 (by omega), hn 1 (by omega), hn 0 (by omega)]
  simp only [refTo, pow2, mixV, bsum]
  omega

theorem mixV_congr {f g : Bool → Bool → Bool} {s d p s' d' p' : Nat} (h : ∀ j, j < 8 → mixB f s d p j = mixB g s' d' p' j) : mixV f s d p = mixV g s' d' p' := bsum_congr h
end Go.Proofs.YtboepibmnfmgfaaDoor
