/-
  PLAIN LAW: the program's flat cells against the document's rows: pieces.
-/
import Derived.Test.YtiefpodmdpnppaaDoorLwS
namespace Go.Proofs.YtiefpodmdpnppaaDoor

theorem flat_len (w : Nat) : ∀ (rows : List (List UInt8)), (∀ r ∈ rows, r.length = w) → rows.flatten.length = rows.length * w
  | [], _ => by simp
  | r :: rs, h => by
    rw [List.flatten_cons, List.length_append, h r (List.mem_cons_self ..), flat_len w rs (fun q hq => h q (List.mem_cons_of_mem _ hq)), List.length_cons, Nat.succ_mul]; omega
theorem flat_split (rows : List (List UInt8)) (y : Nat) (hy : y < rows.length) : rows.flatten = (rows.take y).flatten ++ (rows[y] ++ (rows.drop (y + 1)).flatten) := by
  have e : rows = rows.take y ++ (rows[y] :: rows.drop (y + 1)) := by
    rw [← List.drop_eq_getElem_cons hy, List.take_append_drop]
  have : rows.flatten = (rows.take y ++ (rows[y] :: rows.drop (y + 1))).flatten := congrArg List.flatten e
  rw [this, List.flatten_append, List.flatten_cons]
theorem flat_set (rows : List (List UInt8)) (y : Nat) (r : List UInt8) (hy : y < rows.length) : (rows.set y r).flatten = (rows.take y).flatten ++ (r ++ (rows.drop (y + 1)).flatten) := by
  rw [List.set_eq_take_append_cons_drop, if_pos hy, List.flatten_append, List.flatten_cons]
theorem flat_take_len (w : Nat) (rows : List (List UInt8)) (h : ∀ r ∈ rows, r.length = w) (y : Nat) (hy : y ≤ rows.length) : (rows.take y).flatten.length = y * w := by
  rw [flat_len w _ (fun r hr => h r (List.mem_of_mem_take hr)), List.length_take, Nat.min_eq_left hy]
/-- a row -/
theorem flat_row (w : Nat) (rows : List (List UInt8)) (h : ∀ r ∈ rows, r.length = w) (y : Nat) (hy : y < rows.length) : (rows.flatten.drop (y * w)).take w = rows.getD y [] := by
  have hr : rows[y].length = w := h _ (List.getElem_mem hy)
  rw [flat_split rows y hy, List.drop_append_of_le_length (by rw [flat_take_len w rows h y (by omega)]; exact Nat.le_refl _), List.drop_of_length_le (by rw [flat_take_len w rows h y (by omega)]; exact Nat.le_refl _), List.nil_append,
    List.take_append_of_le_length (by omega), List.take_of_length_le (by omega), List.getD_eq_getElem?_getD, List.getElem?_eq_getElem hy]
  rfl
/-- cells of a row, laid -/
theorem flat_lay (w : Nat) (rows : List (List UInt8)) (h : ∀ r ∈ rows, r.length = w) (y f : Nat) (s : List UInt8) (hy : y < rows.length) (hf : f + s.length ≤ w) (j : Nat) :
    (rows.set y (spl (rows.getD y []) f s)).flatten[j]? = if y * w + f ≤ j ∧ j < y * w + f + s.length then s[j - (y * w + f)]? else rows.flatten[j]? := by
  have hr : rows[y].length = w := h _ (List.getElem_mem hy)
  have hg : rows.getD y [] = rows[y] := by rw [List.getD_eq_getElem?_getD, List.getElem?_eq_getElem hy]; rfl
  have hl := flat_take_len w rows h y (by omega)
  rw [flat_set _ _ _ hy, flat_split rows y hy, hg]
  unfold spl
  generalize (rows.take y).flatten = A at *
  generalize (rows.drop (y + 1)).flatten = C at *
  generalize rows[y] = r at *
  generalize y * w = p at *
  have e1 : (r.take f).length = f := by rw [List.length_take]; omega
  have e2 : (r.take f ++ (s ++ r.drop (f + s.length))).length = w := by rw [List.length_append, e1, List.length_append, List.length_drop]; omega
  obtain ⟨X, hX⟩ : ∃ X, X = r.take f ++ (s ++ r.drop (f + s.length)) := ⟨_, rfl⟩
  rw [← hX] at e2 ⊢
  by_cases h1 : j < p
  · rw [List.getElem?_append_left (l₁ := A) (l₂ := X ++ C) (by omega), List.getElem?_append_left (l₁ := A) (l₂ := r ++ C) (by omega), if_neg (by omega)]
  · rw [List.getElem?_append_right (l₁ := A) (l₂ := X ++ C) (by omega), List.getElem?_append_right (l₁ := A) (l₂ := r ++ C) (by omega), hl]
    obtain ⟨i, rfl⟩ : ∃ i, j = p + i := ⟨j - p, by omega⟩
    rw [show p + i - p = i from by omega]
    by_cases h4 : i < w
    · rw [List.getElem?_append_left (l₁ := X) (by omega), List.getElem?_append_left (l₁ := r) (by omega), hX]
      by_cases h2 : i < f
      · rw [List.getElem?_append_left (by omega), List.getElem?_take_of_lt h2, if_neg (by omega)]
      · rw [List.getElem?_append_right (by omega), e1]
        by_cases h3 : i < f + s.length
        · rw [List.getElem?_append_left (by omega), if_pos (by omega)]
          congr 1; omega
        · rw [List.getElem?_append_right (by omega), List.getElem?_drop, if_neg (by omega)]
          congr 1; omega
    · rw [List.getElem?_append_right (l₁ := X) (by omega), List.getElem?_append_right (l₁ := r) (by omega), e2, hr, if_neg (by omega)]
theorem lay_flat (M : Ref) (ok : M.Ok) (y f : Nat) (s : List UInt8) (hy : y < M.h) (hf : f + s.length ≤ M.w) (j : Nat) :
    (M.lay y f s).rows.flatten[j]? = if y * M.w + f ≤ j ∧ j < y * M.w + f + s.length then s[j - (y * M.w + f)]? else M.rows.flatten[j]? :=
  flat_lay M.w M.rows ok.rw y f s (by rw [ok.r]; exact hy) hf j
theorem rep_at (n i : Nat) (h : i < n) : (List.replicate n (32 : UInt8))[i]? = some 32 := by
  rw [List.getElem?_replicate, if_pos h]
/-- where blanks come to lie -/
def lo (M : Ref) (y way x : Nat) : Nat := if way = 0 then y * M.w + x else y * M.w
def hi (M : Ref) (y way x : Nat) : Nat := if way = 1 then y * M.w + x + 1 else y * M.w + M.w
theorem erase_flat (M : Ref) (ok : M.Ok) (y way x : Nat) (hy : y < M.h) (hx : way = 0 ∨ way = 1 → x < M.w) (j : Nat) :
    (M.erase y way x).rows.flatten[j]? = if lo M y way x ≤ j ∧ j < hi M y way x then some 32 else M.rows.flatten[j]? := by
  unfold Ref.erase lo hi
  generalize hp : y * M.w = p
  by_cases h0 : way = 0
  · have hx0 := hx (Or.inl h0)
    have h1 : ¬ way = 1 := by omega
    simp only [if_pos h0, if_neg h1]
    rw [lay_flat M ok _ _ _ hy (by rw [List.length_replicate]; omega), List.length_replicate, hp]
    by_cases hj : p + x ≤ j ∧ j < p + M.w
    · rw [if_pos hj, if_pos (by omega), rep_at _ _ (by omega)]
    · rw [if_neg hj, if_neg (by omega)]
  · by_cases h1 : way = 1
    · have hx1 := hx (Or.inr h1)
      simp only [if_neg h0, if_pos h1]
      rw [lay_flat M ok _ _ _ hy (by rw [List.length_replicate]; omega), List.length_replicate, hp]
      by_cases hj : p ≤ j ∧ j < p + x + 1
      · rw [if_pos hj, if_pos (by omega), rep_at _ _ (by omega)]
      · rw [if_neg hj, if_neg (by omega)]
    · simp only [if_neg h0, if_neg h1]
      rw [lay_flat M ok _ _ _ hy (by rw [List.length_replicate]; omega), List.length_replicate, hp]
      by_cases hj : p ≤ j ∧ j < p + M.w
      · rw [if_pos hj, if_pos (by omega), rep_at _ _ (by omega)]
      · rw [if_neg hj, if_neg (by omega)]
theorem div_in (w j k : Nat) (hw : 1 ≤ w) : (k * w ≤ j ∧ j < k * w + w) ↔ j / w = k := by
  constructor
  · rintro ⟨h1, h2⟩
    have := (dm_of w k (j - k * w) (by omega)).1
    rwa [show k * w + (j - k * w) = j from by omega] at this
  · rintro rfl
    have h1 := Nat.div_add_mod j w
    have h2 := Nat.mod_lt j (show 0 < w by omega)
    rw [Nat.mul_comm] at h1
    omega
theorem lo2 (M : Ref) (y x : Nat) : lo M y 2 x = y * M.w := rfl
theorem hi2 (M : Ref) (y x : Nat) : hi M y 2 x = y * M.w + M.w := rfl
theorem wipeTo_flat (M : Ref) (ok : M.Ok) (n : Nat) (j : Nat) : ∀ k, k ≤ M.h → (M.wipeTo n k).rows.flatten[j]? = if j / M.w < k ∧ wipes n (j / M.w) M.y = true then some 32 else M.rows.flatten[j]?
  | 0, _ => by rw [if_neg (fun h => absurd h.1 (Nat.not_lt_zero _))]; rfl
  | k + 1, hk => by
    have ih := wipeTo_flat M ok n j k (by omega)
    have hw := wipeTo_w M n k
    have hd := div_in M.w j k ok.w1
    unfold Ref.wipeTo
    by_cases hb : wipes n k M.y = true
    · rw [if_pos hb, erase_flat _ (ok.wipeTo n k (by omega)) k 2 0 (by rw [hw.2.1]; omega) (by omega), ih]
      rw [lo2, hi2, hw.1]
      by_cases hj : j / M.w = k
      · rw [if_pos (hd.2 hj), if_pos ⟨by omega, by rw [hj]; exact hb⟩]
      · rw [if_neg (fun h => hj (hd.1 h))]
        by_cases h2 : j / M.w < k ∧ wipes n (j / M.w) M.y = true
        · rw [if_pos h2, if_pos ⟨by omega, h2.2⟩]
        · rw [if_neg h2, if_neg (fun h => h2 ⟨by omega, h.2⟩)]
    · rw [if_neg hb, ih]
      by_cases h2 : j / M.w < k ∧ wipes n (j / M.w) M.y = true
      · rw [if_pos h2, if_pos ⟨by omega, h2.2⟩]
      · rw [if_neg h2, if_neg]
        rintro ⟨h3, h4⟩
        by_cases h5 : j / M.w = k
        · exact hb (h5 ▸ h4)
        · exact h2 ⟨by omega, h4⟩
theorem wipeAll_flat (M : Ref) (ok : M.Ok) (j : Nat) : ∀ k, k ≤ M.h → (M.wipeAll k).rows.flatten[j]? = if j / M.w < k then some 32 else M.rows.flatten[j]?
  | 0, _ => by rw [if_neg (fun h => absurd h (Nat.not_lt_zero _))]; rfl
  | k + 1, hk => by
    have ih := wipeAll_flat M ok j k (by omega)
    have hw := wipeAll_w M k
    have hd := div_in M.w j k ok.w1
    unfold Ref.wipeAll
    rw [erase_flat _ (ok.wipeAll k (by omega)) k 2 0 (by rw [hw.2.1]; omega) (by omega), ih]
    rw [lo2, hi2, hw.1]
    by_cases hj : j / M.w = k
    · rw [if_pos (hd.2 hj), if_pos (by omega)]
    · rw [if_neg (fun h => hj (hd.1 h))]
      by_cases h2 : j / M.w < k
      · rw [if_pos h2, if_pos (by omega)]
      · rw [if_neg h2, if_neg (by omega)]

/-- the program's screen and the document's -/
structure Sim (S : Scr) (M : Ref) : Prop where
  c : S.cols = M.w
  r : S.rows = M.h
  m : S.most = M.most
  x : S.x = M.x
  y : S.y = M.y
  k : S.kept = M.kept
  g : S.grid = M.rows.flatten
  st : S.st = M.begun
  n : M.begun = 2 → S.n0 = (numFold 0 M.args).1 ∧ S.n1 = (numFold 1 M.args).1 ∧ S.num = min (numFold 0 M.args).2 2 ∧ (numFold 0 M.args).2 = (numFold 1 M.args).2
theorem Sim.eqv {S : Scr} {M : Ref} (s : Sim S M) (ok : M.Ok) : Eqv S M := by
  refine ⟨s.c, s.r, s.x, s.y, s.k, fun i hi => ?_⟩
  unfold Scr.row
  rw [if_pos ⟨by omega, by rw [s.r]; omega⟩, s.g, s.c, Int.toNat_natCast]
  exact flat_row M.w M.rows ok.rw i (by rw [ok.r]; exact hi)
end Go.Proofs.YtiefpodmdpnppaaDoor
