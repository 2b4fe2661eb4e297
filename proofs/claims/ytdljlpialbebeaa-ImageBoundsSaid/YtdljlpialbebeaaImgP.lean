/-
  PLAIN LAWS of layer 25's short form: lists of bytes alone, no program in sight.
-/
import Derived.PlainAid
namespace Go.Proofs.Ytdljlpialbebeaa

/-- the same byte at the head, counted from k on, at most m -/
def runGo (m : Nat) (l : List UInt8) : Nat → Nat → Nat
  | 0, k => k
  | f + 1, k => if k < m ∧ k < l.length ∧ l.getD k 0 = l.getD 0 0 then runGo m l f (k + 1) else k
def runL (l : List UInt8) : Nat := runGo 130 l 130 1

theorem runGo_ge (m : Nat) (l : List UInt8) : ∀ f k, k ≤ runGo m l f k
  | 0, k => Nat.le_refl _
  | f + 1, k => by
    rw [runGo]
    split
    · have := runGo_ge m l f (k + 1); omega
    · exact Nat.le_refl _
theorem runGo_le (m : Nat) (l : List UInt8) : ∀ f k, k ≤ m → runGo m l f k ≤ m
  | 0, k, h => h
  | f + 1, k, h => by
    rw [runGo]
    split
    · rename_i hc; exact runGo_le m l f (k + 1) (by omega)
    · exact h
theorem runGo_len (m : Nat) (l : List UInt8) : ∀ f k, k ≤ l.length → runGo m l f k ≤ l.length
  | 0, k, h => h
  | f + 1, k, h => by
    rw [runGo]
    split
    · rename_i hc; exact runGo_len m l f (k + 1) (by omega)
    · exact h
theorem runGo_all (m : Nat) (l : List UInt8) : ∀ f k, (∀ j, j < k → l.getD j 0 = l.getD 0 0) → ∀ j, j < runGo m l f k → l.getD j 0 = l.getD 0 0
  | 0, k, h => h
  | f + 1, k, h => by
    rw [runGo]
    split
    · rename_i hc
      refine runGo_all m l f (k + 1) fun j hj => ?_
      by_cases e : j = k
      · rw [e]; exact hc.2.2
      · exact h j (by omega)
    · exact h
theorem runL_bd (l : List UInt8) : 1 ≤ runL l ∧ runL l ≤ 130 := ⟨runGo_ge _ _ _ _, runGo_le _ _ _ _ (by omega)⟩
theorem runL_len (l : List UInt8) (h : 1 ≤ l.length) : runL l ≤ l.length := runGo_len _ _ _ _ h
theorem runL_all (l : List UInt8) (j : Nat) (hj : j < runL l) : l.getD j 0 = l.getD 0 0 :=
  runGo_all 130 l 130 1 (fun j hj => by rw [show j = 0 by omega]) j hj
/-- the head, written out -/
theorem take_run (x : UInt8) (t : List UInt8) : (x :: t).take (runL (x :: t)) = List.replicate (runL (x :: t)) x := by
  have hl := runL_len (x :: t) (by simp)
  apply List.ext_getElem
  · rw [List.length_take, List.length_replicate, Nat.min_eq_left hl]
  · intro i h1 h2
    have hi : i < runL (x :: t) := by simpa using h2
    have h := runL_all (x :: t) i hi
    rw [List.getElem_take, List.getElem_replicate]
    have hlt : i < (x :: t).length := by omega
    simpa [List.getD, List.getElem?_eq_getElem hlt] using h

/-- more of the same, uncounted: what the reference counts -/
def alikeL (l : List UInt8) : Nat := runGo (l.length + 1) l (l.length + 1) 0
theorem runGo_stop {m : Nat} {l : List UInt8} : ∀ {f k}, m ≤ k + f → (∀ j, j < k → l.getD j 0 = l.getD 0 0) → runGo m l f k < m → ¬ (runGo m l f k < l.length ∧ l.getD (runGo m l f k) 0 = l.getD 0 0)
  | 0, k, hf, _, hlt => by simp only [runGo] at hlt; omega
  | f + 1, k, hf, hk, hlt => by
    rw [runGo] at hlt ⊢
    split
    · rename_i hc
      rw [if_pos hc] at hlt
      refine runGo_stop (by omega) (fun j hj => ?_) hlt
      by_cases e : j = k
      · rw [e]; exact hc.2.2
      · exact hk j (by omega)
    · rename_i hc
      rw [if_neg hc] at hlt
      intro h
      exact hc ⟨hlt, h.1, h.2⟩
theorem alikeL_stop (l : List UInt8) : ¬ (alikeL l < l.length ∧ l.getD (alikeL l) 0 = l.getD 0 0) :=
  runGo_stop (by omega) (fun j hj => absurd hj (by omega)) (by have := runGo_len (l.length + 1) l (l.length + 1) 0 (by omega); omega)
theorem alikeL_all (l : List UInt8) (j : Nat) (hj : j < alikeL l) : l.getD j 0 = l.getD 0 0 := runGo_all _ _ _ _ (fun j hj => absurd hj (by omega)) j hj
theorem alikeL_len (l : List UInt8) : alikeL l ≤ l.length := runGo_len _ _ _ _ (by omega)
theorem runL_eq (l : List UInt8) (h : 1 ≤ l.length) : runL l = min (alikeL l) 130 := by
  have h1 := runL_bd l
  have h2 := runL_len l h
  have h3 := alikeL_len l
  have h4 := alikeL_stop l
  rcases Nat.lt_trichotomy (runL l) (min (alikeL l) 130) with hlt | he | hgt
  · have hs : ¬ (runL l < l.length ∧ l.getD (runL l) 0 = l.getD 0 0) := runGo_stop (m := 130) (l := l) (f := 130) (k := 1) (by omega) (fun j hj => by rw [show j = 0 by omega]) (by show runL l < 130; omega)
    exact absurd ⟨by omega, alikeL_all l (runL l) (by omega)⟩ hs
  · exact he
  · exact absurd ⟨by omega, runL_all l (alikeL l) (by omega)⟩ h4

/-- how many stand plain -/
def plainGo (l : List UInt8) : Nat → Nat → Nat
  | 0, k => k
  | f + 1, k => if k < l.length ∧ k < 128 ∧ runL (l.drop k) < 3 then plainGo l f (k + 1) else k
def plainL (l : List UInt8) : Nat := plainGo l 128 1
theorem plainGo_ge (l : List UInt8) : ∀ f k, k ≤ plainGo l f k
  | 0, k => Nat.le_refl _
  | f + 1, k => by
    rw [plainGo]
    split
    · have := plainGo_ge l f (k + 1); omega
    · exact Nat.le_refl _
theorem plainGo_le (l : List UInt8) : ∀ f k, k ≤ 128 → k ≤ l.length → plainGo l f k ≤ 128 ∧ plainGo l f k ≤ l.length
  | 0, k, h, h' => ⟨h, h'⟩
  | f + 1, k, h, h' => by
    rw [plainGo]
    split
    · rename_i hc; exact plainGo_le l f (k + 1) (by omega) (by omega)
    · exact ⟨h, h'⟩
theorem plainL_bd (l : List UInt8) (h : 1 ≤ l.length) : 1 ≤ plainL l ∧ plainL l ≤ 128 ∧ plainL l ≤ l.length :=
  ⟨plainGo_ge _ _ _, plainGo_le _ _ _ (by omega) h⟩

/-- THE SHORT FORM -/
def shortF : Nat → List UInt8 → List UInt8
  | 0, _ => []
  | _ + 1, [] => []
  | f + 1, x :: t =>
    if 3 ≤ runL (x :: t) then UInt8.ofNat (125 + runL (x :: t)) :: x :: shortF f ((x :: t).drop (runL (x :: t)))
    else UInt8.ofNat (plainL (x :: t) - 1) :: ((x :: t).take (plainL (x :: t)) ++ shortF f ((x :: t).drop (plainL (x :: t))))
def short (l : List UInt8) : List UInt8 := shortF l.length l

theorem shortF_more : ∀ (f g : Nat) (l : List UInt8), l.length ≤ f → l.length ≤ g → shortF f l = shortF g l
  | 0, g, l, h, _ => by
    obtain rfl : l = [] := List.length_eq_zero_iff.1 (by omega)
    cases g <;> rfl
  | f + 1, 0, l, _, h => by
    obtain rfl : l = [] := List.length_eq_zero_iff.1 (by omega)
    rfl
  | f + 1, g + 1, [], _, _ => rfl
  | f + 1, g + 1, x :: t, h1, h2 => by
    have r1 := (runL_bd (x :: t)).1
    have p1 := (plainL_bd (x :: t) (by simp)).1
    simp only [List.length_cons] at h1 h2
    rw [shortF, shortF, shortF_more f g ((x :: t).drop (runL (x :: t))) (by simp; omega) (by simp; omega), shortF_more f g ((x :: t).drop (plainL (x :: t))) (by simp; omega) (by simp; omega)]
theorem short_nil : short [] = [] := rfl
theorem short_run (l : List UInt8) (h0 : 1 ≤ l.length) (h : 3 ≤ runL l) : short l = UInt8.ofNat (125 + runL l) :: l.getD 0 0 :: short (l.drop (runL l)) := by
  match l, h0 with
  | x :: t, _ =>
    have r1 := (runL_bd (x :: t)).1
    rw [short, List.length_cons, shortF, if_pos h, short, shortF_more t.length _ _ (by simp; omega) (Nat.le_refl _)]
    rfl
theorem short_plain (l : List UInt8) (h0 : 1 ≤ l.length) (h : ¬ 3 ≤ runL l) : short l = UInt8.ofNat (plainL l - 1) :: (l.take (plainL l) ++ short (l.drop (plainL l))) := by
  match l, h0 with
  | x :: t, _ =>
    have p1 := (plainL_bd (x :: t) (by simp)).1
    rw [short, List.length_cons, shortF, if_neg h, short, shortF_more t.length _ _ (by simp; omega) (Nat.le_refl _)]

theorem plainGo_stop (l : List UInt8) : ∀ f k, 128 ≤ k + f → plainGo l f k < 128 → plainGo l f k < l.length → 3 ≤ runL (l.drop (plainGo l f k))
  | 0, k, hf, h, _ => by simp only [plainGo] at h; omega
  | f + 1, k, hf, h, h' => by
    rw [plainGo] at h h' ⊢
    split
    · rename_i hc
      rw [if_pos hc] at h h'
      exact plainGo_stop l f (k + 1) (by omega) h h'
    · rename_i hc
      rw [if_neg hc] at h h'
      by_cases hr : 3 ≤ runL (l.drop k)
      · exact hr
      · exact absurd ⟨h', h, by omega⟩ hc
theorem plain_stop (l : List UInt8) (h : plainL l < 128) (h' : plainL l < l.length) : 3 ≤ runL (l.drop (plainL l)) := plainGo_stop l 128 1 (by omega) h h'

/-- HOW LONG: each 128 bytes cost one more at the most; a run at the head saves one -/
theorem short_len2 : ∀ (n : Nat) (l : List UInt8), l.length ≤ n →
    (short l).length ≤ l.length + (l.length + 127) / 128 ∧ (3 ≤ runL l → 1 ≤ l.length → (short l).length + 1 ≤ l.length + (l.length + 127) / 128)
  | 0, l, h => by
    obtain rfl : l = [] := List.length_eq_zero_iff.1 (by omega)
    simp [short_nil]
  | n + 1, l, h => by
    by_cases hl : 1 ≤ l.length
    · by_cases hr : 3 ≤ runL l
      · have r2 := runL_len l hl
        have ih := (short_len2 n (l.drop (runL l)) (by simp; omega)).1
        rw [short_run l hl hr]
        simp only [List.length_cons, List.length_drop] at ih ⊢
        omega
      · have p := plainL_bd l hl
        have ih := short_len2 n (l.drop (plainL l)) (by simp; omega)
        have hs := plain_stop l
        rw [short_plain l hl hr]
        simp only [List.length_cons, List.length_append, List.length_take, List.length_drop] at ih ⊢
        rw [Nat.min_eq_left p.2.2]
        refine ⟨?_, fun h => absurd h hr⟩
        by_cases h1 : plainL l = l.length
        · omega
        · by_cases h2 : plainL l = 128
          · omega
          · have := ih.2 (hs (by omega) (by omega)) (by omega)
            omega
    · obtain rfl : l = [] := List.length_eq_zero_iff.1 (by omega)
      simp [short_nil]
theorem short_len (l : List UInt8) : (short l).length ≤ l.length + (l.length + 127) / 128 := (short_len2 l.length l (Nat.le_refl _)).1

/- a run alone -/
theorem alike_same (n : Nat) (x : UInt8) : alikeL (List.replicate n x) = n := by
  have h1 := alikeL_len (List.replicate n x)
  have h2 := alikeL_stop (List.replicate n x)
  simp only [List.length_replicate] at h1 h2
  by_cases h : alikeL (List.replicate n x) < n
  · exfalso
    apply h2
    refine ⟨h, ?_⟩
    rw [List.getD_eq_getElem?_getD, List.getD_eq_getElem?_getD, List.getElem?_replicate, List.getElem?_replicate, if_pos h, if_pos (by omega)]
  · omega
theorem run_same (n : Nat) (x : UInt8) (h : 1 ≤ n) : runL (List.replicate n x) = min n 130 := by
  rw [runL_eq _ (by simpa using h), alike_same]
theorem short_same : ∀ (f n : Nat) (x : UInt8), n ≤ f → (short (List.replicate n x)).length ≤ 2 * (n / 130) + 3
  | 0, n, x, h => by obtain rfl : n = 0 := by omega
                     simp [short_nil]
  | f + 1, n, x, h => by
    by_cases h3 : 3 ≤ n
    · have hr := run_same n x (by omega)
      rw [short_run _ (by simp; omega) (by rw [hr]; omega), hr]
      have ih := short_same f (n - min n 130) x (by omega)
      simp only [List.length_cons, List.drop_replicate]
      by_cases h130 : n ≤ 130
      · rw [Nat.min_eq_left h130, Nat.sub_self]
        simp [short_nil]
      · rw [Nat.min_eq_right (by omega)] at ih ⊢
        omega
    · have := short_len (List.replicate n x)
      simp only [List.length_replicate] at this
      omega

/- WHAT PARTS SAY -/
def errShort : Nat := 3
def errLong : Nat := 4
def stepL (n : UInt8) (rest : List UInt8) : Option (List UInt8 × List UInt8) :=
  if n.toNat < 128 then (if rest.length < n.toNat + 1 then none else some (rest.take (n.toNat + 1), rest.drop (n.toNat + 1)))
  else if rest.length = 0 then none else some (List.replicate (n.toNat - 125) (rest.getD 0 0), rest.drop 1)
def longF : Nat → List UInt8 → List UInt8 → List UInt8 × Nat
  | 0, _, acc => (acc, 0)
  | _ + 1, [], acc => (acc, 0)
  | f + 1, n :: rest, acc => match stepL n rest with
    | none => ([], errShort)
    | some (part, more) => if 65536 < acc.length + part.length then ([], errLong) else longF f more (acc ++ part)
def long (s : List UInt8) : List UInt8 × Nat := if 131072 < s.length then ([], errLong) else longF s.length s []

theorem stepL_less {n : UInt8} {rest part more : List UInt8} (h : stepL n rest = some (part, more)) : more.length < rest.length + 1 ∧ part.length ≤ 130 := by
  unfold stepL at h
  have := n.toNat_lt
  split at h
  · split at h
    · cases h
    · simp only [Option.some.injEq, Prod.mk.injEq] at h
      obtain ⟨rfl, rfl⟩ := h
      rw [List.length_drop, List.length_take]; omega
  · split at h
    · cases h
    · simp only [Option.some.injEq, Prod.mk.injEq] at h
      obtain ⟨rfl, rfl⟩ := h
      rw [List.length_drop, List.length_replicate]; omega
theorem longF_more : ∀ (f g : Nat) (s acc : List UInt8), s.length ≤ f → s.length ≤ g → longF f s acc = longF g s acc
  | 0, g, s, acc, h, _ => by
    obtain rfl : s = [] := List.length_eq_zero_iff.1 (by omega)
    cases g <;> rfl
  | f + 1, 0, s, acc, _, h => by
    obtain rfl : s = [] := List.length_eq_zero_iff.1 (by omega)
    rfl
  | f + 1, g + 1, [], acc, _, _ => rfl
  | f + 1, g + 1, n :: rest, acc, h1, h2 => by
    simp only [List.length_cons] at h1 h2
    rw [longF, longF]
    split
    · rfl
    · rename_i part more he
      have := (stepL_less he).1
      rw [longF_more f g more (acc ++ part) (by omega) (by omega)]
/-- what is said by a rest, what came before being acc -/
def longR (s acc : List UInt8) : List UInt8 × Nat := longF s.length s acc
theorem longR_nil (acc : List UInt8) : longR [] acc = (acc, 0) := rfl
theorem longR_cons (n : UInt8) (rest acc : List UInt8) : longR (n :: rest) acc = match stepL n rest with
    | none => ([], errShort)
    | some (part, more) => if 65536 < acc.length + part.length then ([], errLong) else longR more (acc ++ part) := by
  unfold longR
  rw [List.length_cons, longF]
  split
  · rfl
  · rename_i part more he
    have := (stepL_less he).1
    rw [longF_more rest.length more.length more _ (by omega) (Nat.le_refl _)]
theorem long_eq (s : List UInt8) (h : s.length ≤ 131072) : long s = longR s [] := by rw [long, if_neg (by omega), longR]

/-- THE SHORT FORM SAYS THE BYTES, whatever comes behind it -/
theorem longR_short : ∀ (n : Nat) (l rest acc : List UInt8), l.length ≤ n → acc.length + l.length ≤ 65536 → longR (short l ++ rest) acc = longR rest (acc ++ l)
  | 0, l, rest, acc, h, _ => by
    obtain rfl : l = [] := List.length_eq_zero_iff.1 (by omega)
    simp [short_nil]
  | n + 1, l, rest, acc, h, hacc => by
    by_cases hl : 1 ≤ l.length
    · by_cases hr : 3 ≤ runL l
      · have r2 := runL_len l hl
        have r1 := runL_bd l
        rw [short_run l hl hr]
        have htn : (UInt8.ofNat (125 + runL l)).toNat = 125 + runL l := by rw [UInt8.toNat_ofNat']; omega
        have hst : stepL (UInt8.ofNat (125 + runL l)) (l.getD 0 0 :: (short (l.drop (runL l)) ++ rest)) = some (l.take (runL l), short (l.drop (runL l)) ++ rest) := by
          unfold stepL
          rw [htn, if_neg (by omega), if_neg (by simp)]
          match l, hl with
          | x :: t, _ => rw [take_run]; simp
        rw [List.cons_append, List.cons_append, longR_cons, hst]
        simp only [List.length_take, Nat.min_eq_left r2]
        rw [if_neg (by omega), longR_short n _ _ _ (by simp; omega) (by simp; omega), List.append_assoc, List.take_append_drop]
      · have p := plainL_bd l hl
        rw [short_plain l hl hr]
        have htn : (UInt8.ofNat (plainL l - 1)).toNat = plainL l - 1 := by rw [UInt8.toNat_ofNat']; omega
        have hst : stepL (UInt8.ofNat (plainL l - 1)) (l.take (plainL l) ++ (short (l.drop (plainL l)) ++ rest)) = some (l.take (plainL l), short (l.drop (plainL l)) ++ rest) := by
          unfold stepL
          have hlen : (l.take (plainL l)).length = plainL l := by rw [List.length_take]; omega
          rw [htn, if_pos (by omega), if_neg (by rw [List.length_append]; omega), Nat.sub_add_cancel p.1, List.take_append_of_le_length (by omega), List.drop_append_of_le_length (by omega), List.take_take, Nat.min_self, List.drop_take, Nat.sub_self, List.take_zero, List.nil_append]
        rw [List.cons_append, List.append_assoc, longR_cons, hst]
        simp only [List.length_take, Nat.min_eq_left p.2.2]
        rw [if_neg (by omega), longR_short n _ _ _ (by simp; omega) (by simp; omega), List.append_assoc, List.take_append_drop]
    · obtain rfl : l = [] := List.length_eq_zero_iff.1 (by omega)
      simp [short_nil]
theorem long_short (l : List UInt8) (h : l.length ≤ 65536) : long (short l) = (l, 0) := by
  have h1 := short_len l
  have h2 := longR_short l.length l [] [] (Nat.le_refl _) (by simpa using h)
  rw [long_eq _ (by omega)]
  simpa [longR_nil] using h2
theorem long_joins (a b : List UInt8) (h : a.length + b.length ≤ 65536) : long (short a ++ short b) = (a ++ b, 0) := by
  have h1 := short_len a
  have h1' := short_len b
  have h2 := longR_short a.length a (short b) [] (Nat.le_refl _) (by simp; omega)
  have h3 := longR_short b.length b [] a (Nat.le_refl _) (by omega)
  rw [long_eq _ (by simp; omega), h2]
  simpa [longR_nil] using h3
/-- one part more than there may be -/
theorem long_over (l : List UInt8) (n x : UInt8) (h : l.length = 65536) (hn : 128 ≤ n.toNat) (hs : (short l).length ≤ 131070) : long (short l ++ [n, x]) = ([], errLong) := by
  have h2 := longR_short l.length l [n, x] [] (Nat.le_refl _) (by simp; omega)
  rw [long_eq _ (by simp; omega), h2, longR_cons]
  have : stepL n [x] = some (List.replicate (n.toNat - 125) x, []) := by
    unfold stepL
    rw [if_neg (by omega), if_neg (by simp)]
    simp
  rw [this]
  simp only [List.nil_append, List.length_replicate]
  rw [if_pos (by omega)]
theorem long_bd (s : List UInt8) : (long s).1.length ≤ 65536 := by
  have key : ∀ (f : Nat) (s acc : List UInt8), acc.length ≤ 65536 → (longF f s acc).1.length ≤ 65536 := by
    intro f
    induction f with
    | zero => intro s acc h; exact h
    | succ f ih =>
      intro s acc h
      match s with
      | [] => exact h
      | n :: rest =>
        rw [longF]
        split
        · simp
        · split
          · simp
          · exact ih _ _ (by simp; omega)
  unfold long
  split
  · simp
  · exact key _ _ _ (by simp)
end Go.Proofs.Ytdljlpialbebeaa
