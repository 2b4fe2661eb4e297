/-
  The proof's lemmas, part 4.
-/
import Derived.Test.YtnngelggbljchaaIpcc
import Derived.ChangeSlices
import Derived.ProofKit
import Derived.OpenShut
import Derived.PlainAid
import Derived.Test.YtnngelggbljchaaBld
import Derived.WalkSpells
import Derived.WalkLawsBesides
import Derived.BigQuiet
import Derived.Deep.QuietTactic
import Derived.Lib.Hide
import Derived.Test.YtnngelggbljchaaShelfI
namespace Go.Proofs.Ytnngelggbljchaa
set_option linter.unusedSimpArgs false
set_option linter.unusedVariables false
section
theorem compGo_mem {x : Int} : ∀ {l : List Int} {p : Int}, x ∈ p :: compGo p l ↔ x ∈ p :: l
  | [], p => by simp [compGo]
  | y :: l, p => by
    unfold compGo
    split
    · rename_i h; subst h; rw [compGo_mem]; simp
    · have := compGo_mem (x := x) (l := l) (p := y)
      simp only [List.mem_cons] at this ⊢
      rw [this]
theorem comp_mem {x : Int} {l : List Int} : x ∈ comp l ↔ x ∈ l := by cases l with | nil => rfl | cons p l => exact compGo_mem
theorem compGo_lt : ∀ {l : List Int} {p : Int}, (p :: l).Pairwise (· ≤ ·) → (p :: compGo p l).Pairwise (· < ·)
  | [], p, _ => by simp [compGo]
  | y :: l, p, h => by
    rw [List.pairwise_cons] at h
    obtain ⟨h1, h2⟩ := h
    unfold compGo
    split
    · rename_i e; subst e; exact compGo_lt h2
    · rename_i e
      have k := compGo_lt h2
      refine List.pairwise_cons.2 ⟨fun z hz => ?_, k⟩
      have hy := h1 y List.mem_cons_self
      rcases List.mem_cons.1 hz with rfl | hz
      · omega
      · have := (List.pairwise_cons.1 k).1 z hz; omega
theorem comp_lt {l : List Int} (h : l.Pairwise (· ≤ ·)) : (comp l).Pairwise (· < ·) := by cases l with | nil => exact List.Pairwise.nil | cons p l => exact compGo_lt h
theorem sortI_le (l : List Int) : (sortI l).Pairwise (· ≤ ·) := by
  unfold sortI
  have := List.pairwise_mergeSort (le := fun x y : Int => decide (x ≤ y)) (fun a b c h1 h2 => by simp at *; omega) (fun a b => by simp; omega) l
  exact this.imp fun h => by simpa using h
theorem ysOf_mem {l : List Rect} {y : Int} : y ∈ ysOf l ↔ ∃ r ∈ l, y = r.Y ∨ y = r.Y + r.H := by
  unfold ysOf
  rw [comp_mem]; unfold sortI; rw [List.mem_mergeSort]
  simp [endsY]
theorem ysOf_lt (l : List Rect) {i j : Nat} (h : i < j) (hj : j < (ysOf l).length) : (ysOf l)[i]! < (ysOf l)[j]! := by
  have := comp_lt (sortI_le (endsY l))
  rw [List.pairwise_iff_getElem] at this
  have k := this i j (by unfold ysOf at hj; omega) hj h
  rw [getElem!_pos (ysOf l) i (by omega), getElem!_pos (ysOf l) j hj]; exact k
theorem ysOf_at {l : List Rect} {y : Int} (h : ∃ r ∈ l, y = r.Y ∨ y = r.Y + r.H) : ∃ j, j < (ysOf l).length ∧ (ysOf l)[j]! = y := by
  obtain ⟨j, hj⟩ := List.mem_iff_getElem?.1 (ysOf_mem.2 h)
  obtain ⟨h1, h2⟩ := List.getElem?_eq_some_iff.1 hj
  exact ⟨j, h1, by rw [getElem!_pos (ysOf l) j h1]; exact h2⟩
theorem ysOf_gap {l : List Rect} {y : Int} {i : Nat} (h : ∃ r ∈ l, y = r.Y ∨ y = r.Y + r.H) (hi : i + 1 < (ysOf l).length) : y ≤ (ysOf l)[i]! ∨ (ysOf l)[i + 1]! ≤ y := by
  obtain ⟨j, h1, h2⟩ := ysOf_at h
  by_cases hj : j ≤ i
  · refine .inl ?_
    rcases Nat.lt_or_ge j i with h | h
    · have := ysOf_lt l h (by omega); omega
    · have : j = i := by omega
      subst this; omega
  · refine .inr ?_
    rcases Nat.lt_or_ge (i + 1) j with h | h
    · have := ysOf_lt l h h1; omega
    · have : j = i + 1 := by omega
      subst this; omega
theorem ysOf_last {l : List Rect} {y : Int} {i : Nat} (h : ∃ r ∈ l, y = r.Y ∨ y = r.Y + r.H) (hi : ¬ i + 1 < (ysOf l).length) (hi' : i < (ysOf l).length) : y ≤ (ysOf l)[i]! := by
  obtain ⟨j, h1, h2⟩ := ysOf_at h
  rcases Nat.lt_or_ge j i with h | h
  · have := ysOf_lt l h hi'; omega
  · have : j = i := by omega
    subst this; omega
theorem ysOf_first {l : List Rect} {y : Int} (h : ∃ r ∈ l, y = r.Y ∨ y = r.Y + r.H) : (ysOf l)[0]! ≤ y := by
  obtain ⟨j, h1, h2⟩ := ysOf_at h
  rcases Nat.eq_zero_or_pos j with h | h
  · subst h; omega
  · have := ysOf_lt l h h1; omega
theorem spansOk_mem : ∀ {s : List Span} {lo : Int}, spansOk lo s → ∀ p ∈ s, lo < p.1 ∧ p.1 < p.2
  | [], _, _, p, h => by cases h
  | q :: s, lo, ⟨h1, h2, h3⟩, p, h => by
    rcases List.mem_cons.1 h with rfl | h
    · exact ⟨h1, h2⟩
    · have := spansOk_mem h3 p h; exact ⟨by omega, this.2⟩
def sortedY (l : List Rect) : Prop := ∀ i j, i < j → j < l.length → l[i]!.Y ≤ l[j]!.Y
theorem sortedY_of {l : List Rect} (h : ∀ i j, i < j → j < l.length → 0 ≤ cfYX l[j]! l[i]!) : sortedY l := fun i j hij hj => by
  have := h i j hij hj
  have k : ¬ (l[j]!.Y < l[i]!.Y ∨ l[j]!.Y = l[i]!.Y ∧ l[j]!.X < l[i]!.X) := fun hc => absurd ((cfYX_neg l[j]! l[i]!).2 hc) (by omega)
  by_cases hc : l[j]!.Y < l[i]!.Y
  · exact absurd (.inl hc) k
  · omega
theorem sortX_of : ∀ {l : List Rect}, (∀ i j, i < j → j < l.length → 0 ≤ cfX l[j]! l[i]!) → sortX l
  | [], _ => trivial
  | r :: l, h => by
    refine ⟨fun s hs => ?_, sortX_of fun i j hij hj => ?_⟩
    · obtain ⟨k, hk⟩ := List.mem_iff_getElem?.1 hs
      obtain ⟨k1, k2⟩ := List.getElem?_eq_some_iff.1 hk
      have := h 0 (k + 1) (by omega) (by simp; omega)
      have e : (r :: l)[k + 1]! = s := by rw [getElem!_pos (r :: l) (k + 1) (by simp; omega)]; simpa using k2
      rw [e] at this
      have e0 : (r :: l)[0]! = r := rfl
      rw [e0] at this
      unfold cfX at this
      have k : ¬ s.X < r.X := fun hc => absurd ((cmpI_neg s.X r.X).2 hc) (by omega)
      exact Int.not_lt.1 k
    · have := h (i + 1) (j + 1) (by omega) (by simp; omega)
      have e : ∀ k, k < l.length → (r :: l)[k + 1]! = l[k]! := fun k hk => by rw [getElem!_pos (r :: l) (k + 1) (by simp; omega), getElem!_pos l k hk]; rfl
      rw [e i (by omega), e j hj] at this; exact this
theorem sortX_filter {p : Rect → Bool} : ∀ {l : List Rect}, sortX l → sortX (l.filter p)
  | [], _ => trivial
  | r :: l, ⟨h1, h2⟩ => by
    rw [List.filter_cons]
    split
    · exact ⟨fun s hs => h1 s (List.mem_filter.1 hs).1, sortX_filter h2⟩
    · exact sortX_filter h2
def MidR (all : List Rect) (y : Int) (next : Nat) (row : List Rect) : Prop :=
  next ≤ all.length ∧ row.length ≤ next ∧ (∀ r ∈ row, r ∈ all ∧ r.Y ≤ y ∧ y < r.Y + r.H) ∧ (∀ r ∈ all.take next, y < r.Y + r.H → r ∈ row) ∧ (∀ r ∈ all.drop next, y ≤ r.Y)
def OfR (all : List Rect) (i : Nat) (out : List Rect) (above next : Nat) (row : List Rect) : Prop :=
  (i < (ysOf all).length ∨ (i = 0 ∧ all = [])) ∧ out.length ≤ i * all.length ∧ next ≤ all.length ∧ row.length ≤ next ∧ AtRow all (ysOf all)[i]! out above ∧ above ≤ out.length ∧
    (∀ r ∈ out, rok r ∧ r.Y + r.H ≤ (ysOf all)[i]!) ∧ (∀ r ∈ row, r ∈ all ∧ r.Y ≤ (ysOf all)[i]!) ∧ (∀ r ∈ all.take next, (ysOf all)[i]! < r.Y + r.H → r ∈ row) ∧ (∀ r ∈ all.drop next, (ysOf all)[i]! ≤ r.Y) ∧ sortX row
theorem OfR.start (all : List Rect) : OfR all 0 [] 0 0 [] := by
  refine ⟨?_, by simp, by simp, by simp, AtRow.start all _ fun r hr => ysOf_first ⟨r, hr, .inl rfl⟩, by simp, by simp, by simp, by simp, fun r hr => ysOf_first ⟨r, by simpa using hr, .inl rfl⟩, trivial⟩
  cases all with
  | nil => exact .inr ⟨rfl, rfl⟩
  | cons r l => obtain ⟨j, hj, _⟩ := ysOf_at (l := r :: l) (y := r.Y) ⟨r, List.mem_cons_self, .inl rfl⟩; exact .inl (by omega)
theorem OfR.mid {all : List Rect} {i : Nat} {out : List Rect} {above next : Nat} {row : List Rect} (h : OfR all i out above next row) : MidR all (ysOf all)[i]! next (row.filter fun r => !gone (ysOf all)[i]! r) := by
  obtain ⟨h0, h1, h2, h3, h4, h5, h6, h7, h8, h9, h10⟩ := h
  refine ⟨h2, Nat.le_trans (List.length_filter_le _ _) h3, fun r hr => ?_, fun r hr hy => ?_, h9⟩
  · obtain ⟨k1, k2⟩ := List.mem_filter.1 hr
    have k2 : (ysOf all)[i]! < r.Y + r.H := by
      unfold gone at k2
      rw [Bool.not_eq_true', decide_eq_false_iff_not] at k2
      omega
    exact ⟨(h7 r k1).1, (h7 r k1).2, k2⟩
  · exact List.mem_filter.2 ⟨h8 r hr hy, by unfold gone; rw [Bool.not_eq_true', decide_eq_false_iff_not]; omega⟩
theorem MidR.step {all : List Rect} {y : Int} {next : Nat} {row : List Rect} (h : MidR all y next row) (hr : ∀ r ∈ all, rok r) (hn : next < all.length) (hy : all[next]!.Y = y) : MidR all y (next + 1) (row ++ [all[next]!]) := by
  obtain ⟨h1, h2, h3, h4, h5⟩ := h
  have hm : all[next]! ∈ all := List.mem_iff_getElem?.2 ⟨next, getE hn⟩
  have hk := hr _ hm
  unfold rok at hk
  refine ⟨by omega, by simp; omega, fun r hq => ?_, fun r hq hz => ?_, fun r hq => ?_⟩
  · rcases List.mem_append.1 hq with hq | hq
    · exact h3 r hq
    · rw [List.mem_singleton] at hq; subst hq; exact ⟨hm, by omega, by omega⟩
  · rw [take_snoc hn] at hq
    rcases List.mem_append.1 hq with hq | hq
    · exact List.mem_append.2 (.inl (h4 r hq hz))
    · exact List.mem_append.2 (.inr hq)
  · refine h5 r ?_
    rw [List.drop_eq_getElem_cons hn]; exact List.mem_cons_of_mem _ hq
theorem MidR.perm {all : List Rect} {y : Int} {next : Nat} {row row' : List Rect} (h : MidR all y next row) (hp : row'.Perm row) : MidR all y next row' := by
  obtain ⟨h1, h2, h3, h4, h5⟩ := h
  exact ⟨h1, by rw [hp.length_eq]; exact h2, fun r hr => h3 r (hp.mem_iff.1 hr), fun r hr hy => hp.mem_iff.2 (h4 r hr hy), h5⟩
theorem MidR.stop {all : List Rect} {y : Int} {next : Nat} {row : List Rect} (h : MidR all y next row) (hs : sortedY all) (hn : next < all.length → all[next]!.Y ≠ y) : ∀ r ∈ all.drop next, y < r.Y := by
  obtain ⟨h1, h2, h3, h4, h5⟩ := h
  intro r hr
  by_cases hl : next < all.length
  · have hm : all[next]! ∈ all.drop next := by rw [List.drop_eq_getElem_cons hl, getElem!_pos all next hl]; exact List.mem_cons_self
    have a1 := h5 _ hm
    have a2 := hn hl
    obtain ⟨k, hk⟩ := List.mem_iff_getElem?.1 hr
    rw [List.getElem?_drop] at hk
    obtain ⟨k1, k2⟩ := List.getElem?_eq_some_iff.1 hk
    have e : all[next + k]! = r := by rw [getElem!_pos all (next + k) k1]; exact k2
    rcases Nat.eq_zero_or_pos k with h0 | h0
    · subst h0; rw [Nat.add_zero] at e; rw [← e]; omega
    · have := hs next (next + k) (by omega) k1
      rw [e] at this; omega
  · rw [List.drop_of_length_le (by omega)] at hr; cases hr
theorem AtRow.last {all : List Rect} {y : Int} {out : List Rect} {above : Nat} (h : AtRow all y out above) : ∀ r ∈ out.drop above, r.Y + r.H = y := by
  obtain ⟨bs, h1, h2, h3, h4, h5⟩ := h
  intro r hr
  rcases h5 with ⟨b0, b, rfl, hbe, rfl⟩ | ⟨ha, hlt⟩
  · rw [rectsOf_append, rectsOf_one] at h2
    have hd : out.drop (rectsOf b0).length = b.rects := by rw [h2]; simp
    rw [hd] at hr
    unfold Band.rects at hr
    obtain ⟨p, _, rfl⟩ := List.mem_map.1 hr
    show b.y + (b.e - b.y) = y
    omega
  · rw [ha, List.drop_length] at hr; cases hr
theorem alikeL_iff {a b : List Rect} {y : Int} (ha : ∀ r ∈ a, r.Y + r.H = y) (hb : ∀ r ∈ b, r.Y = y) : alikeL a b = true ↔ (a ≠ [] ∧ a.map (fun r => (r.X, r.W)) = b.map (fun r => (r.X, r.W))) := by
  unfold alikeL
  rw [decide_eq_true_eq]
  have hal : ∀ i, i < a.length → a.length = b.length → (alikeR a[i]! b[i]! = true ↔ (a.map (fun r => (r.X, r.W)))[i]? = (b.map (fun r => (r.X, r.W)))[i]?) := fun i hi he => by
    have e1 := ha a[i]! (List.mem_iff_getElem?.2 ⟨i, getE hi⟩)
    have e2 := hb b[i]! (List.mem_iff_getElem?.2 ⟨i, getE (by omega)⟩)
    rw [List.getElem?_map, List.getElem?_map, getE hi, getE (show i < b.length by omega)]
    unfold alikeR
    rw [decide_eq_true_eq]
    simp only [Option.map_some, Option.some.injEq, Prod.mk.injEq]
    constructor
    · rintro ⟨h1, h2, _⟩; exact ⟨h1, h2⟩
    · rintro ⟨h1, h2⟩; exact ⟨h1, h2, by omega⟩
  constructor
  · rintro ⟨h1, h2, h3⟩
    refine ⟨by intro h; subst h; simp at h1, List.ext_getElem? fun i => ?_⟩
    by_cases hi : i < a.length
    · exact (hal i hi h2).1 (h3 i hi)
    · rw [List.getElem?_eq_none (by simp; omega), List.getElem?_eq_none (by simp; omega)]
  · rintro ⟨h1, h2⟩
    have hl : a.length = b.length := by simpa using congrArg List.length h2
    refine ⟨List.length_pos_iff.2 h1, hl, fun i hi => (hal i hi hl).2 (by rw [h2])⟩
def newR (y e : Int) (row : List Rect) : List Rect := Band.rects ⟨y, e, spansF row⟩
theorem newR_len (y e : Int) (row : List Rect) : (newR y e row).length = (spansF row).length := by unfold newR Band.rects; rw [List.length_map]
theorem OfR.next {all : List Rect} {i : Nat} {out : List Rect} {above next next' : Nat} {row row' : List Rect} (h : OfR all i out above next row) (hi : i + 1 < (ysOf all).length) (hr : ∀ r ∈ all, rok r)
    (hm : MidR all (ysOf all)[i]! next' row') (hd : ∀ r ∈ all.drop next', (ysOf all)[i]! < r.Y) (hs : sortX row') :
    (alikeL (out.drop above) (newR (ysOf all)[i]! (ysOf all)[i + 1]! row') = true → OfR all (i + 1) (out.take above ++ (out.drop above).map (fun r => { r with H := r.H + ((ysOf all)[i + 1]! - (ysOf all)[i]!) })) above next' row') ∧
    (alikeL (out.drop above) (newR (ysOf all)[i]! (ysOf all)[i + 1]! row') = false → OfR all (i + 1) (out ++ newR (ysOf all)[i]! (ysOf all)[i + 1]! row') out.length next' row') := by
  obtain ⟨h0, h1, h2, h3, h4, h5, h6, h7, h8, h9, h10⟩ := h
  obtain ⟨m1, m2, m3, m4, m5⟩ := hm
  have hye := ysOf_lt all (i := i) (j := i + 1) (by omega) hi
  have hrow : ∀ r ∈ row', rok r := fun r hq => hr r (m3 r hq).1
  obtain ⟨s1, s2⟩ := spansF_ok (l := row') (lo := -1048577) (fun r hq => by have := hrow r hq; unfold rok at this; omega) hs
  have hin : ∀ x z, (ysOf all)[i]! ≤ z → z < (ysOf all)[i + 1]! → (inL all x z ↔ inS (spansF row') x) := fun x z hz1 hz2 => by
    rw [s2]
    constructor
    · rintro ⟨r, k1, k2⟩
      unfold Rect.has at k2
      have g1 := ysOf_gap (l := all) (y := r.Y) (i := i) ⟨r, k1, .inl rfl⟩ hi
      refine ⟨r, ?_, k2.1, k2.2.1⟩
      rcases List.mem_append.1 (by rw [List.take_append_drop]; exact k1 : r ∈ all.take next' ++ all.drop next') with k | k
      · exact m4 r k (by omega)
      · have := hd r k; omega
    · rintro ⟨r, k1, k2, k3⟩
      obtain ⟨q1, q2, q3⟩ := m3 r k1
      have g2 := ysOf_gap (l := all) (y := r.Y + r.H) (i := i) ⟨r, q1, .inr rfl⟩ hi
      exact ⟨r, q1, k2, k3, by omega, by omega⟩
  have hnx := AtRow.next h4 hye s1 hin
  have hal := alikeL_iff (a := out.drop above) (b := newR (ysOf all)[i]! (ysOf all)[i + 1]! row') (y := (ysOf all)[i]!) (AtRow.last h4) (fun r hq => by
    unfold newR Band.rects at hq
    obtain ⟨p, _, rfl⟩ := List.mem_map.1 hq; rfl)
  have r8 : ∀ r ∈ row', r ∈ all ∧ r.Y ≤ (ysOf all)[i + 1]! := fun r hq => ⟨(m3 r hq).1, by have := (m3 r hq).2.1; omega⟩
  have r9 : ∀ r ∈ all.take next', (ysOf all)[i + 1]! < r.Y + r.H → r ∈ row' := fun r hq hz => m4 r hq (by omega)
  have r10 : ∀ r ∈ all.drop next', (ysOf all)[i + 1]! ≤ r.Y := fun r hq => by
    have a1 := hd r hq
    have := ysOf_gap (l := all) (y := r.Y) (i := i) ⟨r, List.mem_of_mem_drop hq, .inl rfl⟩ hi
    omega
  have hbnd : ∀ j, j < (ysOf all).length → -1048576 ≤ (ysOf all)[j]! ∧ (ysOf all)[j]! ≤ 1048576 := fun j hj => by
    obtain ⟨r, q1, q2⟩ := ysOf_mem.1 (List.mem_iff_getElem?.2 ⟨j, getE hj⟩)
    have := hr r q1; unfold rok at this
    omega
  have hbi := hbnd i (by omega)
  have hbe := hbnd (i + 1) hi
  refine ⟨fun hq => ⟨.inl hi, ?_, m1, m2, hnx.1 (hal.1 hq), ?_, ?_, r8, r9, r10, hs⟩, fun hq => ⟨.inl hi, ?_, m1, m2, hnx.2 (fun hc => by rw [hal.2 hc] at hq; cases hq), by simp, ?_, r8, r9, r10, hs⟩⟩
  · simp only [List.length_append, List.length_map, List.length_take, List.length_drop]
    rw [Nat.add_mul]; omega
  · simp only [List.length_append, List.length_map, List.length_take, List.length_drop]; omega
  · intro r hz
    rcases List.mem_append.1 hz with hz | hz
    · have := h6 r (List.mem_of_mem_take hz); exact ⟨this.1, by omega⟩
    · obtain ⟨q, q1, rfl⟩ := List.mem_map.1 hz
      have a1 := AtRow.last h4 q q1
      have a2 := (h6 q (List.mem_of_mem_drop q1)).1
      unfold rok at a2 ⊢
      dsimp only
      omega
  · rw [List.length_append, newR_len, Nat.add_mul]
    have := spansF_length row'
    omega
  · intro r hz
    rcases List.mem_append.1 hz with hz | hz
    · have := h6 r hz; exact ⟨this.1, by omega⟩
    · unfold newR Band.rects at hz
      obtain ⟨p, hp, rfl⟩ := List.mem_map.1 hz
      have hb : -1048577 < p.1 ∧ p.1 < p.2 ∧ p.2 ≤ 1048576 := by
        obtain ⟨b1, b2⟩ := spansOk_mem s1 p hp
        have b3 : inS (spansF row') (p.2 - 1) := ⟨p, hp, by omega, by omega⟩
        obtain ⟨r, c1, c2, c3⟩ := (s2 _).1 b3
        have := hrow r c1; unfold rok at this
        exact ⟨b1, b2, by omega⟩
      unfold rok
      dsimp only
      omega
theorem OfR.done {all : List Rect} {i : Nat} {out : List Rect} {above next : Nat} {row : List Rect} (h : OfR all i out above next row) (hi : ¬ i + 1 < (ysOf all).length) : Canon out ∧ ∀ x z, inL out x z ↔ inL all x z := by
  obtain ⟨h0, h1, h2, h3, h4, h5⟩ := h
  refine AtRow.done h4 fun r hr => ?_
  rcases h0 with h0 | ⟨_, h0⟩
  · exact ysOf_last ⟨r, hr, .inr rfl⟩ hi h0
  · subst h0; cases hr
end
section
open Go.RowKit Go.Sort
set_option maxRecDepth 10000
def pcT (b o p r n z : Nat) : T := if p = 0 ∨ p < n then .slc b (o + p * z) (r - p) z none else .islc [] 0 none
section
variable {q : Bool} {P : Program} {tab : Tab} {im : List Nat} {ds : List (Option Nat)} {l : List Oper} {E : Env} {H : Hp} {K : Env → Hp → Prop} {d : Nat} {ty : TypeId} {pos : String} {after : Array Edge}
theorem VX.slcP [Dr] {t e b o n z p r : Nat} {x : Operand} {lo hi : Option Operand} {L Hh : Option Int} {i j : TyI} (hT : tab t = some i) (hk : i.k = .sl e) (hj : tab e = some j) (hx : E.opd x = some (.slc b o n z none)) (hz : j.sz = z) (hl : optI lo E.opd = some L) (hh : optI hi E.opd = some Hh)
    (hp : L.getD 0 = (p : Int)) (hr : Hh.getD n = (r : Int)) (h1 : p ≤ r) (h2 : r ≤ n) (k : VX q P tab im ds l ((d, pcT b o p r n z) :: E) H K) : VX q P tab im ds (⟨some d, .slice t x lo hi none, ty, pos, after, none⟩ :: l) E H K := by
  refine VX.meek (t := pcT b o p r n z) ?_ k
  simp only [opM, hx, hl, hh, mSlice, hT, hk, hj, show optI none E.opd = some none from rfl]
  rw [if_pos hz, hp, hr, if_pos ⟨by omega, by omega, by omega⟩]
  unfold pcT
  by_cases h : p = 0 ∨ p < n
  · rw [if_pos h, if_pos (by omega), Int.toNat_natCast, show ((r : Int) - (p : Int)).toNat = r - p from by omega]; rfl
  · rw [if_neg h, if_neg (by omega)]
theorem VX.slcM [Dr] {t e b o n z r m : Nat} {x : Operand} {hi mx : Option Operand} {Hh Mm : Option Int} {i j : TyI} {c : Option Nat} (hT : tab t = some i) (hk : i.k = .sl e) (hj : tab e = some j) (hx : E.opd x = some (.slc b o n z c)) (hz : j.sz = z) (hh : optI hi E.opd = some Hh) (hm : optI mx E.opd = some Mm)
    (hr : Hh = some (r : Int)) (hq : Mm = some (m : Int)) (h1 : r ≤ m) (h2 : m ≤ n) (k : VX q P tab im ds l ((d, .slc b o r z (some m)) :: E) H K) : VX q P tab im ds (⟨some d, .slice t x none hi mx, ty, pos, after, none⟩ :: l) E H K := by
  subst hr hq
  refine VX.meek (t := .slc b o r z (some m)) ?_ k
  simp only [opM, hx, hh, hm, mSlice, hT, hk, hj, show optI none E.opd = some none from rfl]
  rw [if_pos hz]
  simp only [Option.getD_some, Option.getD_none]
  rw [if_pos ⟨by simp, by omega, by omega, by omega, by omega, .inl (by simp)⟩]
  simp
end
theorem Cv.pcT {v : Vw} {b p r n m : Nat} {xs a ys cs : List T} {z : Nat} (h : v.F b cs) (hc : cs = xs ++ a ++ ys) (hx : xs.length = p * z) (ha : a.length = m * z) (hm : m = r - p) (h1 : p ≤ r) (h2 : r ≤ n) (hp : T.pureL a = true) : Cv v (pcT b 0 p r n z) (.islc a m none) := by
  subst hm hc
  unfold Go.Proofs.Ytnngelggbljchaa.pcT
  split
  · refine .fslc h (fun i t hi => ?_) (CvL.pure hp) (.inr rfl)
    have hl := (List.getElem?_eq_some_iff.1 hi).1
    rw [List.append_assoc, List.getElem?_append_right (by omega), List.getElem?_append_left (by omega), ← hi]
    congr 1; omega
  · rename_i hc
    obtain rfl : r = p := by omega
    rw [Nat.sub_self, Nat.zero_mul] at ha
    obtain rfl := List.length_eq_zero_iff.1 ha
    rw [Nat.sub_self]
    exact .pure rfl
theorem inj4 {bo : Nat} (h : bo = 2 ∨ 4 < bo) : injB [some 0, some 1, some bo, some 3] = true := by
  rcases h with rfl | h
  · rfl
  · obtain ⟨q, rfl⟩ : ∃ q, bo = q + 5 := ⟨bo - 5, by omega⟩
    rfl
def OP.any : OP := ⟨fun _ _ => True, fun _ _ => trivial, false, fun h => by cases h⟩
theorem clip_t [Dr] (n : Nat) (cs : List T) : CallT Try.prog 50 [.slc 0 0 n 4 none] [.c cs] (fun t H' => t = .slc 0 0 n 4 (some n) ∧ H' = [.c cs]) := by
  refine CallT.intro tab_ok Try.func50 rfl (by kernel_rfl) (Nat.le_of_ble_eq_true rfl) ?_
  refine VC.reg tab_ok [] rfl ?_
  refine VX.meek rfl ?_
  refine VX.nil ?_
  refine VC.reg tab_ok [] rfl ?_
  iterate 5 refine VX.meek rfl ?_
  refine VX.slcM rfl rfl rfl rfl rfl rfl rfl rfl rfl (Nat.le_refl _) (Nat.le_refl _) ?_
  refine VX.meek rfl ?_
  refine VX.nil ?_
  refine VC.ret ?_
  exact ⟨trivial, _, rfl, rfl, rfl⟩
def OfJ (rec_ : OP) (out new row : List Rect) (tlr : List T) (k : Nat) (H : Hp) : Prop :=
  ∃ bo tl, T.pureL tl = true ∧ (bo = 2 ∨ 4 < bo) ∧ 5 ≤ H.length ∧ bo < H.length ∧ blkH H 0 = .c [NIL] ∧ blkH H 1 = .c [.slc bo 0 (out.length + k) 4 none] ∧ blkH H bo = .c (encL cR (out ++ new.take k) ++ tl) ∧ blkH H 3 = .c (encL cR row ++ tlr) ∧ blkH H 4 = .o rec_
theorem OfJ.look {rec_ : OP} {out new row : List Rect} {tlr : List T} {k : Nat} {H : Hp} (h : OfJ rec_ out new row tlr k H) : lookH H 3 = some (encL cR row ++ tlr) := by
  obtain ⟨bo, tl, h1, h2, h3, h4, h5, h6, h7, h8, h9⟩ := h; exact lookH_c.2 h8
theorem OfJ.push {rec_ : OP} {out new row : List Rect} {tlr : List T} {k : Nat} {H : Hp} (cs : List T) (h : OfJ rec_ out new row tlr k H) : OfJ rec_ out new row tlr k (H ++ [.c cs]) := by
  obtain ⟨bo, tl, h1, h2, h3, h4, h5, h6, h7, h8, h9⟩ := h
  refine ⟨bo, tl, h1, h2, by simp; omega, by simp; omega, ?_, ?_, ?_, ?_, ?_⟩ <;> rw [blkH_push, if_neg (by omega)] <;> assumption
theorem OfJ.next {rec0 rec1 : OP} {out new row : List Rect} {tlr tl cells : List T} {x : Blk} {k bo : Nat} {H : Hp} (ht : T.pureL tl = true) (hb : bo = 2 ∨ 4 < bo) (hl : 6 ≤ H.length) (hbl : bo < H.length) (h0 : blkH H 0 = .c [NIL]) (h3 : blkH H 3 = .c (encL cR row ++ tlr)) (h4 : blkH H 4 = .o rec1)
    (hc : cells = encL cR (out ++ new.take (k + 1)) ++ tl) (hx : x = .c [.slc H.length 0 (out.length + (k + 1)) 4 none]) :
    blkH (setH (setH H bo .d ++ [.c cells]) 1 x) 4 = .o rec1 ∧ OfJ rec0 out new row tlr (k + 1) (setH (setH (setH H bo .d ++ [.c cells]) 1 x) 4 (.o rec0)) := by
  have l1 : (setH H bo .d).length = H.length := setH_length _ _ _
  have l2 : (setH H bo .d ++ [Blk.c cells]).length = H.length + 1 := by rw [List.length_append, l1]; rfl
  have l3 : (setH (setH H bo .d ++ [Blk.c cells]) 1 x).length = H.length + 1 := by rw [setH_length, l2]
  have e : ∀ c, blkH (setH (setH H bo .d ++ [Blk.c cells]) 1 x) c = if c = 1 then x else if c = H.length then Blk.c cells else if c = bo then .d else blkH H c := fun c => by
    rw [blkH_set _ _ _ _ (by omega), blkH_push, l1, blkH_set _ _ _ _ hbl]
  have e2 : ∀ c, blkH (setH (setH (setH H bo .d ++ [Blk.c cells]) 1 x) 4 (.o rec0)) c = if c = 4 then .o rec0 else if c = 1 then x else if c = H.length then .c cells else if c = bo then .d else blkH H c := fun c => by
    rw [blkH_set _ _ _ _ (by omega), e]
  refine ⟨by rw [e, if_neg (by omega), if_neg (by omega), if_neg (by omega)]; exact h4, H.length, tl, ht, .inr (by omega), by rw [setH_length]; omega, by rw [setH_length]; omega, ?_, ?_, ?_, ?_, ?_⟩
  · rw [e2, if_neg (by omega), if_neg (by omega), if_neg (by omega), if_neg (by omega)]; exact h0
  · rw [e2, if_neg (by omega), if_pos rfl]; exact hx
  · rw [e2, if_neg (by omega), if_neg (by omega), if_pos rfl, hc]
  · rw [e2, if_neg (by omega), if_neg (by omega), if_neg (by omega), if_neg (by omega)]; exact h3
  · rw [e2, if_pos rfl]
end
section
theorem comp_le (l : List Int) : (comp l).length ≤ l.length := by
  have h : ∀ (l : List Int) (p : Int), (compGo p l).length ≤ l.length := by
    intro l
    induction l with
    | nil => intro p; simp [compGo]
    | cons x l ih => intro p; unfold compGo; split; · have := ih p; simp; omega
                     · have := ih x; simp; omega
  cases l with
  | nil => simp [comp]
  | cons x l => have := h l x; simp [comp]; omega
theorem ysOf_len (l : List Rect) : (ysOf l).length ≤ 2 * l.length := by
  have h := comp_le (sortI (endsY l)); rw [sortI_len, endsY_len] at h; exact h
theorem ysOf_bnd {all : List Rect} (hr : ∀ r ∈ all, rok r) {j : Nat} (hj : j < (ysOf all).length) : -1048576 ≤ (ysOf all)[j]! ∧ (ysOf all)[j]! ≤ 1048576 := by
  obtain ⟨r, q1, q2⟩ := ysOf_mem.1 (List.mem_iff_getElem?.2 ⟨j, getE hj⟩)
  have := hr r q1; unfold rok at this
  omega
theorem span_bnd {row : List Rect} (hr : ∀ r ∈ row, rok r) (hs : sortX row) : ∀ p ∈ spansF row, -1048576 ≤ p.1 ∧ p.1 < p.2 ∧ p.2 ≤ 1048576 := fun p hp => by
  obtain ⟨s1, s2⟩ := spansF_ok (l := row) (lo := -1048577) (fun r hq => by have := hr r hq; unfold rok at this; omega) hs
  obtain ⟨b1, b2⟩ := spansOk_mem s1 p hp
  have b3 : inS (spansF row) (p.2 - 1) := ⟨p, hp, by omega, by omega⟩
  obtain ⟨r, c1, c2, c3⟩ := (s2 _).1 b3
  have := hr r c1; unfold rok at this
  omega
theorem newR_at {y e : Int} {row : List Rect} {k : Nat} {s : Span} (h : (spansF row)[k]? = some s) : (newR y e row).take (k + 1) = (newR y e row).take k ++ [⟨s.1, y, s.2 - s.1, e - y⟩] ∧ k < (newR y e row).length := by
  have h1 : (newR y e row)[k]? = some ⟨s.1, y, s.2 - s.1, e - y⟩ := by unfold newR Band.rects; rw [List.getElem?_map, h]; rfl
  exact ⟨by rw [List.take_add_one, h1]; rfl, (List.getElem?_eq_some_iff.1 h1).1⟩
theorem MidR.go {all : List Rect} {y : Int} (hr : ∀ r ∈ all, rok r) : ∀ (k next : Nat) (row : List Rect), all.length - next ≤ k → MidR all y next row → ∃ next' row', MidR all y next' row' ∧ (next' < all.length → all[next']!.Y ≠ y)
  | 0, next, row, hk, h => ⟨next, row, h, fun hl => by omega⟩
  | k + 1, next, row, hk, h => by
    by_cases hc : next < all.length ∧ all[next]!.Y = y
    · exact MidR.go hr k (next + 1) _ (by omega) (h.step hr hc.1 hc.2)
    · exact ⟨next, row, h, fun hl he => hc ⟨hl, he⟩⟩
def byX (a b : Rect) : Bool := decide (a.X ≤ b.X)
theorem sortX_merge (l : List Rect) : sortX (l.mergeSort byX) := by
  have h := List.pairwise_mergeSort (le := byX) (fun a b c h1 h2 => by unfold byX at *; simp at *; omega) (fun a b => by unfold byX; simp; omega) l
  have k : ∀ l : List Rect, l.Pairwise (fun a b => byX a b = true) → sortX l := by
    intro l
    induction l with
    | nil => intro _; trivial
    | cons r l ih => intro h; exact ⟨fun s hs => by have := (List.pairwise_cons.1 h).1 s hs; unfold byX at this; simpa using this, ih (List.pairwise_cons.1 h).2⟩
  exact k _ h
def byY (a b : Rect) : Bool := decide (a.Y ≤ b.Y)
theorem sortY_merge (l : List Rect) : sortedY (l.mergeSort byY) := by
  have h := List.pairwise_mergeSort (le := byY) (fun a b c h1 h2 => by unfold byY at *; simp at *; omega) (fun a b => by unfold byY; simp; omega) l
  rw [List.pairwise_iff_getElem] at h
  intro i j hij hj
  have k := h i j (by omega) hj hij
  rw [getElem!_pos (l.mergeSort byY) i (by omega), getElem!_pos (l.mergeSort byY) j hj]
  have k : decide ((l.mergeSort byY)[i].Y ≤ (l.mergeSort byY)[j].Y) = true := k
  exact of_decide_eq_true k
theorem OfR.exists {all : List Rect} (hr : ∀ r ∈ all, rok r) (hs : sortedY all) : ∀ i, (i < (ysOf all).length ∨ i = 0) → ∃ out above next row, OfR all i out above next row
  | 0, _ => ⟨_, _, _, _, OfR.start all⟩
  | i + 1, hi => by
    have hi : i + 1 < (ysOf all).length := by omega
    obtain ⟨out, above, next, row, h⟩ := OfR.exists hr hs i (.inl (by omega))
    obtain ⟨nx, rw_, hm, hst⟩ := MidR.go hr _ _ _ (Nat.le_refl _) h.mid
    have hx := OfR.next h hi hr (hm.perm (List.mergeSort_perm rw_ byX)) (hm.stop hs hst) (sortX_merge rw_)
    cases hal : alikeL (out.drop above) (newR (ysOf all)[i]! (ysOf all)[i + 1]! (rw_.mergeSort byX)) with
    | true => exact ⟨_, _, _, _, hx.1 hal⟩
    | false => exact ⟨_, _, _, _, hx.2 hal⟩
theorem countsB_rok {r : Rect} (h : countsB r = true) : rok r := by
  unfold countsB fitsB at h
  simp only [Bool.and_eq_true, decide_eq_true_eq] at h
  unfold rok; omega
theorem canon_exists (l : List Rect) : ∃ c, Canon c ∧ ∀ x z, inL c x z ↔ inL (l.filter countsB) x z := by
  have hp := List.mergeSort_perm (l.filter countsB) byY
  have hr : ∀ r ∈ (l.filter countsB).mergeSort byY, rok r := fun r h => countsB_rok (List.mem_filter.1 (hp.mem_iff.1 h)).2
  have hs := sortY_merge (l.filter countsB)
  have hin : ∀ x z, inL ((l.filter countsB).mergeSort byY) x z ↔ inL (l.filter countsB) x z := fun x z => by unfold inL; simp only [hp.mem_iff]
  generalize (l.filter countsB).mergeSort byY = all at *
  obtain ⟨out, above, next, row, h⟩ := OfR.exists hr hs ((ysOf all).length - 1) (by omega)
  obtain ⟨h1, h2⟩ := h.done (by omega)
  exact ⟨out, h1, fun x z => (h2 x z).trans (hin x z)⟩
noncomputable def bandOf (l : List Rect) : List Rect := Classical.choose (canon_exists l)
theorem bandOf_canon (l : List Rect) : Canon (bandOf l) := (Classical.choose_spec (canon_exists l)).1
theorem bandOf_in (l : List Rect) (x z : Int) : inL (bandOf l) x z ↔ inL (l.filter countsB) x z := (Classical.choose_spec (canon_exists l)).2 x z
theorem bandOf_eq {l c : List Rect} (h : Canon c) (hi : ∀ x z, inL c x z ↔ inL (l.filter countsB) x z) : c = bandOf l := canon_uniq h (bandOf_canon l) fun x z => (hi x z).trans (bandOf_in l x z).symm
def HghR (out new : List Rect) (above : Nat) (g : Int) (j : Nat) (m : List Rect) : Prop :=
  above ≤ j ∧ j ≤ out.length ∧ m = out.take above ++ ((out.drop above).take (j - above)).map (fun r : Rect => { r with H := r.H + g }) ++ (out.drop j ++ new)
theorem HghR.start (out new : List Rect) (above : Nat) (g : Int) (h : above ≤ out.length) : HghR out new above g above (out ++ new) :=
  ⟨Nat.le_refl _, h, by rw [Nat.sub_self, List.take_zero, List.map_nil, List.append_nil, ← List.append_assoc, List.take_append_drop]⟩
theorem HghR.len {out new m : List Rect} {above j : Nat} {g : Int} (h : HghR out new above g j m) : m.length = (out ++ new).length := by
  obtain ⟨h1, h2, rfl⟩ := h
  simp only [List.length_append, List.length_take, List.length_map, List.length_drop]; omega
theorem HghR.at {out new m : List Rect} {above j : Nat} {g : Int} (h : HghR out new above g j m) (hj : j < out.length) : m[j]! = out[j]! := by
  have hl := h.len
  obtain ⟨h1, h2, rfl⟩ := h
  have e : (out.take above ++ ((out.drop above).take (j - above)).map (fun r : Rect => { r with H := r.H + g })).length = j := by
    simp only [List.length_append, List.length_take, List.length_map, List.length_drop]; omega
  have hm := List.length_append ▸ hl
  rw [getElem!_pos _ j (by rw [hl, List.length_append]; omega), getElem!_pos out j hj, List.getElem_append_right (by omega)]
  simp only [e, Nat.sub_self]
  rw [List.getElem_append_left (by simp; omega)]
  simp
theorem HghR.next {out new m : List Rect} {above j : Nat} {g : Int} (h : HghR out new above g j m) (hj : j < out.length) : HghR out new above g (j + 1) (m.set j { m[j]! with H := m[j]!.H + g }) := by
  have ha := h.at hj
  obtain ⟨h1, h2, rfl⟩ := h
  refine ⟨by omega, by omega, ?_⟩
  have e : (out.take above ++ ((out.drop above).take (j - above)).map (fun r : Rect => { r with H := r.H + g })).length = j := by
    simp only [List.length_append, List.length_take, List.length_map, List.length_drop]; omega
  rw [ha, List.set_append_right _ _ (by omega), e, Nat.sub_self, List.drop_eq_getElem_cons hj, List.cons_append, List.set_cons_zero]
  have e2 : (out.drop above).take (j + 1 - above) = (out.drop above).take (j - above) ++ [out[j]!] := by
    rw [show j + 1 - above = (j - above) + 1 from by omega, take_snoc (by simp; omega)]
    congr 2
    rw [getElem!_pos _ _ (by simp; omega), getElem!_pos out j hj, List.getElem_drop]
    congr 1; omega
  rw [e2, List.map_append]
  simp
theorem HghR.done {out new m : List Rect} {above j : Nat} {g : Int} (h : HghR out new above g j m) (hj : ¬ j < out.length) : j = out.length ∧ m = out.take above ++ (out.drop above).map (fun r : Rect => { r with H := r.H + g }) ++ new := by
  obtain ⟨h1, h2, rfl⟩ := h
  obtain rfl : j = out.length := by omega
  refine ⟨rfl, ?_⟩
  rw [List.take_of_length_le (l := out.drop above) (i := out.length - above) (by simp), List.drop_length, List.nil_append]
end
section
open Go.RowKit Go.Sort
set_option maxRecDepth 10000
set_option maxHeartbeats 4000000
theorem filt_t {l : List Rect} {k : Nat} (hk : k < l.length) (h : countsB l[k]! = true) : (l.take (k + 1)).filter countsB = (l.take k).filter countsB ++ [l[k]!] := by
  rw [take_snoc hk, List.filter_append]; simp only [List.filter_cons, h]; simp
theorem filt_f {l : List Rect} {k : Nat} (hk : k < l.length) (h : countsB l[k]! = false) : (l.take (k + 1)).filter countsB = (l.take k).filter countsB := by
  rw [take_snoc hk, List.filter_append]; simp only [List.filter_cons, h]; simp
theorem app_cells {l : List Rect} {tl xs : List T} {r : Rect} {n : Nat} (hn : n = l.length) (hx : xs = cR.cells r) : ((encL cR l ++ tl).drop 0).take (n * 4) ++ xs = encL cR (l ++ [r]) ++ [] := by
  subst hn hx
  rw [List.append_nil, List.drop_zero, show l.length * 4 = (encL cR l).length from by rw [encL_len, cR_sz], List.take_left, encL_append]
  simp [encL]
theorem of_p [Dr] (l : List Rect) (hl : l.length ≤ 1048576) (hx : ∀ r ∈ l, i64 r.X ∧ i64 r.Y) : CallP Try.prog 30 [.islc (encL cR l) l.length none] (regT (bandOf l)) := by
  refine CallP.intro2 au_pu au_pu ?_
  refine CallT.intro tab_ok Try.func30 rfl (by kernel_rfl) (Nat.le_of_ble_eq_true rfl) ?_
  refine VC.reg tab_ok [] rfl ?_
  refine VX.new rfl rfl ?_
  refine VX.nil ?_
  refine VC.reg tab_ok [] rfl ?_
  refine VX.meek rfl ?_
  refine VX.nil ?_
  refine VC.seq ?_
  refine VC.reg tab_ok [] rfl ?_
  iterate 3 refine VX.meek rfl ?_
  refine VX.nil ?_
  refine VC.block ?_
  refine VC.loopS2 (σ1 := Nat) (σ2 := List T) (fun k _ => l.length - k) (fun k tl => k ≤ l.length ∧ T.pureL tl = true) (fun k _ => [(20, I64 k), (3, .slc 1 0 ((l.take k).filter countsB).length 4 none)]) (fun k tl => [.c [NIL], .c (encL cR ((l.take k).filter countsB) ++ tl)]) [2, 18, 19] rfl (0) ([]) ?_ ?_ ?_
  · refine ⟨[some 0, none], rfl, by first | trivial | decide, by first | rfl | (simp only [noO, Bool.and_true, Bool.and_eq_true]; first | assumption | (refine ⟨?_, ?_⟩ <;> assumption)) | (simp only [noO, *, Bool.and_true, Bool.true_and, Bool.and_self]; done), ?_, ?_⟩ <;> (repeat' first | exact trivial | exact CvB_n | exact CvB_d | exact CvB_o rfl | refine CvE_app ?_ ?_ | refine CvE_cons rfl ?_ ?_ | refine CvH_cons ?_ ?_ | refine CvB_c rfl ?_ | fail) <;> first | exact au_v | (skip)
  · exact ⟨by omega, rfl⟩
  rintro k tl ⟨hk, htl⟩
  refine VC.reg tab_ok [] rfl ?_
  refine VX.meek rfl ?_
  refine VX.nil ?_
  refine VC.seq ?_
  refine VC.cond rfl (fun hc0 => ?_) (fun hc0 => ?_)
  · (try simp only [au_std] at hc0); have hkl : k < l.length := (by omega); have hxk := hx l[k]! (List.mem_iff_getElem?.2 ⟨k, getE hkl⟩); have hfl : ((l.take k).filter countsB).length ≤ k := Nat.le_trans (List.length_filter_le _ _) (by rw [List.length_take]; omega)
    refine VC.skip ?_
    refine VC.seq ?_
    refine VC.block ?_
    refine VC.reg tab_ok [] rfl ?_
    first | refine VX.idxI rfl rfl rfl rfl rfl rfl (by omega) ?_ | refine VX.idxO0 rfl rfl rfl rfl rfl rfl rfl (by omega) ?_ | refine VX.idxO0 rfl rfl rfl rfl rfl rfl au_z (by omega) ?_ | refine VX.idxO rfl rfl rfl rfl rfl rfl rfl (by omega) ?_ | refine VX.idxI rfl rfl rfl rfl rfl au_z (by omega) ?_ | refine VX.idxO rfl rfl rfl rfl rfl rfl au_z (by omega) ?_ | refine VX.meek rfl ?_
    first | refine VX.meek rfl ?_ | refine VX.loadI rfl rfl au_l ?_ | refine VX.loadP rfl rfl rfl au_l ?_ | refine VX.loadP rfl rfl b1 rfl ?_ | refine VX.loadP rfl rfl b1 au_l ?_ | refine VX.loadP rfl rfl bn rfl ?_ | refine VX.loadP rfl rfl bn au_l ?_
    refine VX.new rfl rfl ?_
    refine VX.store rfl rfl rfl rfl rfl au_sR rfl ?_
    refine VX.nil ?_
    refine VC.reg tab_ok [] rfl ?_
    first | refine VX.meek rfl ?_ | refine VX.loadI rfl rfl au_l ?_ | refine VX.loadP rfl rfl rfl au_l ?_ | refine VX.loadP rfl rfl b1 rfl ?_ | refine VX.loadP rfl rfl b1 au_l ?_ | refine VX.loadP rfl rfl bn rfl ?_ | refine VX.loadP rfl rfl bn au_l ?_
    refine VX.callP0 rfl rfl rfl (counts_p l[k]! hxk.1 hxk.2) ?_
    refine VX.nil ?_
    refine VC.cond rfl (fun hc1 => ?_) (fun hc1 => ?_)
    · (try simp only [au_std] at hc1); have hft := filt_t hkl hc1
      refine VC.regN tab_ok [28] rfl ?_
      refine VX.meek rfl ?_
      first | refine VX.meek rfl ?_ | refine VX.loadI rfl rfl au_l ?_ | refine VX.loadP rfl rfl rfl au_l ?_ | refine VX.loadP rfl rfl b1 rfl ?_ | refine VX.loadP rfl rfl b1 au_l ?_ | refine VX.loadP rfl rfl bn rfl ?_ | refine VX.loadP rfl rfl bn au_l ?_
      refine VX.newI rfl rfl ?_
      first | refine VX.appendNil rfl rfl rfl rfl rfl rfl au_sR au_sR au_sR ?_ | refine VX.append rfl rfl rfl rfl rfl rfl rfl rfl au_sR au_sR au_sR au_sR au_sR ?_
      refine VX.meek rfl ?_
      refine VX.nil ?_
      refine VC.regN tab_ok [] rfl ?_
      first | refine VX.add rfl rfl (by omega) ?_ | refine VX.meek rfl ?_
      refine VX.meek rfl ?_
      refine VX.nil ?_
      refine ⟨k + 1, [], by (try dsimp only); omega, ?_, (by refine ⟨[some 0, some 3], rfl, by first | trivial | decide, by first | rfl | (simp only [noO, Bool.and_true, Bool.and_eq_true]; first | assumption | (refine ⟨?_, ?_⟩ <;> assumption)) | (simp only [noO, *, Bool.and_true, Bool.true_and, Bool.and_self]; done), ?_, ?_⟩ <;> (repeat' first | exact trivial | exact CvB_n | exact CvB_d | exact CvB_o rfl | refine CvE_app ?_ ?_ | refine CvE_cons rfl ?_ ?_ | refine CvH_cons ?_ ?_ | refine CvB_c rfl ?_ | fail) <;> first | exact au_v | (first | exact Cv.slcE rfl (by rw [hft]; simp) (.inl rfl) | (rw [hft]; exact CvL.eq (app_cells rfl rfl) (by simp only [List.append_nil]; exact encL_pure cR _))))⟩
      exact ⟨by omega, by first | rfl | exact htl⟩
    · (try simp only [au_std] at hc1); have hft := filt_f hkl hc1
      refine VC.skip ?_
      refine VC.regN tab_ok [] rfl ?_
      first | refine VX.add rfl rfl (by omega) ?_ | refine VX.meek rfl ?_
      refine VX.meek rfl ?_
      refine VX.nil ?_
      refine ⟨k + 1, tl, by (try dsimp only); omega, ?_, (by refine ⟨[some 0, some 1], rfl, by first | trivial | decide, by first | rfl | (simp only [noO, Bool.and_true, Bool.and_eq_true]; first | assumption | (refine ⟨?_, ?_⟩ <;> assumption)) | (simp only [noO, *, Bool.and_true, Bool.true_and, Bool.and_self]; done), ?_, ?_⟩ <;> (repeat' first | exact trivial | exact CvB_n | exact CvB_d | exact CvB_o rfl | refine CvE_app ?_ ?_ | refine CvE_cons rfl ?_ ?_ | refine CvH_cons ?_ ?_ | refine CvB_c rfl ?_ | fail) <;> first | exact au_v | (first | exact Cv.slcE rfl (by rw [hft]) (.inl rfl) | (rw [hft]; exact CvL.pure (pureL_append (encL_pure cR _) htl))))⟩
      exact ⟨by omega, by first | rfl | exact htl⟩
  · (try simp only [au_std] at hc0); obtain rfl : k = l.length := (by omega); rw [List.take_length]; have hfl : (l.filter countsB).length ≤ l.length := List.length_filter_le _ _
    refine VC.exit ?_
    refine VC.reg tab_ok [] rfl ?_
    refine VX.meek rfl ?_
    refine VX.callT rfl rfl (CallT.frame (sortYX_any (l.filter countsB) tl (by omega) htl) [1] rfl au_ci au_ci ?_)
    rintro _ _ ⟨rfl, all, hperm, hsort, rfl⟩
    refine frK au_co au_co ?_
    refine VX.nil ?_
    have hlen := hperm.length_eq
    have hr : ∀ r ∈ all, rok r := fun r h => countsB_rok (List.mem_filter.1 (hperm.mem_iff.1 h)).2
    have hsY := sortedY_of hsort
    have hys := ysOf_len all
    have hin : ∀ x z, inL all x z ↔ inL (l.filter countsB) x z := fun x z => by unfold inL; simp only [hperm.mem_iff]
    refine VC.view ([(3, .islc (encL cR all) all.length none)]) ([.c [NIL]]) [2] rfl (by refine ⟨[some 0], rfl, by first | trivial | decide, by first | rfl | (simp only [noO, Bool.and_true, Bool.and_eq_true]; first | assumption | (refine ⟨?_, ?_⟩ <;> assumption)) | (simp only [noO, *, Bool.and_true, Bool.true_and, Bool.and_self]; done), ?_, ?_⟩ <;> (repeat' first | exact trivial | exact CvB_n | exact CvB_d | exact CvB_o rfl | refine CvE_app ?_ ?_ | refine CvE_cons rfl ?_ ?_ | refine CvH_cons ?_ ?_ | refine CvB_c rfl ?_ | fail) <;> first | exact au_v | ((rw [hlen]; exact Cv.fslcA ⟨rfl, by simp⟩ (CvL.pure (encL_pure cR _))))) ?_
    refine VC.reg tab_ok [] rfl ?_
    refine VX.meek rfl ?_
    refine VX.callP0 rfl rfl rfl (edges_p all (by omega) hr) ?_
    refine VX.meek rfl ?_
    refine VX.nil ?_
    refine VC.reg tab_ok [] rfl ?_
    refine VX.new rfl rfl ?_
    refine VX.meek rfl ?_
    refine VX.nil ?_
    refine VC.reg tab_ok [] rfl ?_
    refine VX.meek rfl ?_
    refine VX.nil ?_
    refine VC.reg tab_ok [] rfl ?_
    refine VX.meek rfl ?_
    refine VX.nil ?_
    refine VC.seq ?_
    refine VC.reg tab_ok [] rfl ?_
    refine VX.meek rfl ?_
    refine VX.nil ?_
    refine VC.block ?_
    refine VC.loopS7 (σ1 := Nat) (σ2 := List Rect) (σ3 := Nat) (σ4 := Nat) (σ5 := List Rect) (σ6 := List T) (σ7 := List T) (fun i _ _ _ _ _ _ => (ysOf all).length - i) (fun i out above next row tlo tlr => OfR all i out above next row ∧ T.pureL tlo = true ∧ T.pureL tlr = true) (fun i out above next row _ _ => [(11, I64 i), (9, I64 above), (10, I64 next), (8, .slc 3 0 row.length 4 none)]) (fun i out above next row tlo tlr => [.c [NIL], .c [.slc 2 0 out.length 4 none], .c (encL cR out ++ tlo), .c (encL cR row ++ tlr)]) [2, 3, 6, 7] rfl (0) ([]) (0) (0) ([]) ([]) ([]) ?_ ?_ ?_
    · refine ⟨[some 0, some 1, none, none], rfl, by first | trivial | decide, by first | rfl | (simp only [noO, Bool.and_true, Bool.and_eq_true]; first | assumption | (refine ⟨?_, ?_⟩ <;> assumption)) | (simp only [noO, *, Bool.and_true, Bool.true_and, Bool.and_self]; done), ?_, ?_⟩ <;> (repeat' first | exact trivial | exact CvB_n | exact CvB_d | exact CvB_o rfl | refine CvE_app ?_ ?_ | refine CvE_cons rfl ?_ ?_ | refine CvH_cons ?_ ?_ | refine CvB_c rfl ?_ | fail) <;> first | exact au_v | (exact CvL.cons (Cv.nilv rfl) CvL.nil)
    · exact ⟨OfR.start all, rfl, rfl⟩
    rintro i out above next row tlo tlr ⟨hO, hto, htr⟩; have hib : i ≤ (ysOf all).length := by rcases hO.1 with h | ⟨h, _⟩ <;> omega
    refine VC.seq ?_
    refine VC.reg tab_ok [] rfl ?_
    refine VX.meek rfl ?_
    first | refine VX.add rfl rfl (by omega) ?_ | refine VX.meek rfl ?_
    iterate 3 refine VX.meek rfl ?_
    refine VX.nil ?_
    refine VC.cond rfl (fun hc2 => ?_) (fun hc2 => ?_)
    · (try simp only [au_std] at hc2); have hi1 : i + 1 < (ysOf all).length := (by omega); have hyb := fun j hj => ysOf_bnd hr (j := j) hj; have hyi := hyb i (by omega); have hye := hyb (i + 1) hi1; have hlt := ysOf_lt all (i := i) (j := i + 1) (by omega) hi1
      have hrowok : ∀ r ∈ row, rok r := fun r h => hr r (hO.2.2.2.2.2.2.2.1 r h).1
      have hrl : row.length ≤ next ∧ next ≤ all.length := ⟨hO.2.2.2.1, hO.2.2.1⟩
      have hol : out.length ≤ 2199023255552 := Nat.le_trans hO.2.1 (Nat.mul_le_mul (show i ≤ 2097152 by omega) (show all.length ≤ 1048576 by omega))
      have hab : above ≤ out.length := hO.2.2.2.2.2.1
      refine VC.skip ?_
      refine VC.seq ?_
      refine VC.block ?_
      refine VC.drwS tab_ok [] [_, _, _, _, _, _, _, _, _, _, _, _] (_) rfl (by kernel_rfl) (by kernel_rfl) (by kernel_rfl) (seen_refl _) ?_
      refine VS.seg (l1 := [_, _, _, _, _, _, _, _, _]) rfl ?_
      iterate 2 refine VX.meek rfl ?_
      first | refine VX.idxI rfl rfl rfl rfl rfl rfl (by omega) ?_ | refine VX.idxO0 rfl rfl rfl rfl rfl rfl rfl (by omega) ?_ | refine VX.idxO0 rfl rfl rfl rfl rfl rfl au_z (by omega) ?_ | refine VX.idxO rfl rfl rfl rfl rfl rfl rfl (by omega) ?_ | refine VX.idxI rfl rfl rfl rfl rfl au_z (by omega) ?_ | refine VX.idxO rfl rfl rfl rfl rfl rfl au_z (by omega) ?_ | refine VX.meek rfl ?_
      first | refine VX.meek rfl ?_ | refine VX.loadI rfl rfl au_l ?_ | refine VX.loadP rfl rfl rfl au_l ?_ | refine VX.loadP rfl rfl b1 rfl ?_ | refine VX.loadP rfl rfl b1 au_l ?_ | refine VX.loadP rfl rfl bn rfl ?_ | refine VX.loadP rfl rfl bn au_l ?_
      iterate 2 refine VX.meek rfl ?_
      first | refine VX.add rfl rfl (by omega) ?_ | refine VX.meek rfl ?_
      first | refine VX.idxI rfl rfl rfl rfl rfl rfl (by omega) ?_ | refine VX.idxO0 rfl rfl rfl rfl rfl rfl rfl (by omega) ?_ | refine VX.idxO0 rfl rfl rfl rfl rfl rfl au_z (by omega) ?_ | refine VX.idxO rfl rfl rfl rfl rfl rfl rfl (by omega) ?_ | refine VX.idxI rfl rfl rfl rfl rfl au_z (by omega) ?_ | refine VX.idxO rfl rfl rfl rfl rfl rfl au_z (by omega) ?_ | refine VX.meek rfl ?_
      first | refine VX.meek rfl ?_ | refine VX.loadI rfl rfl au_l ?_ | refine VX.loadP rfl rfl rfl au_l ?_ | refine VX.loadP rfl rfl b1 rfl ?_ | refine VX.loadP rfl rfl b1 au_l ?_ | refine VX.loadP rfl rfl bn rfl ?_ | refine VX.loadP rfl rfl bn au_l ?_
      refine VX.nil ?_
      refine VS.hid rfl ?_
      refine VS.seg (l1 := [_]) rfl ?_
      refine VX.new rfl rfl ?_
      refine VX.nil ?_
      refine VS.sto rfl rfl rfl rfl ?_
      refine VS.nil (⟨rfl, Nat.le_of_ble_eq_true rfl, rfl, trivial⟩) ?_
      refine VX.store rfl rfl rfl rfl rfl au_sR rfl ?_
      refine VX.nil ?_
      refine VC.view ([(12, .iptr [I64 (ysOf all)[i]!] 0), (13, .iptr [I64 (ysOf all)[i + 1]!] 0)]) ([.c [NIL], .c [.slc 2 0 out.length 4 none], .c (encL cR out ++ tlo), .c (encL cR row ++ tlr)]) [2, 3, 6, 7, 8, 9, 10, 11] rfl (by refine ⟨[some 0, some 1, some 2, some 3], rfl, by first | trivial | decide, by first | rfl | (simp only [noO, Bool.and_true, Bool.and_eq_true]; first | assumption | (refine ⟨?_, ?_⟩ <;> assumption)) | (simp only [noO, *, Bool.and_true, Bool.true_and, Bool.and_self]; done), ?_, ?_⟩ <;> (repeat' first | exact trivial | exact CvB_n | exact CvB_d | exact CvB_o rfl | refine CvE_app ?_ ?_ | refine CvE_cons rfl ?_ ?_ | refine CvH_cons ?_ ?_ | refine CvB_c rfl ?_ | fail) <;> first | exact au_v | (first | (refine Cv.fptr ⟨rfl, by simp⟩ ?_; exact CvL.pure rfl) | exact CvL.cons (Cv.slc rfl (.inl rfl)) CvL.nil | exact CvL.pure (pureL_append (encL_pure cR _) (by assumption)))) ?_
      refine VC.reg tab_ok [] rfl ?_
      iterate 2 refine VX.meek rfl ?_
      refine VX.callT rfl rfl (CallT.frame (delete_t row tlr (ysOf all)[i]! none hrowok (by omega) htr) [3] rfl au_ci au_ci ?_)
      rintro _ _ ⟨tl', c', htl', rfl, rfl⟩
      refine frK au_co au_co ?_
      refine VX.meek rfl ?_
      refine VX.nil ?_
      have hM := hO.mid
      refine VC.reg tab_ok [] rfl ?_
      iterate 2 refine VX.meek rfl ?_
      refine VX.nil ?_
      refine VC.seq ?_
      refine VC.block ?_
      refine VC.loopS3 (σ1 := Nat) (σ2 := List Rect) (σ3 := List T) (fun nx _ _ => all.length - nx) (fun nx rw tl => MidR all (ysOf all)[i]! nx rw ∧ next ≤ nx ∧ (nx = next → rw = row.filter fun r => !gone (ysOf all)[i]! r) ∧ T.pureL tl = true) (fun nx rw _ => [(10, I64 nx), (8, .slc 3 0 rw.length 4 none)]) (fun _ rw tl => [.c [NIL], .c [.slc 2 0 out.length 4 none], .c (encL cR out ++ tlo), .c (encL cR rw ++ tl)]) [2, 3, 6, 7, 9, 11, 12, 13, 14] rfl (next) ((row.filter fun r => !gone (ysOf all)[i]! r)) (tl') ?_ ?_ ?_
      · refine ⟨[some 0, some 1, some 2, some 3], rfl, by first | trivial | decide, by first | rfl | (simp only [noO, Bool.and_true, Bool.and_eq_true]; first | assumption | (refine ⟨?_, ?_⟩ <;> assumption)) | (simp only [noO, *, Bool.and_true, Bool.true_and, Bool.and_self]; done), ?_, ?_⟩ <;> (repeat' first | exact trivial | exact CvB_n | exact CvB_d | exact CvB_o rfl | refine CvE_app ?_ ?_ | refine CvE_cons rfl ?_ ?_ | refine CvH_cons ?_ ?_ | refine CvB_c rfl ?_ | fail) <;> first | exact au_v | (first | exact CvL.cons (Cv.slc rfl (.inl rfl)) CvL.nil | exact CvL.pure (pureL_append (encL_pure cR _) (by assumption)))
      · exact ⟨hM, Nat.le_refl _, fun _ => rfl, htl'⟩
      rintro nx rw tl2 ⟨hM2, hnx, heq, htl2⟩; have hnl := hM2.1; have hrwl := hM2.2.1
      refine VC.seq ?_
      refine VC.drw tab_ok [] [_, _, _, _, _, _, _, _, _, _, _, _, _] rfl (by kernel_rfl) (by kernel_rfl) ?_
      iterate 5 refine VX.meek rfl ?_
      refine' VX.merge (d := 67) [_, _, _, _, _, _, _, _] rfl ?_ rfl ?_
      rotate_left
      · refine VX.guard rfl rfl (fun hb19_4 => ?_) (fun hb19_4 => ?_)
        · have ghb19_4 := hb19_4
          try simp only [au_std, Bool.not_true, Bool.not_false] at ghb19_4
          refine VX.meek rfl ?_
          refine VX.guardT rfl rfl hb19_4 ?_
          refine VX.meek rfl ?_
          refine VX.guardT rfl rfl hb19_4 ?_
          first | refine VX.idxI rfl rfl rfl rfl rfl rfl (by omega) ?_ | refine VX.idxO0 rfl rfl rfl rfl rfl rfl rfl (by omega) ?_ | refine VX.idxO0 rfl rfl rfl rfl rfl rfl au_z (by omega) ?_ | refine VX.idxO rfl rfl rfl rfl rfl rfl rfl (by omega) ?_ | refine VX.idxI rfl rfl rfl rfl rfl au_z (by omega) ?_ | refine VX.idxO rfl rfl rfl rfl rfl rfl au_z (by omega) ?_ | refine VX.meek rfl ?_
          refine VX.guardT rfl rfl hb19_4 ?_
          refine VX.meek rfl ?_
          refine VX.guardT rfl rfl hb19_4 ?_
          first | refine VX.meek rfl ?_ | refine VX.loadI rfl rfl au_l ?_ | refine VX.loadP rfl rfl rfl au_l ?_ | refine VX.loadP rfl rfl b1 rfl ?_ | refine VX.loadP rfl rfl b1 au_l ?_ | refine VX.loadP rfl rfl bn rfl ?_ | refine VX.loadP rfl rfl bn au_l ?_
          refine VX.guardT rfl rfl hb19_4 ?_
          first | refine VX.meek rfl ?_ | refine VX.loadI rfl rfl au_l ?_ | refine VX.loadP rfl rfl rfl au_l ?_ | refine VX.loadP rfl rfl b1 rfl ?_ | refine VX.loadP rfl rfl b1 au_l ?_ | refine VX.loadP rfl rfl bn rfl ?_ | refine VX.loadP rfl rfl bn au_l ?_
          refine VX.guardT rfl rfl hb19_4 ?_
          refine VX.meek rfl ?_
          refine VX.pickA rfl (fun _ => rfl) ?_
          exact VX.nil ⟨rfl, rfl⟩
        · refine VX.guardF rfl rfl hb19_4 ?_
          iterate 5 refine VX.guardF rfl rfl hb19_4 ?_
          exact VX.pickA rfl (fun h => absurd (h.symm.trans hb19_4) (by decide)) (VX.nil ⟨rfl, rfl⟩)
      iterate 2 refine VX.nil ?_
      refine VC.cond rfl (fun hc3 => ?_) (fun hc3 => ?_)
      · (try simp only [au_std] at hc3); have hnl2 : nx < all.length := (by omega); have hst := hM2.step hr hnl2 (by omega)
        refine VC.skip ?_
        refine VC.block ?_
        refine VC.reg tab_ok [73] rfl ?_
        iterate 3 refine VX.meek rfl ?_
        first | refine VX.idxI rfl rfl rfl rfl rfl rfl (by omega) ?_ | refine VX.idxO0 rfl rfl rfl rfl rfl rfl rfl (by omega) ?_ | refine VX.idxO0 rfl rfl rfl rfl rfl rfl au_z (by omega) ?_ | refine VX.idxO rfl rfl rfl rfl rfl rfl rfl (by omega) ?_ | refine VX.idxI rfl rfl rfl rfl rfl au_z (by omega) ?_ | refine VX.idxO rfl rfl rfl rfl rfl rfl au_z (by omega) ?_ | refine VX.meek rfl ?_
        first | refine VX.meek rfl ?_ | refine VX.loadI rfl rfl au_l ?_ | refine VX.loadP rfl rfl rfl au_l ?_ | refine VX.loadP rfl rfl b1 rfl ?_ | refine VX.loadP rfl rfl b1 au_l ?_ | refine VX.loadP rfl rfl bn rfl ?_ | refine VX.loadP rfl rfl bn au_l ?_
        refine VX.newI rfl rfl ?_
        first | refine VX.appendNil rfl rfl rfl rfl rfl rfl au_sR au_sR au_sR ?_ | refine VX.append rfl rfl rfl rfl rfl rfl rfl rfl au_sR au_sR au_sR au_sR au_sR ?_
        refine VX.meek rfl ?_
        refine VX.nil ?_
        refine VC.regN tab_ok [] rfl ?_
        refine VX.meek rfl ?_
        first | refine VX.add rfl rfl (by omega) ?_ | refine VX.meek rfl ?_
        refine VX.meek rfl ?_
        refine VX.nil ?_
        refine ⟨nx + 1, rw ++ [all[nx]!], [], by (try dsimp only); omega, ?_, (by refine ⟨[some 0, some 1, some 2, some 4], rfl, by first | trivial | decide, by first | rfl | (simp only [noO, Bool.and_true, Bool.and_eq_true]; first | assumption | (refine ⟨?_, ?_⟩ <;> assumption)) | (simp only [noO, *, Bool.and_true, Bool.true_and, Bool.and_self]; done), ?_, ?_⟩ <;> (repeat' first | exact trivial | exact CvB_n | exact CvB_d | exact CvB_o rfl | refine CvE_app ?_ ?_ | refine CvE_cons rfl ?_ ?_ | refine CvH_cons ?_ ?_ | refine CvB_c rfl ?_ | fail) <;> first | exact au_v | (first | exact CvL.cons (Cv.slc rfl (.inl rfl)) CvL.nil | exact Cv.slcE rfl (by simp) (.inl rfl) | exact CvL.eq (app_cells rfl rfl) (by simp only [List.append_nil]; exact encL_pure cR _) | exact CvL.pure (pureL_append (encL_pure cR _) (by assumption))))⟩
        exact ⟨hst, by omega, fun h => absurd h (by omega), rfl⟩
      · (try simp only [au_std] at hc3); have hstop := hM2.stop hsY (fun h => hc3 (by omega))
        refine VC.exit ?_
        refine VC.seq ?_
        refine VC.reg tab_ok [] rfl ?_
        iterate 3 refine VX.meek rfl ?_
        refine VX.nil ?_
        refine VC.cond rfl (fun hc4 => ?_) (fun hc4 => ?_)
        · (try simp only [au_std] at hc4)
          refine VC.regN tab_ok [] rfl ?_
          refine VX.meek rfl ?_
          refine VX.callT rfl rfl (CallT.frame (sortX_any rw tl2 (by omega) htl2) [3] rfl au_ci au_ci ?_)
          rintro _ _ ⟨rfl, rw', hpx, hsx, rfl⟩
          refine frK au_co au_co ?_
          refine VX.nil ?_
          have hM3 := hM2.perm hpx; have hsX := sortX_of hsx; have hrl' := hpx.length_eq; rw [← hrl']
          refine VC.reg tab_ok [] rfl ?_
          first | refine VX.meek rfl ?_ | refine VX.loadI rfl rfl au_l ?_ | refine VX.loadP rfl rfl rfl au_l ?_ | refine VX.loadP rfl rfl b1 rfl ?_ | refine VX.loadP rfl rfl b1 au_l ?_ | refine VX.loadP rfl rfl bn rfl ?_ | refine VX.loadP rfl rfl bn au_l ?_
          iterate 2 refine VX.meek rfl ?_
          refine VX.nil ?_
          refine VC.seq ?_
          refine VC.reg tab_ok [] rfl ?_
          refine VX.meek rfl ?_
          refine VX.callT rfl rfl (CallT.frame (spans_t rw'.length (encL cR rw' ++ tl2) none) [3] rfl au_ci au_ci ?_)
          rintro _ _ ⟨rfl, rfl⟩
          refine frK au_co au_co ?_
          refine VX.nil ?_
          refine VC.block ?_
          refine VC.range rfl fun L hp ha hb => ?_
          refine (spans1_t (OfJ (recP _ (L.at .ready none) _) out (newR (ysOf all)[i]! (ysOf all)[i + 1]! rw') rw' tl2) 4 3 rw' tl2 none (fun r h => hr r (hM3.2.2.1 r h).1) (by omega) (fun k H h => h.look) (fun k H cs h => h.push cs) ?_ _ ⟨2, tlo, hto, .inl rfl, Nat.le_of_ble_eq_true rfl, Nat.le_of_ble_eq_true rfl, rfl, rfl, by rw [List.take_zero, List.append_nil]; rfl, rfl, rfl⟩).mono ?_
          · intro k H' hJ s hs
            obtain ⟨bo, tlb, g1, g2, g3, g4, g5, g6, g7, g8, g9⟩ := hJ
            refine YieldT.intro (L := L) g9 (by rw [hp]; decide) (by rw [hp]; rfl) ?_
            rw [ha, hb, hp]
            obtain ⟨hT, hkn⟩ := newR_at (y := (ysOf all)[i]!) (e := (ysOf all)[i + 1]!) hs
            have hsb := span_bnd (row := rw') (fun r h => hr r (hM3.2.2.1 r h).1) hsX s (List.mem_of_getElem? hs)
            have hsl := spansF_length rw'; have hnl4 := newR_len (ysOf all)[i]! (ysOf all)[i + 1]! rw'
            have hlk : (out ++ (newR (ysOf all)[i]! (ysOf all)[i + 1]! rw').take k).length = out.length + k := by rw [List.length_append, List.length_take]; omega
            have hlc : (encL cR (out ++ (newR (ysOf all)[i]! (ysOf all)[i + 1]! rw').take k) ++ tlb).length = (out.length + k) * 4 + tlb.length := by rw [List.length_append, encL_len, hlk, cR_sz]
            refine VC.regN tab_ok [] rfl ?_
            refine VX.new rfl rfl ?_
            refine VX.storeE (H2 := H' ++ [.c [I64 s.1, I64 s.2]]) rfl rfl rfl (lookH_new _ _) rfl (Nat.le_of_ble_eq_true rfl) rfl (setH_new _ _ _) ?_
            refine VX.nil ?_
            refine ⟨by rw [blkH_push, if_neg (by omega)]; exact g9, ?_⟩
            have f4 : 4 < (H' ++ [Blk.c [I64 s.1, I64 s.2]]).length := by simp; omega
            have e : ∀ c x, blkH (setH (H' ++ [Blk.c [I64 s.1, I64 s.2]]) 4 x) c = if c = 4 then x else if c = H'.length then Blk.c [I64 s.1, I64 s.2] else blkH H' c := fun c x => by rw [blkH_set _ _ _ _ f4, blkH_push]
            have el : ∀ x, (setH (H' ++ [Blk.c [I64 s.1, I64 s.2]]) 4 x).length = H'.length + 1 := fun x => by rw [setH_length]; simp
            generalize hHB : setH (H' ++ [Blk.c [I64 s.1, I64 s.2]]) 4 _ = HB
            have b0 : blkH HB 0 = .c [NIL] := by rw [← hHB, e, if_neg (by omega), if_neg (by omega)]; exact g5
            have b1 : lookH HB 1 = some [.slc bo 0 (out.length + k) 4 none] := lookH_c.2 (by rw [← hHB, e, if_neg (by omega), if_neg (by omega)]; exact g6)
            have bb : lookH HB bo = some (encL cR (out ++ (newR (ysOf all)[i]! (ysOf all)[i + 1]! rw').take k) ++ tlb) := lookH_c.2 (by rw [← hHB, e, if_neg (by omega), if_neg (by omega)]; exact g7)
            have b3 : blkH HB 3 = .c (encL cR rw' ++ tl2) := by rw [← hHB, e, if_neg (by omega), if_neg (by omega)]; exact g8
            have b4 := (congrArg (fun h => blkH h 4) hHB.symm).trans ((e 4 _).trans (if_pos rfl))
            have bn : lookH HB H'.length = some [I64 s.1, I64 s.2] := lookH_c.2 (by rw [← hHB, e, if_neg (by omega), if_pos rfl])
            have bl : HB.length = H'.length + 1 := by rw [← hHB]; exact el _
            refine VC.block ?_
            refine VC.regN tab_ok [100] rfl ?_
            first | refine VX.meek rfl ?_ | refine VX.loadI rfl rfl au_l ?_ | refine VX.loadP rfl rfl rfl au_l ?_ | refine VX.loadP rfl rfl b1 rfl ?_ | refine VX.loadP rfl rfl b1 au_l ?_ | refine VX.loadP rfl rfl bn rfl ?_ | refine VX.loadP rfl rfl bn au_l ?_
            refine VX.meek rfl ?_
            first | refine VX.meek rfl ?_ | refine VX.loadI rfl rfl au_l ?_ | refine VX.loadP rfl rfl rfl au_l ?_ | refine VX.loadP rfl rfl b1 rfl ?_ | refine VX.loadP rfl rfl b1 au_l ?_ | refine VX.loadP rfl rfl bn rfl ?_ | refine VX.loadP rfl rfl bn au_l ?_
            first | refine VX.meek rfl ?_ | refine VX.loadI rfl rfl au_l ?_ | refine VX.loadP rfl rfl rfl au_l ?_ | refine VX.loadP rfl rfl b1 rfl ?_ | refine VX.loadP rfl rfl b1 au_l ?_ | refine VX.loadP rfl rfl bn rfl ?_ | refine VX.loadP rfl rfl bn au_l ?_
            refine VX.meek rfl ?_
            first | refine VX.meek rfl ?_ | refine VX.loadI rfl rfl au_l ?_ | refine VX.loadP rfl rfl rfl au_l ?_ | refine VX.loadP rfl rfl b1 rfl ?_ | refine VX.loadP rfl rfl b1 au_l ?_ | refine VX.loadP rfl rfl bn rfl ?_ | refine VX.loadP rfl rfl bn au_l ?_
            refine VX.meek rfl ?_
            first | refine VX.meek rfl ?_ | refine VX.loadI rfl rfl au_l ?_ | refine VX.loadP rfl rfl rfl au_l ?_ | refine VX.loadP rfl rfl b1 rfl ?_ | refine VX.loadP rfl rfl b1 au_l ?_ | refine VX.loadP rfl rfl bn rfl ?_ | refine VX.loadP rfl rfl bn au_l ?_
            first | refine VX.sub rfl rfl (by omega) ?_ | refine VX.meek rfl ?_
            first | refine VX.meek rfl ?_ | refine VX.loadI rfl rfl au_l ?_ | refine VX.loadP rfl rfl rfl au_l ?_ | refine VX.loadP rfl rfl b1 rfl ?_ | refine VX.loadP rfl rfl b1 au_l ?_ | refine VX.loadP rfl rfl bn rfl ?_ | refine VX.loadP rfl rfl bn au_l ?_
            first | refine VX.meek rfl ?_ | refine VX.loadI rfl rfl au_l ?_ | refine VX.loadP rfl rfl rfl au_l ?_ | refine VX.loadP rfl rfl b1 rfl ?_ | refine VX.loadP rfl rfl b1 au_l ?_ | refine VX.loadP rfl rfl bn rfl ?_ | refine VX.loadP rfl rfl bn au_l ?_
            first | refine VX.sub rfl rfl (by omega) ?_ | refine VX.meek rfl ?_
            refine VX.meek rfl ?_
            refine VX.newI rfl rfl ?_
            refine VX.append rfl rfl rfl rfl rfl bb rfl rfl (by rw [hlc]; omega) (by dsimp only; omega) (by omega) rfl rfl ?_
            refine VX.storeE (H2 := _) rfl rfl rfl (show lookH _ 1 = some _ from lookH_c.2 (by rw [blkH_push, if_neg (by rw [setH_length]; omega), blkH_set _ _ _ _ (by omega), if_neg (by omega)]; exact lookH_c.1 b1)) rfl (Nat.le_of_ble_eq_true rfl) rfl rfl ?_
            refine VX.nil ?_
            have hcc := app_cells (l := out ++ (newR (ysOf all)[i]! (ysOf all)[i + 1]! rw').take k) (tl := tlb) (n := out.length + k) (xs := [I64 s.1, I64 (ysOf all)[i]!, I64 (s.2 - s.1), I64 ((ysOf all)[i + 1]! - (ysOf all)[i]!)]) (r := ⟨s.1, (ysOf all)[i]!, s.2 - s.1, (ysOf all)[i + 1]! - (ysOf all)[i]!⟩) hlk.symm rfl
            rw [List.append_assoc, ← hT] at hcc
            exact ⟨(OfJ.next (rec0 := OP.any) (tl := []) rfl g2 (by omega) (by omega) b0 b3 b4 hcc rfl).1, rfl, (OfJ.next (tl := []) rfl g2 (by omega) (by omega) b0 b3 b4 hcc rfl).2⟩
          · intro t H' hJ
            obtain ⟨bo, tlb, g1, g2, g3, g4, g5, g6, g7, g8, g9⟩ := hJ
            refine .inl ⟨g9, ?_⟩
            have f4 : 4 < H'.length := by omega
            have e : ∀ c, blkH (setH H' 4 .d) c = if c = 4 then .d else blkH H' c := fun c => blkH_set _ _ _ _ f4
            have hnew : (newR (ysOf all)[i]! (ysOf all)[i + 1]! rw').take (spansF rw').length = newR (ysOf all)[i]! (ysOf all)[i + 1]! rw' := List.take_of_length_le (by rw [newR_len]; exact Nat.le_refl _)
            rw [hnew] at g7
            have hnl : (out ++ newR (ysOf all)[i]! (ysOf all)[i + 1]! rw').length = out.length + (spansF rw').length := by rw [List.length_append, newR_len]
            rw [← hnl] at g6
            have c0 : lookH (setH H' 4 .d) 0 = some [NIL] := lookH_c.2 (by rw [e, if_neg (by omega)]; exact g5)
            have c1 : lookH (setH H' 4 .d) 1 = some [.slc bo 0 (out ++ newR (ysOf all)[i]! (ysOf all)[i + 1]! rw').length 4 none] := lookH_c.2 (by rw [e, if_neg (by omega)]; exact g6)
            have cb : lookH (setH H' 4 .d) bo = some (encL cR (out ++ newR (ysOf all)[i]! (ysOf all)[i + 1]! rw') ++ tlb) := lookH_c.2 (by rw [e, if_neg (by omega)]; exact g7)
            have c3 : lookH (setH H' 4 .d) 3 = some (encL cR rw' ++ tl2) := lookH_c.2 (by rw [e, if_neg (by omega)]; exact g8)
            have hsl := spansF_length rw'
            have hinj := inj4 g2
            refine VC.view [] [.c [NIL], .c [.slc 2 0 (out ++ newR (ysOf all)[i]! (ysOf all)[i + 1]! rw').length 4 none], .c (encL cR (out ++ newR (ysOf all)[i]! (ysOf all)[i + 1]! rw') ++ tlb), .c (encL cR rw' ++ tl2)] [2, 3, 6, 7, 8, 9, 10, 11, 12, 13, 15] rfl ⟨[some 0, some 1, some bo, some 3], hinj, trivial, rfl, ?_, ?_⟩ ?_
            · repeat' first | exact trivial | refine CvE_app ?_ ?_ | refine CvE_cons rfl ?_ ?_ | exact Cv.slc rfl (.inl rfl) | exact Cv.ptr rfl | (refine Cv.pure ?_; first | rfl | (simp only [T.pure, T.pureL, encL_pure, pureL_app, Bool.and_self, *]; done))
            · exact CvH_cons (CvB_c c0 (CvL.pure rfl)) (CvH_cons (CvB_c c1 (CvL.cons (Cv.slc rfl (.inl rfl)) CvL.nil)) (CvH_cons (CvB_c cb (CvL.pure (pureL_append (encL_pure cR _) g1))) (CvH_cons (CvB_c c3 (CvL.pure (pureL_append (encL_pure cR _) htl2))) trivial)))
            refine VC.drw tab_ok [] [_, _, _, _, _, _, _] rfl (by kernel_rfl) (by kernel_rfl) ?_
            first | refine VX.meek rfl ?_ | refine VX.loadI rfl rfl au_l ?_ | refine VX.loadP rfl rfl rfl au_l ?_ | refine VX.loadP rfl rfl b1 rfl ?_ | refine VX.loadP rfl rfl b1 au_l ?_ | refine VX.loadP rfl rfl bn rfl ?_ | refine VX.loadP rfl rfl bn au_l ?_
            iterate 2 refine VX.meek rfl ?_
            refine VX.slcP rfl rfl rfl rfl rfl rfl rfl rfl rfl (by omega) (by rw [hnl]; omega) ?_
            first | refine VX.meek rfl ?_ | refine VX.loadI rfl rfl au_l ?_ | refine VX.loadP rfl rfl rfl au_l ?_ | refine VX.loadP rfl rfl b1 rfl ?_ | refine VX.loadP rfl rfl b1 au_l ?_ | refine VX.loadP rfl rfl bn rfl ?_ | refine VX.loadP rfl rfl bn au_l ?_
            refine VX.meek rfl ?_
            refine VX.slcP rfl rfl rfl rfl rfl rfl rfl rfl rfl (by rw [hnl]; omega) (Nat.le_refl _) ?_
            refine VX.nil ?_
            refine VX.callB rfl rfl (alike_p (out.drop above) (newR (ysOf all)[i]! (ysOf all)[i + 1]! rw') (fun r h => (hO.2.2.2.2.2.2.1 r (List.mem_of_mem_drop h)).1) (by rw [List.length_drop]; omega)) rfl (CvL.cons (Cv.pcT (xs := encL cR (out.take above)) (ys := encL cR (newR (ysOf all)[i]! (ysOf all)[i + 1]! rw') ++ tlb) ⟨rfl, by simp⟩ (by rw [← encL_append, List.take_append_drop, encL_append, List.append_assoc]) (by rw [encL_len, cR_sz, List.length_take, Nat.min_eq_left hab]) (by rw [encL_len, cR_sz]) (by rw [List.length_drop]) hab (by rw [hnl]; omega) (encL_pure cR _)) (CvL.cons (Cv.pcT (xs := encL cR out) (ys := tlb) ⟨rfl, by simp⟩ (by rw [encL_append]) (by rw [encL_len, cR_sz]) (by rw [encL_len, cR_sz]) (by rw [hnl, newR_len]; omega) (by rw [hnl]; omega) (Nat.le_refl _) (encL_pure cR _)) CvL.nil)) ?_
            refine VX.nil ?_
            refine VC.cond rfl (fun hc5 => ?_) (fun hc5 => ?_)
            · have hnxt := (OfR.next hO hi1 hr hM3 hstop hsX).1 hc5
              refine VC.seq ?_
              refine VC.reg tab_ok [] rfl ?_
              iterate 2 refine VX.meek rfl ?_
              refine VX.nil ?_
              refine VC.block ?_
              refine VC.loopS2 (σ1 := Nat) (σ2 := List Rect) (fun j _ => out.length - j) (fun j m => HghR out (newR (ysOf all)[i]! (ysOf all)[i + 1]! rw') above ((ysOf all)[i + 1]! - (ysOf all)[i]!) j m) (fun j _ => [(17, I64 j)]) (fun _ m => [.c [NIL], .c [.slc 2 0 (out ++ newR (ysOf all)[i]! (ysOf all)[i + 1]! rw').length 4 none], .c (encL cR m ++ tlb), .c (encL cR rw' ++ tl2)]) [2, 3, 6, 7, 8, 9, 10, 11, 12, 13, 15] rfl (above) ((out ++ newR (ysOf all)[i]! (ysOf all)[i + 1]! rw')) ?_ ?_ ?_
              · refine ⟨[some 0, some 1, some 2, some 3], rfl, by first | trivial | decide, by first | rfl | (simp only [noO, Bool.and_true, Bool.and_eq_true]; first | assumption | (refine ⟨?_, ?_⟩ <;> assumption)) | (simp only [noO, *, Bool.and_true, Bool.true_and, Bool.and_self]; done), ?_, ?_⟩ <;> (repeat' first | exact trivial | exact CvB_n | exact CvB_d | exact CvB_o rfl | refine CvE_app ?_ ?_ | refine CvE_cons rfl ?_ ?_ | refine CvH_cons ?_ ?_ | refine CvB_c rfl ?_ | fail) <;> first | exact au_v | (first | exact CvL.cons (Cv.slc rfl (.inl rfl)) CvL.nil | exact CvL.pure (pureL_append (encL_pure cR _) (by assumption)))
              · exact HghR.start _ _ _ _ hab
              rintro j m hH; have hml := hH.len
              refine VC.seq ?_
              refine VC.reg tab_ok [] rfl ?_
              iterate 3 refine VX.meek rfl ?_
              refine VX.nil ?_
              refine VC.cond rfl (fun hc6 => ?_) (fun hc6 => ?_)
              · (try simp only [au_std] at hc6); have hj : j < out.length := (by omega); have hmj := hH.at hj; have hrj := (hO.2.2.2.2.2.2.1 out[j]! (List.mem_iff_getElem?.2 ⟨j, getE hj⟩)).1; rw [← hmj] at hrj; unfold rok at hrj; have hjm : j < m.length := (by omega)
                refine VC.skip ?_
                refine VC.seq ?_
                refine VC.block ?_
                refine VC.drwN tab_ok [] [_, _, _, _, _, _, _, _, _, _, _] rfl (by kernel_rfl) (by kernel_rfl) ?_
                first | refine VX.meek rfl ?_ | refine VX.loadI rfl rfl au_l ?_ | refine VX.loadP rfl rfl rfl au_l ?_ | refine VX.loadP rfl rfl b1 rfl ?_ | refine VX.loadP rfl rfl b1 au_l ?_ | refine VX.loadP rfl rfl bn rfl ?_ | refine VX.loadP rfl rfl bn au_l ?_
                refine VX.meek rfl ?_
                first | refine VX.idxI rfl rfl rfl rfl rfl rfl (by omega) ?_ | refine VX.idxO0 rfl rfl rfl rfl rfl rfl rfl (by omega) ?_ | refine VX.idxO0 rfl rfl rfl rfl rfl rfl au_z (by omega) ?_ | refine VX.idxO rfl rfl rfl rfl rfl rfl rfl (by omega) ?_ | refine VX.idxI rfl rfl rfl rfl rfl au_z (by omega) ?_ | refine VX.idxO rfl rfl rfl rfl rfl rfl au_z (by omega) ?_ | refine VX.meek rfl ?_
                refine VX.meek rfl ?_
                first | refine VX.meek rfl ?_ | refine VX.loadI rfl rfl au_l ?_ | refine VX.loadP rfl rfl rfl au_l ?_ | refine VX.loadP rfl rfl b1 rfl ?_ | refine VX.loadP rfl rfl b1 au_l ?_ | refine VX.loadP rfl rfl bn rfl ?_ | refine VX.loadP rfl rfl bn au_l ?_
                first | refine VX.meek rfl ?_ | refine VX.loadI rfl rfl au_l ?_ | refine VX.loadP rfl rfl rfl au_l ?_ | refine VX.loadP rfl rfl b1 rfl ?_ | refine VX.loadP rfl rfl b1 au_l ?_ | refine VX.loadP rfl rfl bn rfl ?_ | refine VX.loadP rfl rfl bn au_l ?_
                first | refine VX.meek rfl ?_ | refine VX.loadI rfl rfl au_l ?_ | refine VX.loadP rfl rfl rfl au_l ?_ | refine VX.loadP rfl rfl b1 rfl ?_ | refine VX.loadP rfl rfl b1 au_l ?_ | refine VX.loadP rfl rfl bn rfl ?_ | refine VX.loadP rfl rfl bn au_l ?_
                first | refine VX.sub rfl rfl (by omega) ?_ | refine VX.meek rfl ?_
                first | refine VX.add rfl rfl (by omega) ?_ | refine VX.meek rfl ?_
                first | refine VX.idxI rfl rfl rfl rfl rfl rfl (by omega) ?_ | refine VX.idxO0 rfl rfl rfl rfl rfl rfl rfl (by omega) ?_ | refine VX.idxO0 rfl rfl rfl rfl rfl rfl au_z (by omega) ?_ | refine VX.idxO rfl rfl rfl rfl rfl rfl rfl (by omega) ?_ | refine VX.idxI rfl rfl rfl rfl rfl au_z (by omega) ?_ | refine VX.idxO rfl rfl rfl rfl rfl rfl au_z (by omega) ?_ | refine VX.meek rfl ?_
                refine VX.meek rfl ?_
                refine VX.nil ?_
                refine VX.store rfl rfl rfl rfl rfl au_sR rfl ?_
                refine VX.nil ?_
                refine VC.regN tab_ok [] rfl ?_
                refine VX.meek rfl ?_
                first | refine VX.add rfl rfl (by omega) ?_ | refine VX.meek rfl ?_
                refine VX.meek rfl ?_
                refine VX.nil ?_
                refine ⟨j + 1, m.set j { m[j]! with H := m[j]!.H + ((ysOf all)[i + 1]! - (ysOf all)[i]!) }, by (try dsimp only); omega, ?_, (by refine ⟨[some 0, some 1, some 2, some 3], rfl, by first | trivial | decide, by first | rfl | (simp only [noO, Bool.and_true, Bool.and_eq_true]; first | assumption | (refine ⟨?_, ?_⟩ <;> assumption)) | (simp only [noO, *, Bool.and_true, Bool.true_and, Bool.and_self]; done), ?_, ?_⟩ <;> (repeat' first | exact trivial | exact CvB_n | exact CvB_d | exact CvB_o rfl | refine CvE_app ?_ ?_ | refine CvE_cons rfl ?_ ?_ | refine CvH_cons ?_ ?_ | refine CvB_c rfl ?_ | fail) <;> first | exact au_v | (first | exact CvL.cons (Cv.slc rfl (.inl rfl)) CvL.nil | exact CvL.eq (encL_putA cR (getE hjm) (Nat.le_of_ble_eq_true rfl) rfl) (pureL_append (encL_pure cR _) g1) | exact CvL.pure (pureL_append (encL_pure cR _) htl2)))⟩
                exact hH.next hj
              · (try simp only [au_std] at hc6); obtain ⟨hje, hme⟩ := hH.done (by omega); have hml2 : out.length = (out.take above ++ (out.drop above).map (fun r : Rect => { r with H := r.H + ((ysOf all)[i + 1]! - (ysOf all)[i]!) })).length := (by simp only [List.length_append, List.length_take, List.length_map, List.length_drop]; omega); have hm2 : encL cR m ++ tlb = encL cR (out.take above ++ (out.drop above).map (fun r : Rect => { r with H := r.H + ((ysOf all)[i + 1]! - (ysOf all)[i]!) })) ++ (encL cR (newR (ysOf all)[i]! (ysOf all)[i + 1]! rw') ++ tlb) := (by rw [hme, encL_append, List.append_assoc])
                refine VC.exit ?_
                refine VC.regN tab_ok [] rfl ?_
                first | refine VX.meek rfl ?_ | refine VX.loadI rfl rfl au_l ?_ | refine VX.loadP rfl rfl rfl au_l ?_ | refine VX.loadP rfl rfl b1 rfl ?_ | refine VX.loadP rfl rfl b1 au_l ?_ | refine VX.loadP rfl rfl bn rfl ?_ | refine VX.loadP rfl rfl bn au_l ?_
                refine VX.meek rfl ?_
                first | refine VX.slcO0 rfl rfl rfl rfl rfl rfl (by first | rfl | exact (Int.toNat_of_nonneg (by omega)).symm) (by omega) ?_ | refine VX.slcI0 rfl rfl rfl rfl rfl (by first | rfl | exact (Int.toNat_of_nonneg (by omega)).symm) (by omega) ?_ | refine VX.meek rfl ?_
                refine VX.store rfl rfl rfl rfl rfl au_sR rfl ?_
                refine VX.nil ?_
                refine VC.regN tab_ok [] rfl ?_
                refine VX.meek rfl ?_
                first | refine VX.add rfl rfl (by omega) ?_ | refine VX.meek rfl ?_
                refine VX.meek rfl ?_
                refine VX.nil ?_
                refine ⟨i + 1, (out.take above ++ (out.drop above).map (fun r : Rect => { r with H := r.H + ((ysOf all)[i + 1]! - (ysOf all)[i]!) })), above, nx, rw', (encL cR (newR (ysOf all)[i]! (ysOf all)[i + 1]! rw') ++ tlb), tl2, by (try dsimp only); omega, ?_, (by refine ⟨[some 0, some 1, some 2, some 3], rfl, by first | trivial | decide, by first | rfl | (simp only [noO, Bool.and_true, Bool.and_eq_true]; first | assumption | (refine ⟨?_, ?_⟩ <;> assumption)) | (simp only [noO, *, Bool.and_true, Bool.true_and, Bool.and_self]; done), ?_, ?_⟩ <;> (repeat' first | exact trivial | exact CvB_n | exact CvB_d | exact CvB_o rfl | refine CvE_app ?_ ?_ | refine CvE_cons rfl ?_ ?_ | refine CvH_cons ?_ ?_ | refine CvB_c rfl ?_ | fail) <;> first | exact au_v | (first | exact CvL.cons (Cv.slcE rfl hml2 (.inl rfl)) CvL.nil | exact CvL.eq hm2 (pureL_append (encL_pure cR _) (pureL_append (encL_pure cR _) g1)) | exact CvL.pure (pureL_append (encL_pure cR _) htl2)))⟩
                exact ⟨hnxt, by first | exact g1 | exact pureL_append (encL_pure cR _) g1, htl2⟩
            · have hnxt := (OfR.next hO hi1 hr hM3 hstop hsX).2 hc5
              refine VC.regN tab_ok [] rfl ?_
              iterate 2 refine VX.meek rfl ?_
              refine VX.nil ?_
              refine VC.regN tab_ok [] rfl ?_
              refine VX.meek rfl ?_
              first | refine VX.add rfl rfl (by omega) ?_ | refine VX.meek rfl ?_
              refine VX.meek rfl ?_
              refine VX.nil ?_
              refine ⟨i + 1, (out ++ newR (ysOf all)[i]! (ysOf all)[i + 1]! rw'), out.length, nx, rw', tlb, tl2, by (try dsimp only); omega, ?_, (by refine ⟨[some 0, some 1, some 2, some 3], rfl, by first | trivial | decide, by first | rfl | (simp only [noO, Bool.and_true, Bool.and_eq_true]; first | assumption | (refine ⟨?_, ?_⟩ <;> assumption)) | (simp only [noO, *, Bool.and_true, Bool.true_and, Bool.and_self]; done), ?_, ?_⟩ <;> (repeat' first | exact trivial | exact CvB_n | exact CvB_d | exact CvB_o rfl | refine CvE_app ?_ ?_ | refine CvE_cons rfl ?_ ?_ | refine CvH_cons ?_ ?_ | refine CvB_c rfl ?_ | fail) <;> first | exact au_v | (first | exact CvL.cons (Cv.slc rfl (.inl rfl)) CvL.nil | exact CvL.pure (pureL_append (encL_pure cR _) g1) | exact CvL.pure (pureL_append (encL_pure cR _) htl2)))⟩
              exact ⟨hnxt, by first | exact g1 | exact pureL_append (encL_pure cR _) g1, htl2⟩
        · (try simp only [au_std] at hc4); have hsX : sortX rw := (by rw [heq (by omega)]; exact sortX_filter hO.2.2.2.2.2.2.2.2.2.2); have hM3 := hM2; obtain ⟨rw', rfl⟩ : ∃ r, r = rw := ⟨_, rfl⟩; have hrl' : rw'.length = rw'.length := rfl
          refine VC.skip ?_
          refine VC.reg tab_ok [] rfl ?_
          first | refine VX.meek rfl ?_ | refine VX.loadI rfl rfl au_l ?_ | refine VX.loadP rfl rfl rfl au_l ?_ | refine VX.loadP rfl rfl b1 rfl ?_ | refine VX.loadP rfl rfl b1 au_l ?_ | refine VX.loadP rfl rfl bn rfl ?_ | refine VX.loadP rfl rfl bn au_l ?_
          iterate 2 refine VX.meek rfl ?_
          refine VX.nil ?_
          refine VC.seq ?_
          refine VC.reg tab_ok [] rfl ?_
          refine VX.meek rfl ?_
          refine VX.callT rfl rfl (CallT.frame (spans_t rw'.length (encL cR rw' ++ tl2) none) [3] rfl au_ci au_ci ?_)
          rintro _ _ ⟨rfl, rfl⟩
          refine frK au_co au_co ?_
          refine VX.nil ?_
          refine VC.block ?_
          refine VC.range rfl fun L hp ha hb => ?_
          refine (spans1_t (OfJ (recP _ (L.at .ready none) _) out (newR (ysOf all)[i]! (ysOf all)[i + 1]! rw') rw' tl2) 4 3 rw' tl2 none (fun r h => hr r (hM3.2.2.1 r h).1) (by omega) (fun k H h => h.look) (fun k H cs h => h.push cs) ?_ _ ⟨2, tlo, hto, .inl rfl, Nat.le_of_ble_eq_true rfl, Nat.le_of_ble_eq_true rfl, rfl, rfl, by rw [List.take_zero, List.append_nil]; rfl, rfl, rfl⟩).mono ?_
          · intro k H' hJ s hs
            obtain ⟨bo, tlb, g1, g2, g3, g4, g5, g6, g7, g8, g9⟩ := hJ
            refine YieldT.intro (L := L) g9 (by rw [hp]; decide) (by rw [hp]; rfl) ?_
            rw [ha, hb, hp]
            obtain ⟨hT, hkn⟩ := newR_at (y := (ysOf all)[i]!) (e := (ysOf all)[i + 1]!) hs
            have hsb := span_bnd (row := rw') (fun r h => hr r (hM3.2.2.1 r h).1) hsX s (List.mem_of_getElem? hs)
            have hsl := spansF_length rw'; have hnl4 := newR_len (ysOf all)[i]! (ysOf all)[i + 1]! rw'
            have hlk : (out ++ (newR (ysOf all)[i]! (ysOf all)[i + 1]! rw').take k).length = out.length + k := by rw [List.length_append, List.length_take]; omega
            have hlc : (encL cR (out ++ (newR (ysOf all)[i]! (ysOf all)[i + 1]! rw').take k) ++ tlb).length = (out.length + k) * 4 + tlb.length := by rw [List.length_append, encL_len, hlk, cR_sz]
            refine VC.regN tab_ok [] rfl ?_
            refine VX.new rfl rfl ?_
            refine VX.storeE (H2 := H' ++ [.c [I64 s.1, I64 s.2]]) rfl rfl rfl (lookH_new _ _) rfl (Nat.le_of_ble_eq_true rfl) rfl (setH_new _ _ _) ?_
            refine VX.nil ?_
            refine ⟨by rw [blkH_push, if_neg (by omega)]; exact g9, ?_⟩
            have f4 : 4 < (H' ++ [Blk.c [I64 s.1, I64 s.2]]).length := by simp; omega
            have e : ∀ c x, blkH (setH (H' ++ [Blk.c [I64 s.1, I64 s.2]]) 4 x) c = if c = 4 then x else if c = H'.length then Blk.c [I64 s.1, I64 s.2] else blkH H' c := fun c x => by rw [blkH_set _ _ _ _ f4, blkH_push]
            have el : ∀ x, (setH (H' ++ [Blk.c [I64 s.1, I64 s.2]]) 4 x).length = H'.length + 1 := fun x => by rw [setH_length]; simp
            generalize hHB : setH (H' ++ [Blk.c [I64 s.1, I64 s.2]]) 4 _ = HB
            have b0 : blkH HB 0 = .c [NIL] := by rw [← hHB, e, if_neg (by omega), if_neg (by omega)]; exact g5
            have b1 : lookH HB 1 = some [.slc bo 0 (out.length + k) 4 none] := lookH_c.2 (by rw [← hHB, e, if_neg (by omega), if_neg (by omega)]; exact g6)
            have bb : lookH HB bo = some (encL cR (out ++ (newR (ysOf all)[i]! (ysOf all)[i + 1]! rw').take k) ++ tlb) := lookH_c.2 (by rw [← hHB, e, if_neg (by omega), if_neg (by omega)]; exact g7)
            have b3 : blkH HB 3 = .c (encL cR rw' ++ tl2) := by rw [← hHB, e, if_neg (by omega), if_neg (by omega)]; exact g8
            have b4 := (congrArg (fun h => blkH h 4) hHB.symm).trans ((e 4 _).trans (if_pos rfl))
            have bn : lookH HB H'.length = some [I64 s.1, I64 s.2] := lookH_c.2 (by rw [← hHB, e, if_neg (by omega), if_pos rfl])
            have bl : HB.length = H'.length + 1 := by rw [← hHB]; exact el _
            refine VC.block ?_
            refine VC.regN tab_ok [100] rfl ?_
            first | refine VX.meek rfl ?_ | refine VX.loadI rfl rfl au_l ?_ | refine VX.loadP rfl rfl rfl au_l ?_ | refine VX.loadP rfl rfl b1 rfl ?_ | refine VX.loadP rfl rfl b1 au_l ?_ | refine VX.loadP rfl rfl bn rfl ?_ | refine VX.loadP rfl rfl bn au_l ?_
            refine VX.meek rfl ?_
            first | refine VX.meek rfl ?_ | refine VX.loadI rfl rfl au_l ?_ | refine VX.loadP rfl rfl rfl au_l ?_ | refine VX.loadP rfl rfl b1 rfl ?_ | refine VX.loadP rfl rfl b1 au_l ?_ | refine VX.loadP rfl rfl bn rfl ?_ | refine VX.loadP rfl rfl bn au_l ?_
            first | refine VX.meek rfl ?_ | refine VX.loadI rfl rfl au_l ?_ | refine VX.loadP rfl rfl rfl au_l ?_ | refine VX.loadP rfl rfl b1 rfl ?_ | refine VX.loadP rfl rfl b1 au_l ?_ | refine VX.loadP rfl rfl bn rfl ?_ | refine VX.loadP rfl rfl bn au_l ?_
            refine VX.meek rfl ?_
            first | refine VX.meek rfl ?_ | refine VX.loadI rfl rfl au_l ?_ | refine VX.loadP rfl rfl rfl au_l ?_ | refine VX.loadP rfl rfl b1 rfl ?_ | refine VX.loadP rfl rfl b1 au_l ?_ | refine VX.loadP rfl rfl bn rfl ?_ | refine VX.loadP rfl rfl bn au_l ?_
            refine VX.meek rfl ?_
            first | refine VX.meek rfl ?_ | refine VX.loadI rfl rfl au_l ?_ | refine VX.loadP rfl rfl rfl au_l ?_ | refine VX.loadP rfl rfl b1 rfl ?_ | refine VX.loadP rfl rfl b1 au_l ?_ | refine VX.loadP rfl rfl bn rfl ?_ | refine VX.loadP rfl rfl bn au_l ?_
            first | refine VX.sub rfl rfl (by omega) ?_ | refine VX.meek rfl ?_
            first | refine VX.meek rfl ?_ | refine VX.loadI rfl rfl au_l ?_ | refine VX.loadP rfl rfl rfl au_l ?_ | refine VX.loadP rfl rfl b1 rfl ?_ | refine VX.loadP rfl rfl b1 au_l ?_ | refine VX.loadP rfl rfl bn rfl ?_ | refine VX.loadP rfl rfl bn au_l ?_
            first | refine VX.meek rfl ?_ | refine VX.loadI rfl rfl au_l ?_ | refine VX.loadP rfl rfl rfl au_l ?_ | refine VX.loadP rfl rfl b1 rfl ?_ | refine VX.loadP rfl rfl b1 au_l ?_ | refine VX.loadP rfl rfl bn rfl ?_ | refine VX.loadP rfl rfl bn au_l ?_
            first | refine VX.sub rfl rfl (by omega) ?_ | refine VX.meek rfl ?_
            refine VX.meek rfl ?_
            refine VX.newI rfl rfl ?_
            refine VX.append rfl rfl rfl rfl rfl bb rfl rfl (by rw [hlc]; omega) (by dsimp only; omega) (by omega) rfl rfl ?_
            refine VX.storeE (H2 := _) rfl rfl rfl (show lookH _ 1 = some _ from lookH_c.2 (by rw [blkH_push, if_neg (by rw [setH_length]; omega), blkH_set _ _ _ _ (by omega), if_neg (by omega)]; exact lookH_c.1 b1)) rfl (Nat.le_of_ble_eq_true rfl) rfl rfl ?_
            refine VX.nil ?_
            have hcc := app_cells (l := out ++ (newR (ysOf all)[i]! (ysOf all)[i + 1]! rw').take k) (tl := tlb) (n := out.length + k) (xs := [I64 s.1, I64 (ysOf all)[i]!, I64 (s.2 - s.1), I64 ((ysOf all)[i + 1]! - (ysOf all)[i]!)]) (r := ⟨s.1, (ysOf all)[i]!, s.2 - s.1, (ysOf all)[i + 1]! - (ysOf all)[i]!⟩) hlk.symm rfl
            rw [List.append_assoc, ← hT] at hcc
            exact ⟨(OfJ.next (rec0 := OP.any) (tl := []) rfl g2 (by omega) (by omega) b0 b3 b4 hcc rfl).1, rfl, (OfJ.next (tl := []) rfl g2 (by omega) (by omega) b0 b3 b4 hcc rfl).2⟩
          · intro t H' hJ
            obtain ⟨bo, tlb, g1, g2, g3, g4, g5, g6, g7, g8, g9⟩ := hJ
            refine .inl ⟨g9, ?_⟩
            have f4 : 4 < H'.length := by omega
            have e : ∀ c, blkH (setH H' 4 .d) c = if c = 4 then .d else blkH H' c := fun c => blkH_set _ _ _ _ f4
            have hnew : (newR (ysOf all)[i]! (ysOf all)[i + 1]! rw').take (spansF rw').length = newR (ysOf all)[i]! (ysOf all)[i + 1]! rw' := List.take_of_length_le (by rw [newR_len]; exact Nat.le_refl _)
            rw [hnew] at g7
            have hnl : (out ++ newR (ysOf all)[i]! (ysOf all)[i + 1]! rw').length = out.length + (spansF rw').length := by rw [List.length_append, newR_len]
            rw [← hnl] at g6
            have c0 : lookH (setH H' 4 .d) 0 = some [NIL] := lookH_c.2 (by rw [e, if_neg (by omega)]; exact g5)
            have c1 : lookH (setH H' 4 .d) 1 = some [.slc bo 0 (out ++ newR (ysOf all)[i]! (ysOf all)[i + 1]! rw').length 4 none] := lookH_c.2 (by rw [e, if_neg (by omega)]; exact g6)
            have cb : lookH (setH H' 4 .d) bo = some (encL cR (out ++ newR (ysOf all)[i]! (ysOf all)[i + 1]! rw') ++ tlb) := lookH_c.2 (by rw [e, if_neg (by omega)]; exact g7)
            have c3 : lookH (setH H' 4 .d) 3 = some (encL cR rw' ++ tl2) := lookH_c.2 (by rw [e, if_neg (by omega)]; exact g8)
            have hsl := spansF_length rw'
            have hinj := inj4 g2
            refine VC.view [] [.c [NIL], .c [.slc 2 0 (out ++ newR (ysOf all)[i]! (ysOf all)[i + 1]! rw').length 4 none], .c (encL cR (out ++ newR (ysOf all)[i]! (ysOf all)[i + 1]! rw') ++ tlb), .c (encL cR rw' ++ tl2)] [2, 3, 6, 7, 8, 9, 10, 11, 12, 13, 15] rfl ⟨[some 0, some 1, some bo, some 3], hinj, trivial, rfl, ?_, ?_⟩ ?_
            · repeat' first | exact trivial | refine CvE_app ?_ ?_ | refine CvE_cons rfl ?_ ?_ | exact Cv.slc rfl (.inl rfl) | exact Cv.ptr rfl | (refine Cv.pure ?_; first | rfl | (simp only [T.pure, T.pureL, encL_pure, pureL_app, Bool.and_self, *]; done))
            · exact CvH_cons (CvB_c c0 (CvL.pure rfl)) (CvH_cons (CvB_c c1 (CvL.cons (Cv.slc rfl (.inl rfl)) CvL.nil)) (CvH_cons (CvB_c cb (CvL.pure (pureL_append (encL_pure cR _) g1))) (CvH_cons (CvB_c c3 (CvL.pure (pureL_append (encL_pure cR _) htl2))) trivial)))
            refine VC.drw tab_ok [] [_, _, _, _, _, _, _] rfl (by kernel_rfl) (by kernel_rfl) ?_
            first | refine VX.meek rfl ?_ | refine VX.loadI rfl rfl au_l ?_ | refine VX.loadP rfl rfl rfl au_l ?_ | refine VX.loadP rfl rfl b1 rfl ?_ | refine VX.loadP rfl rfl b1 au_l ?_ | refine VX.loadP rfl rfl bn rfl ?_ | refine VX.loadP rfl rfl bn au_l ?_
            iterate 2 refine VX.meek rfl ?_
            refine VX.slcP rfl rfl rfl rfl rfl rfl rfl rfl rfl (by omega) (by rw [hnl]; omega) ?_
            first | refine VX.meek rfl ?_ | refine VX.loadI rfl rfl au_l ?_ | refine VX.loadP rfl rfl rfl au_l ?_ | refine VX.loadP rfl rfl b1 rfl ?_ | refine VX.loadP rfl rfl b1 au_l ?_ | refine VX.loadP rfl rfl bn rfl ?_ | refine VX.loadP rfl rfl bn au_l ?_
            refine VX.meek rfl ?_
            refine VX.slcP rfl rfl rfl rfl rfl rfl rfl rfl rfl (by rw [hnl]; omega) (Nat.le_refl _) ?_
            refine VX.nil ?_
            refine VX.callB rfl rfl (alike_p (out.drop above) (newR (ysOf all)[i]! (ysOf all)[i + 1]! rw') (fun r h => (hO.2.2.2.2.2.2.1 r (List.mem_of_mem_drop h)).1) (by rw [List.length_drop]; omega)) rfl (CvL.cons (Cv.pcT (xs := encL cR (out.take above)) (ys := encL cR (newR (ysOf all)[i]! (ysOf all)[i + 1]! rw') ++ tlb) ⟨rfl, by simp⟩ (by rw [← encL_append, List.take_append_drop, encL_append, List.append_assoc]) (by rw [encL_len, cR_sz, List.length_take, Nat.min_eq_left hab]) (by rw [encL_len, cR_sz]) (by rw [List.length_drop]) hab (by rw [hnl]; omega) (encL_pure cR _)) (CvL.cons (Cv.pcT (xs := encL cR out) (ys := tlb) ⟨rfl, by simp⟩ (by rw [encL_append]) (by rw [encL_len, cR_sz]) (by rw [encL_len, cR_sz]) (by rw [hnl, newR_len]; omega) (by rw [hnl]; omega) (Nat.le_refl _) (encL_pure cR _)) CvL.nil)) ?_
            refine VX.nil ?_
            refine VC.cond rfl (fun hc5 => ?_) (fun hc5 => ?_)
            · have hnxt := (OfR.next hO hi1 hr hM3 hstop hsX).1 hc5
              refine VC.seq ?_
              refine VC.reg tab_ok [] rfl ?_
              iterate 2 refine VX.meek rfl ?_
              refine VX.nil ?_
              refine VC.block ?_
              refine VC.loopS2 (σ1 := Nat) (σ2 := List Rect) (fun j _ => out.length - j) (fun j m => HghR out (newR (ysOf all)[i]! (ysOf all)[i + 1]! rw') above ((ysOf all)[i + 1]! - (ysOf all)[i]!) j m) (fun j _ => [(17, I64 j)]) (fun _ m => [.c [NIL], .c [.slc 2 0 (out ++ newR (ysOf all)[i]! (ysOf all)[i + 1]! rw').length 4 none], .c (encL cR m ++ tlb), .c (encL cR rw' ++ tl2)]) [2, 3, 6, 7, 8, 9, 10, 11, 12, 13, 15] rfl (above) ((out ++ newR (ysOf all)[i]! (ysOf all)[i + 1]! rw')) ?_ ?_ ?_
              · refine ⟨[some 0, some 1, some 2, some 3], rfl, by first | trivial | decide, by first | rfl | (simp only [noO, Bool.and_true, Bool.and_eq_true]; first | assumption | (refine ⟨?_, ?_⟩ <;> assumption)) | (simp only [noO, *, Bool.and_true, Bool.true_and, Bool.and_self]; done), ?_, ?_⟩ <;> (repeat' first | exact trivial | exact CvB_n | exact CvB_d | exact CvB_o rfl | refine CvE_app ?_ ?_ | refine CvE_cons rfl ?_ ?_ | refine CvH_cons ?_ ?_ | refine CvB_c rfl ?_ | fail) <;> first | exact au_v | (first | exact CvL.cons (Cv.slc rfl (.inl rfl)) CvL.nil | exact CvL.pure (pureL_append (encL_pure cR _) (by assumption)))
              · exact HghR.start _ _ _ _ hab
              rintro j m hH; have hml := hH.len
              refine VC.seq ?_
              refine VC.reg tab_ok [] rfl ?_
              iterate 3 refine VX.meek rfl ?_
              refine VX.nil ?_
              refine VC.cond rfl (fun hc6 => ?_) (fun hc6 => ?_)
              · (try simp only [au_std] at hc6); have hj : j < out.length := (by omega); have hmj := hH.at hj; have hrj := (hO.2.2.2.2.2.2.1 out[j]! (List.mem_iff_getElem?.2 ⟨j, getE hj⟩)).1; rw [← hmj] at hrj; unfold rok at hrj; have hjm : j < m.length := (by omega)
                refine VC.skip ?_
                refine VC.seq ?_
                refine VC.block ?_
                refine VC.drwN tab_ok [] [_, _, _, _, _, _, _, _, _, _, _] rfl (by kernel_rfl) (by kernel_rfl) ?_
                first | refine VX.meek rfl ?_ | refine VX.loadI rfl rfl au_l ?_ | refine VX.loadP rfl rfl rfl au_l ?_ | refine VX.loadP rfl rfl b1 rfl ?_ | refine VX.loadP rfl rfl b1 au_l ?_ | refine VX.loadP rfl rfl bn rfl ?_ | refine VX.loadP rfl rfl bn au_l ?_
                refine VX.meek rfl ?_
                first | refine VX.idxI rfl rfl rfl rfl rfl rfl (by omega) ?_ | refine VX.idxO0 rfl rfl rfl rfl rfl rfl rfl (by omega) ?_ | refine VX.idxO0 rfl rfl rfl rfl rfl rfl au_z (by omega) ?_ | refine VX.idxO rfl rfl rfl rfl rfl rfl rfl (by omega) ?_ | refine VX.idxI rfl rfl rfl rfl rfl au_z (by omega) ?_ | refine VX.idxO rfl rfl rfl rfl rfl rfl au_z (by omega) ?_ | refine VX.meek rfl ?_
                refine VX.meek rfl ?_
                first | refine VX.meek rfl ?_ | refine VX.loadI rfl rfl au_l ?_ | refine VX.loadP rfl rfl rfl au_l ?_ | refine VX.loadP rfl rfl b1 rfl ?_ | refine VX.loadP rfl rfl b1 au_l ?_ | refine VX.loadP rfl rfl bn rfl ?_ | refine VX.loadP rfl rfl bn au_l ?_
                first | refine VX.meek rfl ?_ | refine VX.loadI rfl rfl au_l ?_ | refine VX.loadP rfl rfl rfl au_l ?_ | refine VX.loadP rfl rfl b1 rfl ?_ | refine VX.loadP rfl rfl b1 au_l ?_ | refine VX.loadP rfl rfl bn rfl ?_ | refine VX.loadP rfl rfl bn au_l ?_
                first | refine VX.meek rfl ?_ | refine VX.loadI rfl rfl au_l ?_ | refine VX.loadP rfl rfl rfl au_l ?_ | refine VX.loadP rfl rfl b1 rfl ?_ | refine VX.loadP rfl rfl b1 au_l ?_ | refine VX.loadP rfl rfl bn rfl ?_ | refine VX.loadP rfl rfl bn au_l ?_
                first | refine VX.sub rfl rfl (by omega) ?_ | refine VX.meek rfl ?_
                first | refine VX.add rfl rfl (by omega) ?_ | refine VX.meek rfl ?_
                first | refine VX.idxI rfl rfl rfl rfl rfl rfl (by omega) ?_ | refine VX.idxO0 rfl rfl rfl rfl rfl rfl rfl (by omega) ?_ | refine VX.idxO0 rfl rfl rfl rfl rfl rfl au_z (by omega) ?_ | refine VX.idxO rfl rfl rfl rfl rfl rfl rfl (by omega) ?_ | refine VX.idxI rfl rfl rfl rfl rfl au_z (by omega) ?_ | refine VX.idxO rfl rfl rfl rfl rfl rfl au_z (by omega) ?_ | refine VX.meek rfl ?_
                refine VX.meek rfl ?_
                refine VX.nil ?_
                refine VX.store rfl rfl rfl rfl rfl au_sR rfl ?_
                refine VX.nil ?_
                refine VC.regN tab_ok [] rfl ?_
                refine VX.meek rfl ?_
                first | refine VX.add rfl rfl (by omega) ?_ | refine VX.meek rfl ?_
                refine VX.meek rfl ?_
                refine VX.nil ?_
                refine ⟨j + 1, m.set j { m[j]! with H := m[j]!.H + ((ysOf all)[i + 1]! - (ysOf all)[i]!) }, by (try dsimp only); omega, ?_, (by refine ⟨[some 0, some 1, some 2, some 3], rfl, by first | trivial | decide, by first | rfl | (simp only [noO, Bool.and_true, Bool.and_eq_true]; first | assumption | (refine ⟨?_, ?_⟩ <;> assumption)) | (simp only [noO, *, Bool.and_true, Bool.true_and, Bool.and_self]; done), ?_, ?_⟩ <;> (repeat' first | exact trivial | exact CvB_n | exact CvB_d | exact CvB_o rfl | refine CvE_app ?_ ?_ | refine CvE_cons rfl ?_ ?_ | refine CvH_cons ?_ ?_ | refine CvB_c rfl ?_ | fail) <;> first | exact au_v | (first | exact CvL.cons (Cv.slc rfl (.inl rfl)) CvL.nil | exact CvL.eq (encL_putA cR (getE hjm) (Nat.le_of_ble_eq_true rfl) rfl) (pureL_append (encL_pure cR _) g1) | exact CvL.pure (pureL_append (encL_pure cR _) htl2)))⟩
                exact hH.next hj
              · (try simp only [au_std] at hc6); obtain ⟨hje, hme⟩ := hH.done (by omega); have hml2 : out.length = (out.take above ++ (out.drop above).map (fun r : Rect => { r with H := r.H + ((ysOf all)[i + 1]! - (ysOf all)[i]!) })).length := (by simp only [List.length_append, List.length_take, List.length_map, List.length_drop]; omega); have hm2 : encL cR m ++ tlb = encL cR (out.take above ++ (out.drop above).map (fun r : Rect => { r with H := r.H + ((ysOf all)[i + 1]! - (ysOf all)[i]!) })) ++ (encL cR (newR (ysOf all)[i]! (ysOf all)[i + 1]! rw') ++ tlb) := (by rw [hme, encL_append, List.append_assoc])
                refine VC.exit ?_
                refine VC.regN tab_ok [] rfl ?_
                first | refine VX.meek rfl ?_ | refine VX.loadI rfl rfl au_l ?_ | refine VX.loadP rfl rfl rfl au_l ?_ | refine VX.loadP rfl rfl b1 rfl ?_ | refine VX.loadP rfl rfl b1 au_l ?_ | refine VX.loadP rfl rfl bn rfl ?_ | refine VX.loadP rfl rfl bn au_l ?_
                refine VX.meek rfl ?_
                first | refine VX.slcO0 rfl rfl rfl rfl rfl rfl (by first | rfl | exact (Int.toNat_of_nonneg (by omega)).symm) (by omega) ?_ | refine VX.slcI0 rfl rfl rfl rfl rfl (by first | rfl | exact (Int.toNat_of_nonneg (by omega)).symm) (by omega) ?_ | refine VX.meek rfl ?_
                refine VX.store rfl rfl rfl rfl rfl au_sR rfl ?_
                refine VX.nil ?_
                refine VC.regN tab_ok [] rfl ?_
                refine VX.meek rfl ?_
                first | refine VX.add rfl rfl (by omega) ?_ | refine VX.meek rfl ?_
                refine VX.meek rfl ?_
                refine VX.nil ?_
                refine ⟨i + 1, (out.take above ++ (out.drop above).map (fun r : Rect => { r with H := r.H + ((ysOf all)[i + 1]! - (ysOf all)[i]!) })), above, nx, rw', (encL cR (newR (ysOf all)[i]! (ysOf all)[i + 1]! rw') ++ tlb), tl2, by (try dsimp only); omega, ?_, (by refine ⟨[some 0, some 1, some 2, some 3], rfl, by first | trivial | decide, by first | rfl | (simp only [noO, Bool.and_true, Bool.and_eq_true]; first | assumption | (refine ⟨?_, ?_⟩ <;> assumption)) | (simp only [noO, *, Bool.and_true, Bool.true_and, Bool.and_self]; done), ?_, ?_⟩ <;> (repeat' first | exact trivial | exact CvB_n | exact CvB_d | exact CvB_o rfl | refine CvE_app ?_ ?_ | refine CvE_cons rfl ?_ ?_ | refine CvH_cons ?_ ?_ | refine CvB_c rfl ?_ | fail) <;> first | exact au_v | (first | exact CvL.cons (Cv.slcE rfl hml2 (.inl rfl)) CvL.nil | exact CvL.eq hm2 (pureL_append (encL_pure cR _) (pureL_append (encL_pure cR _) g1)) | exact CvL.pure (pureL_append (encL_pure cR _) htl2)))⟩
                exact ⟨hnxt, by first | exact g1 | exact pureL_append (encL_pure cR _) g1, htl2⟩
            · have hnxt := (OfR.next hO hi1 hr hM3 hstop hsX).2 hc5
              refine VC.regN tab_ok [] rfl ?_
              iterate 2 refine VX.meek rfl ?_
              refine VX.nil ?_
              refine VC.regN tab_ok [] rfl ?_
              refine VX.meek rfl ?_
              first | refine VX.add rfl rfl (by omega) ?_ | refine VX.meek rfl ?_
              refine VX.meek rfl ?_
              refine VX.nil ?_
              refine ⟨i + 1, (out ++ newR (ysOf all)[i]! (ysOf all)[i + 1]! rw'), out.length, nx, rw', tlb, tl2, by (try dsimp only); omega, ?_, (by refine ⟨[some 0, some 1, some 2, some 3], rfl, by first | trivial | decide, by first | rfl | (simp only [noO, Bool.and_true, Bool.and_eq_true]; first | assumption | (refine ⟨?_, ?_⟩ <;> assumption)) | (simp only [noO, *, Bool.and_true, Bool.true_and, Bool.and_self]; done), ?_, ?_⟩ <;> (repeat' first | exact trivial | exact CvB_n | exact CvB_d | exact CvB_o rfl | refine CvE_app ?_ ?_ | refine CvE_cons rfl ?_ ?_ | refine CvH_cons ?_ ?_ | refine CvB_c rfl ?_ | fail) <;> first | exact au_v | (first | exact CvL.cons (Cv.slc rfl (.inl rfl)) CvL.nil | exact CvL.pure (pureL_append (encL_pure cR _) g1) | exact CvL.pure (pureL_append (encL_pure cR _) htl2)))⟩
              exact ⟨hnxt, by first | exact g1 | exact pureL_append (encL_pure cR _) g1, htl2⟩
    · (try simp only [au_std] at hc2); have hd := hO.done (by omega); have hb : out = bandOf l := bandOf_eq hd.1 (fun x z => (hd.2 x z).trans (hin x z))
      refine VC.exit ?_
      refine VC.reg tab_ok [] rfl ?_
      first | refine VX.meek rfl ?_ | refine VX.loadI rfl rfl au_l ?_ | refine VX.loadP rfl rfl rfl au_l ?_ | refine VX.loadP rfl rfl b1 rfl ?_ | refine VX.loadP rfl rfl b1 au_l ?_ | refine VX.loadP rfl rfl bn rfl ?_ | refine VX.loadP rfl rfl bn au_l ?_
      refine VX.callT rfl rfl (CallT.frame (clip_t out.length (encL cR out ++ tlo)) [2] rfl au_ci au_ci ?_)
      rintro _ _ ⟨rfl, rfl⟩
      refine frK au_co au_co ?_
      refine VX.meek rfl ?_
      refine VX.store rfl rfl rfl rfl rfl au_sR rfl ?_
      refine VX.nil ?_
      refine VC.ret ?_
      refine ⟨trivial, _, rfl, ?_⟩; rw [← hb]; exact Cv.agg (CvL.cons (Cv.fslcA ⟨rfl, by simp⟩ (CvL.pure (encL_pure cR _))) CvL.nil)
end
section
open Go.RowKit Go.Sort
set_option maxRecDepth 10000
theorem CallP.empty [Dr] {P : Program} {f : FuncId} {r : T} (h : ∀ A k, CallP P f [.v (.slice A 0 k)] r) : CallP P f [.islc [] 0 none] r :=
  ⟨rfl, (h none 0).2.1, (h none 0).2.2.1, fun X0 M us hS hr => by
    obtain ⟨u, q, rfl, ⟨A, k, rfl, h2⟩, hq⟩ := hr
    exact (h A k).2.2.2 X0 M _ hS ⟨_, q, rfl, rfl, hq⟩⟩
theorem clone_p [Dr] (l : List Rect) (hl : l.length ≤ 1048576) : CallP Try.prog 68 [.islc (encL cR l) l.length none] (.islc (encL cR l) l.length none) := by
  cases l with
  | nil =>
    refine CallP.empty fun A k => ?_
    cases A with
    | none =>
      refine CallP.intro2 au_pu au_pu ?_
      refine CallT.intro tab_ok Try.func68 rfl (by kernel_rfl) (Nat.le_of_ble_eq_true rfl) ?_
      refine VC.reg tab_ok [] rfl ?_
      refine VX.meek rfl ?_
      refine VX.nil ?_
      refine VC.seq ?_
      refine VC.reg tab_ok [] rfl ?_
      iterate 2 refine VX.meek rfl ?_
      refine VX.nil ?_
      refine VC.condT rfl ?_
      refine VC.reg tab_ok [] rfl ?_
      refine VX.meek rfl ?_
      refine VX.nil ?_
      refine VC.ret ?_
      exact ⟨trivial, _, rfl, Cv.nil _ (.inl rfl)⟩
    | some a =>
      refine CallP.intro2 au_pu au_pu ?_
      refine CallT.intro tab_ok Try.func68 rfl (by kernel_rfl) (Nat.le_of_ble_eq_true rfl) ?_
      refine VC.reg tab_ok [] rfl ?_
      refine VX.meek rfl ?_
      refine VX.nil ?_
      refine VC.seq ?_
      refine VC.reg tab_ok [] rfl ?_
      iterate 2 refine VX.meek rfl ?_
      refine VX.nil ?_
      refine VC.condF rfl ?_
      refine VC.skip ?_
      refine VC.reg tab_ok [] rfl ?_
      refine VX.new rfl rfl ?_
      refine VX.meek rfl ?_
      first | refine VX.appendNil rfl rfl rfl rfl rfl rfl au_sR au_sR au_sR ?_ | refine VX.append rfl rfl rfl rfl rfl rfl rfl rfl au_sR au_sR au_sR au_sR au_sR ?_
      refine VX.meek rfl ?_
      refine VX.nil ?_
      refine VC.ret ?_
      exact ⟨trivial, _, rfl, Cv.fslc0 ⟨rfl, by simp⟩ CvL.nil⟩
  | cons r l =>
    simp only [List.length_cons] at hl
    refine CallP.intro2 au_pu au_pu ?_
    refine CallT.intro tab_ok Try.func68 rfl (by kernel_rfl) (Nat.le_of_ble_eq_true rfl) ?_
    refine VC.reg tab_ok [] rfl ?_
    refine VX.meek rfl ?_
    refine VX.nil ?_
    refine VC.seq ?_
    refine VC.reg tab_ok [] rfl ?_
    iterate 2 refine VX.meek rfl ?_
    refine VX.nil ?_
    refine VC.condF rfl ?_
    refine VC.skip ?_
    refine VC.reg tab_ok [] rfl ?_
    refine VX.new rfl rfl ?_
    refine VX.meek rfl ?_
    refine VX.append rfl rfl rfl rfl rfl rfl (src_isl cR (l := r :: l) rfl rfl rfl) rfl (Nat.le_refl _) (by dsimp only [List.length_cons]; omega) (by simp only [List.length_cons]; omega) (by rw [encL_len]; rfl) (encL_cb cR _) ?_
    refine VX.meek rfl ?_
    refine VX.nil ?_
    refine VC.ret ?_
    refine ⟨trivial, _, rfl, ?_⟩; show Cv _ (.slc _ 0 (0 + (r :: l).length) 4 none) _; rw [Nat.zero_add]; exact Cv.fslc0 ⟨rfl, by simp⟩ (CvL.pure (encL_pure cR _))
theorem rects_p [Dr] (l : List Rect) (hl : l.length ≤ 1048576) : CallP Try.prog 56 [regT l] (.islc (encL cR l) l.length none) := by
  refine CallP.intro2 au_pu au_pu ?_
  refine CallT.intro tab_ok Try.func56 rfl (by kernel_rfl) (Nat.le_of_ble_eq_true rfl) ?_
  refine VC.reg tab_ok [1] rfl ?_
  refine VX.newI rfl rfl ?_
  refine VX.meek rfl ?_
  refine VX.nil ?_
  refine VC.reg tab_ok [] rfl ?_
  refine VX.meek rfl ?_
  first | refine VX.meek rfl ?_ | refine VX.loadI rfl rfl au_l ?_ | refine VX.loadP rfl rfl rfl au_l ?_
  refine VX.callP0 rfl rfl rfl (clone_p l hl) ?_
  refine VX.meek rfl ?_
  refine VX.nil ?_
  refine VC.ret ?_
  exact ⟨trivial, _, rfl, Cv.pure (encL_pure cR _)⟩
end
section
open Go.RowKit Go.Sort
set_option maxRecDepth 10000
set_option maxHeartbeats 4000000
def endsF (f : Rect → Int × Int) (l : List Rect) : List Int := l.flatMap fun r => [(f r).1, (f r).1 + (f r).2]
def cutsOf (f : Rect → Int × Int) (l : List Rect) : List Int := comp (sortI (endsF f l))
end
section
open Go.RowKit Go.Sort
set_option maxRecDepth 10000
set_option maxHeartbeats 4000000
def rowD (y : Int) (l : List Rect) : List Rect := l.dropWhile fun r => decide (r.Y + r.H ≤ y)
def rowT (y : Int) (l : List Rect) : List Rect := (rowD y l).takeWhile fun r => decide (r.Y ≤ y)
end
section
theorem cuts_mem {f : Rect → Int × Int} {l : List Rect} {y : Int} : y ∈ cutsOf f l ↔ ∃ r ∈ l, y = (f r).1 ∨ y = (f r).1 + (f r).2 := by
  unfold cutsOf
  rw [comp_mem]; unfold sortI; rw [List.mem_mergeSort]
  simp [endsF]
theorem cuts_lt (f : Rect → Int × Int) (l : List Rect) {i j : Nat} (h : i < j) (hj : j < (cutsOf f l).length) : (cutsOf f l)[i]! < (cutsOf f l)[j]! := by
  have := comp_lt (sortI_le (endsF f l))
  rw [List.pairwise_iff_getElem] at this
  have k := this i j (by unfold cutsOf at hj; omega) hj h
  rw [getElem!_pos (cutsOf f l) i (by omega), getElem!_pos (cutsOf f l) j hj]; exact k
theorem rect_band {b : Band} {r : Rect} (h : r ∈ b.rects) : r.Y = b.y ∧ r.Y + r.H = b.e := by
  unfold Band.rects at h
  obtain ⟨p, _, rfl⟩ := List.mem_map.1 h
  exact ⟨rfl, by show b.y + (b.e - b.y) = b.e; omega⟩
theorem bands_from : ∀ {bs : List Band} {b : Band}, bandsOk (b :: bs) → ∀ c ∈ bs, b.e ≤ c.y
  | [], _, _, c, h => by cases h
  | d :: bs, b, ⟨h1, h2, h3⟩, c, h => by
    rcases List.mem_cons.1 h with rfl | h
    · exact h2.1
    · have := bands_from h3 c h
      have := h3.1.1
      have := h2.1
      omega
theorem mem_rects {bs : List Band} {r : Rect} : r ∈ rectsOf bs ↔ ∃ b ∈ bs, r ∈ b.rects := by unfold rectsOf; rw [List.mem_flatMap]
theorem dw_all {p : Rect → Bool} {a b : List Rect} (h : ∀ r ∈ a, p r = true) : (a ++ b).dropWhile p = b.dropWhile p := by
  induction a with
  | nil => rfl
  | cons r a ih => rw [List.cons_append, List.dropWhile_cons, if_pos (h r List.mem_cons_self), ih fun r hr => h r (List.mem_cons_of_mem _ hr)]
theorem tw_all {p : Rect → Bool} {a b : List Rect} (h : ∀ r ∈ a, p r = true) : (a ++ b).takeWhile p = a ++ b.takeWhile p := by
  induction a with
  | nil => rfl
  | cons r a ih => rw [List.cons_append, List.takeWhile_cons, if_pos (h r List.mem_cons_self), ih fun r hr => h r (List.mem_cons_of_mem _ hr), List.cons_append]
theorem dw_no {p : Rect → Bool} {a : List Rect} (h : ∀ r ∈ a, p r = false) : a.dropWhile p = a := by
  cases a with
  | nil => rfl
  | cons r a => rw [List.dropWhile_cons, if_neg (by rw [h r List.mem_cons_self]; simp)]
theorem tw_no {p : Rect → Bool} {a : List Rect} (h : ∀ r ∈ a, p r = false) : a.takeWhile p = [] := by
  cases a with
  | nil => rfl
  | cons r a => rw [List.takeWhile_cons, if_neg (by rw [h r List.mem_cons_self]; simp)]
theorem rowT_bands (y : Int) : ∀ {bs : List Band}, bandsOk bs → (∃ b ∈ bs, b.y ≤ y ∧ y < b.e ∧ rowT y (rectsOf bs) = b.rects ∧ spansOk (-1048577) b.s ∧ ∀ c ∈ bs, c.y ≤ y → y < c.e → c = b) ∨ (rowT y (rectsOf bs) = [] ∧ ∀ b ∈ bs, ¬ (b.y ≤ y ∧ y < b.e))
  | [], _ => .inr ⟨rfl, by simp⟩
  | b :: bs, h => by
    have hf := bands_from h
    have hsplit : rectsOf (b :: bs) = b.rects ++ rectsOf bs := rfl
    have htl : ∀ r ∈ rectsOf bs, ∃ c ∈ bs, r.Y = c.y ∧ r.Y + r.H = c.e := fun r hr => by
      obtain ⟨c, h1, h2⟩ := mem_rects.1 hr; exact ⟨c, h1, rect_band h2⟩
    have hbs : ∀ c ∈ bs, c.y < c.e := by
      have : ∀ {l : List Band}, bandsOk l → ∀ c ∈ l, c.y < c.e := by
        intro l
        induction l with
        | nil => intro _ c hc; cases hc
        | cons d l ih => intro hl c hc; rcases List.mem_cons.1 hc with rfl | hc; exact hl.1.1; exact ih hl.2.2 c hc
      exact this h.2.2
    by_cases he : b.e ≤ y
    · have hd : rowT y (rectsOf (b :: bs)) = rowT y (rectsOf bs) := by
        unfold rowT rowD
        rw [hsplit, dw_all fun r hr => decide_eq_true (by have := rect_band hr; omega)]
      rw [hd]
      rcases rowT_bands y h.2.2 with ⟨c, h1, h2, h3, h4, h5, h6⟩ | ⟨h1, h2⟩
      · refine .inl ⟨c, List.mem_cons_of_mem _ h1, h2, h3, h4, h5, fun d hd h7 h8 => ?_⟩
        rcases List.mem_cons.1 hd with rfl | hd
        · omega
        · exact h6 d hd h7 h8
      · refine .inr ⟨h1, fun c hc => ?_⟩
        rcases List.mem_cons.1 hc with rfl | hc
        · omega
        · exact h2 c hc
    · have hD : rowD y (rectsOf (b :: bs)) = b.rects ++ rectsOf bs := by
        unfold rowD
        rw [hsplit]
        refine dw_no fun r hr => ?_
        rw [decide_eq_false_iff_not]
        rcases List.mem_append.1 hr with hr | hr
        · have := rect_band hr; omega
        · obtain ⟨c, h1, h2, h3⟩ := htl r hr
          have := hf c h1; have := hbs c h1; omega
      have htn : (rectsOf bs).takeWhile (fun r => decide (r.Y ≤ y)) = [] := tw_no fun r hr => by
        rw [decide_eq_false_iff_not]
        obtain ⟨c, h1, h2, h3⟩ := htl r hr
        have := hf c h1; omega
      by_cases hy : b.y ≤ y
      · refine .inl ⟨b, List.mem_cons_self, hy, by omega, ?_, h.1.2.2, fun c hc h7 h8 => ?_⟩
        · unfold rowT
          rw [hD, tw_all fun r hr => decide_eq_true (by have := rect_band hr; omega), htn, List.append_nil]
        · rcases List.mem_cons.1 hc with rfl | hc
          · rfl
          · have := hf c hc; omega
      · refine .inr ⟨?_, fun c hc => ?_⟩
        · unfold rowT
          rw [hD]
          refine tw_no fun r hr => ?_
          rw [decide_eq_false_iff_not]
          rcases List.mem_append.1 hr with hr | hr
          · have := rect_band hr; omega
          · obtain ⟨c, h1, h2, h3⟩ := htl r hr
            have := hf c h1; have := h.1.1; omega
        · rcases List.mem_cons.1 hc with rfl | hc
          · omega
          · have := hf c hc; have := h.1.1; omega
end
section
abbrev fY (r : Rect) : Int × Int := (r.Y, r.H)
def ysJ (a b : List Rect) : List Int := cutsOf fY [a, b].flatten
theorem fl2 (a b : List Rect) : [a, b].flatten = a ++ b := by simp
end
section
theorem bandsOk_mem : ∀ {bs : List Band}, bandsOk bs → ∀ b ∈ bs, bandOk b
  | [], _, b, h => by cases h
  | c :: bs, ⟨h1, h2, h3⟩, b, h => by
    rcases List.mem_cons.1 h with rfl | h
    · exact h1
    · exact bandsOk_mem h3 b h
theorem canon_rok {c : List Rect} (hc : Canon c) (h : ∀ x z, inL c x z → -1048576 ≤ x ∧ x < 1048576 ∧ -1048576 ≤ z ∧ z < 1048576) : ∀ r ∈ c, rok r := by
  obtain ⟨bs, h1, rfl⟩ := hc
  intro r hr
  obtain ⟨b, hb, hrb⟩ := mem_rects.1 hr
  have hbo := bandsOk_mem h1 b hb
  have hrr := hrb
  unfold Band.rects at hrb
  obtain ⟨p, hp, rfl⟩ := List.mem_map.1 hrb
  have hs := spansOk_mem hbo.2.2 p hp
  have hy := hbo.1
  have k1 := h p.1 b.y ⟨_, hr, Int.le_refl _, by show p.1 < p.1 + (p.2 - p.1); omega, Int.le_refl _, by show b.y < b.y + (b.e - b.y); omega⟩
  have k2 := h (p.2 - 1) (b.e - 1) ⟨_, hr, by show p.1 ≤ p.2 - 1; omega, by show p.2 - 1 < p.1 + (p.2 - p.1); omega, by show b.y ≤ b.e - 1; omega, by show b.e - 1 < b.y + (b.e - b.y); omega⟩
  unfold rok
  dsimp only
  omega
theorem inL_bnd {l : List Rect} (h : ∀ r ∈ l, rok r) {x z : Int} (hi : inL l x z) : -1048576 ≤ x ∧ x < 1048576 ∧ -1048576 ≤ z ∧ z < 1048576 := by
  obtain ⟨r, hr, k1, k2, k3, k4⟩ := hi
  have := h r hr; unfold rok at this
  omega
theorem bandOf_rok (l : List Rect) : ∀ r ∈ bandOf l, rok r :=
  canon_rok (bandOf_canon l) fun x z hi => inL_bnd (fun r hr => countsB_rok (List.mem_filter.1 hr).2) ((bandOf_in l x z).1 hi)
theorem canon_nil : Canon [] := ⟨[], trivial, rfl⟩
end
section
def Gr (c : List Rect) (xs ys : List Int) : Prop := (∀ x y, x ∉ xs → (inL c (x - 1) y ↔ inL c x y)) ∧ ∀ x y, y ∉ ys → (inL c x (y - 1) ↔ inL c x y)
theorem gr_cons {r : Rect} {l : List Rect} {xs ys : List Int} (h : Gr l xs ys) : Gr (r :: l) (r.X :: (r.X + r.W) :: xs) (r.Y :: (r.Y + r.H) :: ys) := by
  constructor
  · intro x y hx
    simp only [List.mem_cons, not_or] at hx
    rw [inL_cons, inL_cons, h.1 x y hx.2.2]
    unfold Rect.has
    have h1 := hx.1
    have h2 := hx.2.1
    constructor
    · rintro (k | k)
      · exact .inl ⟨by omega, by omega, k.2.2⟩
      · exact .inr k
    · rintro (k | k)
      · exact .inl ⟨by omega, by omega, k.2.2⟩
      · exact .inr k
  · intro x y hx
    simp only [List.mem_cons, not_or] at hx
    rw [inL_cons, inL_cons, h.2 x y hx.2.2]
    unfold Rect.has
    have h1 := hx.1
    have h2 := hx.2.1
    constructor
    · rintro (k | k)
      · exact .inl ⟨k.1, k.2.1, by omega, by omega⟩
      · exact .inr k
    · rintro (k | k)
      · exact .inl ⟨k.1, k.2.1, by omega, by omega⟩
      · exact .inr k
theorem gr_list : ∀ l : List Rect, ∃ xs ys, xs.length ≤ 2 * l.length ∧ ys.length ≤ 2 * l.length ∧ Gr l xs ys
  | [] => ⟨[], [], by simp, by simp, fun x y _ => ⟨fun h => absurd h inL_nil, fun h => absurd h inL_nil⟩, fun x y _ => ⟨fun h => absurd h inL_nil, fun h => absurd h inL_nil⟩⟩
  | r :: l => by
    obtain ⟨xs, ys, h1, h2, h3⟩ := gr_list l
    exact ⟨_, _, by simp only [List.length_cons]; omega, by simp only [List.length_cons]; omega, gr_cons h3⟩
theorem spans_ends : ∀ {s : List Span} {lo : Int}, spansOk lo s → ∀ p ∈ s, ¬ inS s (p.1 - 1) ∧ ¬ inS s p.2
  | [], _, _, p, h => by cases h
  | q :: s, lo, ⟨h1, h2, h3⟩, p, h => by
    rcases List.mem_cons.1 h with rfl | h
    · refine ⟨fun k => ?_, fun k => ?_⟩
      · rcases inS_cons.1 k with k | k
        · omega
        · have := spansOk_lo h3 _ k; omega
      · rcases inS_cons.1 k with k | k
        · omega
        · have := spansOk_lo h3 _ k; omega
    · obtain ⟨e1, e2⟩ := spans_ends h3 p h
      have := spansOk_mem h3 p h
      refine ⟨fun k => ?_, fun k => ?_⟩
      · rcases inS_cons.1 k with k | k
        · omega
        · exact e1 k
      · rcases inS_cons.1 k with k | k
        · omega
        · exact e2 k
theorem inB_at : ∀ {bs : List Band}, bandsOk bs → ∀ b ∈ bs, ∀ y, b.y ≤ y → y < b.e → ∀ x, inB bs x y ↔ inS b.s x
  | [], _, b, h, _, _, _, _ => by cases h
  | c :: bs, h, b, hb, y, h1, h2, x => by
    have hf := bands_from h
    rw [inB_cons]
    rcases List.mem_cons.1 hb with rfl | hb
    · constructor
      · rintro (k | ⟨d, hd, k1, k2, k3⟩)
        · exact k.2.2
        · have := hf d hd; omega
      · intro k; exact .inl ⟨h1, h2, k⟩
    · have := hf b hb
      rw [inB_at h.2.2 b hb y h1 h2 x]
      constructor
      · rintro (k | k)
        · omega
        · exact k
      · exact .inr
theorem bands_end : ∀ {bs : List Band}, bandsOk bs → ∀ b ∈ bs, ∀ {s : List Span} {lo : Int}, spansOk lo s → (∀ x, inB bs x b.e ↔ inS s x) → s ≠ b.s
  | [], _, b, h, _, _, _, _ => by cases h
  | c :: bs, h, b, hb, s, lo, hs, hrow => by
    rcases List.mem_cons.1 hb with rfl | hb
    · exact band_end h hs hrow
    · refine bands_end h.2.2 b hb hs fun x => ?_
      rw [← hrow x, inB_cons]
      have h1 := bands_from h b hb
      have h2 := (bandsOk_mem h.2.2 b hb).1
      constructor
      · exact .inr
      · rintro (k | k)
        · omega
        · exact k
theorem canon_lines {bs : List Band} (hb : bandsOk bs) {xs ys : List Int} (hg : Gr (rectsOf bs) xs ys) : ∀ b ∈ bs, b.y ∈ ys ∧ b.e ∈ ys ∧ ∀ p ∈ b.s, p.1 ∈ xs ∧ p.2 ∈ xs := by
  intro b hm
  have hbo := bandsOk_mem hb b hm
  obtain ⟨x0, hx0⟩ := spans_some hbo
  refine ⟨?_, ?_, fun p hp => ⟨?_, ?_⟩⟩
  · refine Classical.byContradiction fun hn => ?_
    have h := fun x => hg.2 x b.y hn
    simp only [inL_rectsOf] at h
    obtain ⟨c, hc, k1, k2, k3⟩ := (h x0).2 ((inB_at hb b hm b.y (Int.le_refl _) hbo.1 x0).2 hx0)
    have hce : c.e = b.y := by
      rcases Int.lt_trichotomy c.e b.y with q | q | q
      · omega
      · exact q
      · have e1 := inB_at hb c hc b.y (by omega) q
       
        have e2 := inB_at hb c hc (b.y - 1) k1 k2
        exfalso
        have : ∀ {bs : List Band}, bandsOk bs → ∀ b ∈ bs, ∀ c ∈ bs, c.y ≤ b.y - 1 → b.y < c.e → False := by
          intro bs
          induction bs with
          | nil => intro _ b h; cases h
          | cons d bs ih =>
            intro hh b hb c hc g1 g2
            have hf := bands_from hh
            rcases List.mem_cons.1 hb with rfl | hb'
            · rcases List.mem_cons.1 hc with rfl | hc
              · omega
              · have := hf c hc; have := hh.1.1; omega
            · skip
              rcases List.mem_cons.1 hc with rfl | hc
              · have := hf b hb'; omega
              · exact ih hh.2.2 b hb' c hc g1 g2
        exact this hb b hm c hc k1 q
    have hco := bandsOk_mem hb c hc
    refine bands_end hb c hc hbo.2.2 (fun x => by rw [hce]; exact inB_at hb b hm b.y (Int.le_refl _) hbo.1 x) ?_
    refine spans_uniq hbo.2.2 hco.2.2 fun x => ?_
    rw [← inB_at hb b hm b.y (Int.le_refl _) hbo.1 x, ← h x, inB_at hb c hc (b.y - 1) k1 k2 x]
  · refine Classical.byContradiction fun hn => ?_
    have h := fun x => hg.2 x b.e hn
    simp only [inL_rectsOf] at h
    exact bands_end hb b hm hbo.2.2 (fun x => by rw [← h x]; exact inB_at hb b hm (b.e - 1) (by have := hbo.1; omega) (by omega) x) rfl
  · refine Classical.byContradiction fun hn => ?_
    have h := hg.1 p.1 b.y hn
    simp only [inL_rectsOf, inB_at hb b hm b.y (Int.le_refl _) hbo.1] at h
    exact (spans_ends hbo.2.2 p hp).1 (h.2 ⟨p, hp, Int.le_refl _, (spansOk_mem hbo.2.2 p hp).2⟩)
  · refine Classical.byContradiction fun hn => ?_
    have h := hg.1 p.2 b.y hn
    simp only [inL_rectsOf, inB_at hb b hm b.y (Int.le_refl _) hbo.1] at h
    have := (spansOk_mem hbo.2.2 p hp).2
    exact (spans_ends hbo.2.2 p hp).2 (h.1 ⟨p, hp, by omega, by omega⟩)
theorem rise_len : ∀ (l xs : List Int), l.Pairwise (· < ·) → (∀ v ∈ l, v ∈ xs) → l.length ≤ xs.length
  | [], _, _, _ => by simp
  | v :: t, xs, h, hm => by
    have hv := hm v List.mem_cons_self
    rw [List.pairwise_cons] at h
    have := rise_len t (xs.erase v) h.2 fun u hu => (List.mem_erase_of_ne (by have := h.1 u hu; omega)).2 (hm u (List.mem_cons_of_mem _ hu))
    rw [List.length_erase_of_mem hv] at this
    have := List.length_pos_of_mem hv
    simp only [List.length_cons]; omega
theorem spans_rise : ∀ {s : List Span} {lo : Int}, spansOk lo s → (s.map (·.1)).Pairwise (· < ·)
  | [], _, _ => List.Pairwise.nil
  | p :: s, lo, ⟨h1, h2, h3⟩ => by
    rw [List.map_cons, List.pairwise_cons]
    refine ⟨fun v hv => ?_, spans_rise h3⟩
    obtain ⟨q, hq, rfl⟩ := List.mem_map.1 hv
    have := spansOk_mem h3 q hq
    omega
theorem bands_rise : ∀ {bs : List Band}, bandsOk bs → (bs.map (·.y)).Pairwise (· < ·)
  | [], _ => List.Pairwise.nil
  | b :: bs, h => by
    rw [List.map_cons, List.pairwise_cons]
    refine ⟨fun v hv => ?_, bands_rise h.2.2⟩
    obtain ⟨c, hc, rfl⟩ := List.mem_map.1 hv
    have := bands_from h c hc
    have := h.1.1
    omega
theorem band_len {bs : List Band} (hb : bandsOk bs) {xs ys : List Int} (hg : Gr (rectsOf bs) xs ys) {b : Band} (h : b ∈ bs) : b.rects.length ≤ xs.length := by
  have k := rise_len (b.s.map (·.1)) xs (spans_rise (bandsOk_mem hb b h).2.2) fun v hv => by
    obtain ⟨p, hp, rfl⟩ := List.mem_map.1 hv
    exact ((canon_lines hb hg b h).2.2 p hp).1
  unfold Band.rects
  rw [List.length_map] at k ⊢
  exact k
theorem flat_len : ∀ (bs : List Band) (m : Nat), (∀ b ∈ bs, b.rects.length ≤ m) → (rectsOf bs).length ≤ bs.length * m
  | [], m, _ => by simp [rectsOf]
  | b :: bs, m, h => by
    have h1 := h b List.mem_cons_self
    have h2 := flat_len bs m fun c hc => h c (List.mem_cons_of_mem _ hc)
    rw [show rectsOf (b :: bs) = b.rects ++ rectsOf bs from rfl, List.length_append, List.length_cons, Nat.add_mul]
    omega
theorem canon_len {c : List Rect} (hc : Canon c) {xs ys : List Int} (hg : Gr c xs ys) : c.length ≤ ys.length * xs.length := by
  obtain ⟨bs, hb, rfl⟩ := hc
  have h1 := flat_len bs xs.length fun b h => band_len hb hg h
  have h2 := rise_len (bs.map (·.y)) ys (bands_rise hb) fun v hv => by
    obtain ⟨b, hbm, rfl⟩ := List.mem_map.1 hv
    exact (canon_lines hb hg b hbm).1
  rw [List.length_map] at h2
  exact Nat.le_trans h1 (Nat.mul_le_mul_right _ h2)
theorem rowT_few {c : List Rect} (hc : Canon c) {xs ys : List Int} (hg : Gr c xs ys) (y : Int) : (rowT y c).length ≤ xs.length := by
  obtain ⟨bs, hb, rfl⟩ := hc
  rcases rowT_bands y hb with ⟨b, h1, h2, h3, h4, -⟩ | ⟨h, -⟩
  · rw [h4]; exact band_len hb hg h1
  · rw [h]; simp
theorem canon_y {c : List Rect} (hc : Canon c) {xs ys : List Int} (hg : Gr c xs ys) {r : Rect} (h : r ∈ c) : r.Y ∈ ys ∧ r.Y + r.H ∈ ys := by
  obtain ⟨bs, hb, rfl⟩ := hc
  obtain ⟨b, h1, h2⟩ := mem_rects.1 h
  have := rect_band h2
  have k := canon_lines hb hg b h1
  rw [this.2, this.1]
  exact ⟨k.1, k.2.1⟩
theorem ysJ_few {a b : List Rect} (ha : Canon a) (hb : Canon b) {xs ys xs' ys' : List Int} (hga : Gr a xs ys) (hgb : Gr b xs' ys') : (ysJ a b).length ≤ ys.length + ys'.length := by
  rw [← List.length_append]
  refine rise_len _ _ ?_ fun v hv => ?_
  · rw [List.pairwise_iff_getElem]
    intro i j hi hj hij
    have hj2 : j < (cutsOf fY [a, b].flatten).length := hj
    have := cuts_lt fY [a, b].flatten hij hj2
    rw [getElem!_pos _ i (by omega), getElem!_pos _ j hj2] at this
    exact this
  · unfold ysJ at hv
    rw [fl2] at hv
    obtain ⟨r, hr, hv⟩ := cuts_mem.1 hv
    rcases List.mem_append.1 hr with hr | hr
    · have := canon_y ha hga hr
      refine List.mem_append.2 (.inl ?_)
      rcases hv with rfl | rfl
      · exact this.1
      · exact this.2
    · have := canon_y hb hgb hr
      refine List.mem_append.2 (.inr ?_)
      rcases hv with rfl | rfl
      · exact this.1
      · exact this.2
structure Reg (n : Nat) (c : List Rect) : Prop where
  canon : Canon c
  ok : ∀ r ∈ c, rok r
  few : ∃ xs ys, xs.length ≤ n ∧ ys.length ≤ n ∧ Gr c xs ys
theorem Reg.mono {n m : Nat} {c : List Rect} (h : Reg n c) (k : n ≤ m) : Reg m c := ⟨h.1, h.2, let ⟨xs, ys, h1, h2, h3⟩ := h.3; ⟨xs, ys, by omega, by omega, h3⟩⟩
theorem Reg.len {n : Nat} {c : List Rect} (h : Reg n c) : c.length ≤ n * n := by
  obtain ⟨xs, ys, h1, h2, h3⟩ := h.3
  exact Nat.le_trans (canon_len h.1 h3) (Nat.mul_le_mul h2 h1)
theorem Reg.row {n : Nat} {c : List Rect} (h : Reg n c) (y : Int) : (rowT y c).length ≤ n := by
  obtain ⟨xs, ys, h1, h2, h3⟩ := h.3
  exact Nat.le_trans (rowT_few h.1 h3 y) h1
theorem Reg.ys {n m : Nat} {a b : List Rect} (h : Reg n a) (k : Reg m b) : (ysJ a b).length ≤ n + m := by
  obtain ⟨xs, ys, h1, h2, h3⟩ := h.3
  obtain ⟨xs', ys', k1, k2, k3⟩ := k.3
  have := ysJ_few h.1 k.1 h3 k3
  omega
theorem gr_congr {a b : List Rect} {xs ys : List Int} (h : Gr a xs ys) (k : ∀ x z, inL b x z ↔ inL a x z) : Gr b xs ys := ⟨fun x y hx => by rw [k, k]; exact h.1 x y hx, fun x y hx => by rw [k, k]; exact h.2 x y hx⟩
theorem Reg.of (l : List Rect) : Reg (2 * l.length) (bandOf l) := ⟨bandOf_canon l, bandOf_rok l, by
  obtain ⟨xs, ys, h1, h2, h3⟩ := gr_list (l.filter countsB)
  have := List.length_filter_le countsB l
  exact ⟨xs, ys, by omega, by omega, gr_congr h3 (bandOf_in l)⟩⟩
theorem Reg.nil : Reg 0 [] := ⟨canon_nil, by simp, [], [], by simp, by simp, fun x y _ => ⟨fun h => absurd h inL_nil, fun h => absurd h inL_nil⟩, fun x y _ => ⟨fun h => absurd h inL_nil, fun h => absurd h inL_nil⟩⟩
theorem box_len {c : List Rect} (hc : Canon c) (w h : Nat) (hb : ∀ x y, inL c x y → 0 ≤ x ∧ x < w ∧ 0 ≤ y ∧ y < h) : c.length ≤ (h + 1) * (w + 1) := by
  have hm : ∀ (n : Nat) (x : Int), x ∉ (List.range (n + 1)).map (fun i : Nat => (i : Int)) → x < 0 ∨ n < x := fun n x hx => by
    by_cases h0 : 0 ≤ x ∧ x ≤ n
    · exact absurd (List.mem_map.2 ⟨x.toNat, List.mem_range.2 (by omega), Int.toNat_of_nonneg h0.1⟩) hx
    · omega
  have := canon_len hc (xs := (List.range (w + 1)).map (fun i : Nat => (i : Int))) (ys := (List.range (h + 1)).map (fun i : Nat => (i : Int))) ⟨fun x y hx => by
    have := hm w x hx
    constructor
    · intro k; have := hb _ _ k; omega
    · intro k; have := hb _ _ k; omega, fun x y hy => by
    have := hm h y hy
    constructor
    · intro k; have := hb _ _ k; omega
    · intro k; have := hb _ _ k; omega⟩
  simpa using this
end
section
open Classical in
noncomputable def paintL (w : Nat) (V : Int → Int → Prop) (f : Int → Int → Int → Int) (px : List Int) : List Int :=
  (List.range px.length).map fun i => if V (i % w : Nat) (i / w : Nat) then f (i % w : Nat) (i / w : Nat) px[i]! else px[i]!
theorem paintL_len (w : Nat) (V : Int → Int → Prop) (f : Int → Int → Int → Int) (px : List Int) : (paintL w V f px).length = px.length := by unfold paintL; rw [List.length_map, List.length_range]
theorem place_at {w : Nat} {x y : Int} (hx : 0 ≤ x ∧ x < w) (hy : 0 ≤ y) : ((y * w + x).toNat % w : Nat) = x.toNat ∧ ((y * w + x).toNat / w : Nat) = y.toNat := by
  obtain ⟨a, rfl⟩ := Int.eq_ofNat_of_zero_le hx.1
  obtain ⟨b, rfl⟩ := Int.eq_ofNat_of_zero_le hy
  have h : a < w := by omega
  rw [show ((b : Int) * w + a).toNat = b * w + a from by rw [show ((b : Int) * w + a) = ((b * w + a : Nat) : Int) from by simp]; rfl]
  simp only [Int.toNat_natCast]
  constructor
  · rw [Nat.mul_comm, Nat.mul_add_mod, Nat.mod_eq_of_lt h]
  · rw [Nat.mul_comm, Nat.mul_add_div (by omega), Nat.div_eq_of_lt h, Nat.add_zero]
open Classical in
theorem paintL_get {w : Nat} {V : Int → Int → Prop} {f : Int → Int → Int → Int} {px : List Int} {i : Nat} (h : i < px.length) : (paintL w V f px)[i]! = if V (i % w : Nat) (i / w : Nat) then f (i % w : Nat) (i / w : Nat) px[i]! else px[i]! := by
  rw [getElem!_pos (paintL w V f px) i (by rw [paintL_len]; exact h)]
  unfold paintL
  rw [List.getElem_map, List.getElem_range]
open Classical in
theorem paintL_at {w : Nat} {V : Int → Int → Prop} {f : Int → Int → Int → Int} {px : List Int} {x y : Int} (hx : 0 ≤ x ∧ x < w) (hy : 0 ≤ y) (h : (y * w + x).toNat < px.length) :
    (paintL w V f px)[(y * w + x).toNat]! = if V x y then f x y px[(y * w + x).toNat]! else px[(y * w + x).toNat]! := by
  obtain ⟨e1, e2⟩ := place_at hx hy
  rw [paintL_get h, e1, e2, Int.toNat_of_nonneg hx.1, Int.toNat_of_nonneg hy]
theorem paintL_not {w : Nat} {V : Int → Int → Prop} {f : Int → Int → Int → Int} {px : List Int} {x y : Int} (hx : 0 ≤ x ∧ x < w) (hy : 0 ≤ y) (h : (y * w + x).toNat < px.length) (hV : ¬ V x y) :
    (paintL w V f px)[(y * w + x).toNat]! = px[(y * w + x).toNat]! := by rw [paintL_at hx hy h, if_neg hV]
theorem paintL_yes {w : Nat} {V : Int → Int → Prop} {f : Int → Int → Int → Int} {px : List Int} {x y : Int} (hx : 0 ≤ x ∧ x < w) (hy : 0 ≤ y) (h : (y * w + x).toNat < px.length) (hV : V x y) :
    (paintL w V f px)[(y * w + x).toNat]! = f x y px[(y * w + x).toNat]! := by rw [paintL_at hx hy h, if_pos hV]
theorem listI_ext {a b : List Int} (h : a.length = b.length) (k : ∀ i, i < a.length → a[i]! = b[i]!) : a = b := by
  refine List.ext_getElem h fun i h1 h2 => ?_
  have := k i h1
  rw [getElem!_pos a i h1, getElem!_pos b i h2] at this
  exact this
theorem place_of {w i : Nat} {n : Nat} (hw : 0 < w) (h : i < n) : 0 ≤ ((i % w : Nat) : Int) ∧ ((i % w : Nat) : Int) < w ∧ 0 ≤ ((i / w : Nat) : Int) ∧ (((i / w : Nat) : Int) * w + ((i % w : Nat) : Int)).toNat = i := by
  have := Nat.mod_lt i hw
  refine ⟨Int.natCast_nonneg _, Int.ofNat_lt.2 this, Int.natCast_nonneg _, ?_⟩
  rw [show (((i / w : Nat) : Int) * w + ((i % w : Nat) : Int)) = ((i / w * w + i % w : Nat) : Int) from by simp, Int.toNat_natCast, Nat.mul_comm, Nat.div_add_mod]
theorem px_ext {w h : Nat} {a b : List Int} (ha : a.length = w * h) (hb : b.length = w * h) (k : ∀ x y : Int, 0 ≤ x → x < w → 0 ≤ y → y < h → a[(y * w + x).toNat]! = b[(y * w + x).toNat]!) : a = b := by
  refine listI_ext (by omega) fun i hi => ?_
  have hw : 0 < w := by rcases Nat.eq_zero_or_pos w with h | h; rw [h, Nat.zero_mul] at ha; omega; exact h
  obtain ⟨h1, h2, h3, h4⟩ := place_of hw hi
  have h5 : i / w < h := Nat.div_lt_of_lt_mul (by omega)
  have := k _ _ h1 h2 h3 (by omega)
  rw [h4] at this
  exact this
theorem place_lt {w h : Nat} {x y : Int} (hx : 0 ≤ x) (hx2 : x < w) (hy : 0 ≤ y) (hy2 : y < h) : (y * w + x).toNat < w * h ∧ 0 ≤ y * w + x := by
  obtain ⟨a, rfl⟩ := Int.eq_ofNat_of_zero_le hx
  obtain ⟨b, rfl⟩ := Int.eq_ofNat_of_zero_le hy
  have h1 : a < w := by omega
  have h2 : b + 1 ≤ h := by omega
  rw [show ((b : Int) * w + a) = ((b * w + a : Nat) : Int) from by simp, Int.toNat_natCast]
  have := Nat.mul_le_mul_right w h2
  rw [Nat.add_mul, Nat.one_mul] at this
  rw [Nat.mul_comm w h]
  omega
theorem place_ne {w : Nat} {x y a b : Int} (hx : 0 ≤ x ∧ x < w) (hy : 0 ≤ y) (ha : 0 ≤ a ∧ a < w) (hb : 0 ≤ b) (h : (y * w + x).toNat = (b * w + a).toNat) : a = x ∧ b = y := by
  obtain ⟨e1, e2⟩ := place_at hx hy
  obtain ⟨e3, e4⟩ := place_at ha hb
  rw [h] at e1 e2
  omega
theorem paint_put {w h : Nat} {V : Int → Int → Prop} {f : Int → Int → Int → Int} {px : List Int} {x y v : Int} (hl : px.length = w * h) (hx : 0 ≤ x) (hx2 : x < w) (hy : 0 ≤ y) (hy2 : y < h) (hv : v = f x y px[(y * w + x).toNat]!) {V' : Int → Int → Prop} (hV : ∀ a b : Int, 0 ≤ a → a < w → 0 ≤ b → b < h → (V' a b ↔ V a b ∨ (a = x ∧ b = y))) :
    (paintL w V f px).set (y * w + x).toNat v = paintL w V' f px := by
  have hp := (place_lt hx hx2 hy hy2).1
  refine px_ext (h := h) (by rw [List.length_set, paintL_len, hl]) (by rw [paintL_len, hl]) fun a b ha ha2 hb hb2 => ?_
  have hq := (place_lt ha ha2 hb hb2).1
  rw [getElem!_pos _ _ (by rw [List.length_set, paintL_len]; omega), List.getElem_set]
  split
  · rename_i e
    obtain ⟨rfl, rfl⟩ := place_ne ⟨hx, hx2⟩ hy ⟨ha, ha2⟩ hb e
    rw [paintL_yes ⟨ha, ha2⟩ hb (by omega) ((hV a b ha ha2 hb hb2).2 (.inr ⟨rfl, rfl⟩)), hv]
  · rename_i e
    rw [← getElem!_pos (paintL w V f px) _ (by rw [paintL_len]; omega)]
    rw [paintL_at ⟨ha, ha2⟩ hb (by omega), paintL_at ⟨ha, ha2⟩ hb (by omega)]
    have : V' a b ↔ V a b := by
      rw [hV a b ha ha2 hb hb2]
      constructor
      · rintro (k | ⟨rfl, rfl⟩)
        · exact k
        · exact absurd rfl e
      · exact .inl
    by_cases hc : V a b
    · rw [if_pos hc, if_pos (this.2 hc)]
    · rw [if_neg hc, if_neg (fun q => hc (this.1 q))]
theorem paint_congr {w h : Nat} {V V' : Int → Int → Prop} {f g : Int → Int → Int → Int} {px : List Int} (hl : px.length = w * h) (hV : ∀ a b : Int, 0 ≤ a → a < w → 0 ≤ b → b < h → (V' a b ↔ V a b)) (hf : ∀ a b : Int, 0 ≤ a → a < w → 0 ≤ b → b < h → V a b → g a b px[(b * w + a).toNat]! = f a b px[(b * w + a).toNat]!) : paintL w V f px = paintL w V' g px := by
  refine px_ext (h := h) (by rw [paintL_len, hl]) (by rw [paintL_len, hl]) fun a b ha ha2 hb hb2 => ?_
  have hq := (place_lt ha ha2 hb hb2).1
  rw [paintL_at ⟨ha, ha2⟩ hb (by omega), paintL_at ⟨ha, ha2⟩ hb (by omega)]
  have := hV a b ha ha2 hb hb2
  by_cases hc : V a b
  · rw [if_pos hc, if_pos (this.2 hc)]; exact (hf a b ha ha2 hb hb2 hc).symm
  · rw [if_neg hc, if_neg (fun q => hc (this.1 q))]
theorem paint_none {w h : Nat} {V : Int → Int → Prop} {f : Int → Int → Int → Int} {px : List Int} (hl : px.length = w * h) (hV : ∀ a b : Int, 0 ≤ a → a < w → 0 ≤ b → b < h → ¬ V a b) : paintL w V f px = px := by
  refine px_ext (h := h) (by rw [paintL_len, hl]) hl fun a b ha ha2 hb hb2 => ?_
  have hq := (place_lt ha ha2 hb hb2).1
  exact paintL_not ⟨ha, ha2⟩ hb (by omega) (hV a b ha ha2 hb hb2)
theorem inL_take {l : List Rect} {k : Nat} (hk : k < l.length) {x y : Int} : inL (l.take (k + 1)) x y ↔ inL (l.take k) x y ∨ l[k]!.has x y := by
  rw [List.take_succ_eq_append_getElem hk, inL_append, getElem!_pos l k hk, inL_cons]
  constructor
  · rintro (h | h | h)
    · exact .inl h
    · exact .inr h
    · exact absurd h inL_nil
  · rintro (h | h)
    · exact .inl h
    · exact .inr (.inl h)
end
section
open Go.RowKit Go.Sort
set_option maxRecDepth 10000
abbrev gT (w h : Nat) (px : List Int) : T := .agg [I64 w, I64 h, .islc (encL cU px) px.length none]
def flF (p : Int) : Int → Int → Int → Int := fun _ _ _ => p
def rowV (V : Int → Int → Prop) (y fr tz : Int) (a b : Int) : Prop := V a b ∨ (b = y ∧ fr ≤ a ∧ a < tz)
section
variable {q : Bool} {P : Program} {tab : Tab} {im : List Nat} {ds : List (Option Nat)} {l : List Oper} {E : Env} {H : Hp} {K : Env → Hp → Prop} {d : Nat} {ty : TypeId} {pos : String} {after : Array Edge}
theorem VX.max2 [Dr] {x y : Operand} {t1 t2 : TypeId} {a b : Int} (hx : E.opd x = some (I64 a)) (hy : E.opd y = some (I64 b)) (k : VX q P tab im ds l ((d, I64 (max a b)) :: E) H K) : VX q P tab im ds (⟨some d, .call ⟨.builtin .max, #[x, y], #[t1, t2]⟩, ty, pos, after, none⟩ :: l) E H K := by
  refine VX.meek (t := I64 (max a b)) ?_ k
  have e : (if b > a then b else a) = max a b := by rw [Int.max_def]; split <;> split <;> omega
  simp only [opM, optL, hx, hy, mMins, mMin, Bool.false_eq_true, if_false, e]
theorem VX.min2 [Dr] {x y : Operand} {t1 t2 : TypeId} {a b : Int} (hx : E.opd x = some (I64 a)) (hy : E.opd y = some (I64 b)) (k : VX q P tab im ds l ((d, I64 (min a b)) :: E) H K) : VX q P tab im ds (⟨some d, .call ⟨.builtin .min, #[x, y], #[t1, t2]⟩, ty, pos, after, none⟩ :: l) E H K := by
  refine VX.meek (t := I64 (min a b)) ?_ k
  have e : (if b < a then b else a) = min a b := by rw [Int.min_def]; split <;> split <;> omega
  simp only [opM, optL, hx, hy, mMins, mMin, if_true, e]
end
theorem cells_put {s : List Int} {m : Nat} {v : Int} (h : m < s.length) : putL (encL cU s) (m * 1) [U8 v] = encL cU (s.set m v) := by
  have := encL_put cU s m 0 s[m]! v [U8 v] (getE h) (Nat.le_refl _) rfl
  rw [cU_sz, Nat.add_zero] at this
  exact this
theorem cv_g {v : Vw} {w h : Nat} {a b : T} (k : Cv v a b) : CvL v [I64 w, I64 h, a] [I64 w, I64 h, b] := .cons (.pure rfl) (.cons (.pure rfl) (.cons k .nil))
theorem fill1_t [Dr] (w h : Nat) (px : List Int) (V : Int → Int → Prop) (p y fr tz : Int) (c : Option Nat) (hw : w ≤ 128) (hh : h ≤ 128) (hl : px.length = w * h) (hy : 0 ≤ y) (hy2 : y < h) (hf : 0 ≤ fr) (hft : fr ≤ tz) (ht : tz ≤ w) :
    CallT Try.prog 38 [I64 y, I64 fr, I64 tz, .iptr [U8 p] 0, .ptr 0 0] [.c [I64 w, I64 h, .slc 1 0 px.length 1 c], .c (encL cU (paintL w V (flF p) px))]
      (fun t H' => t = .tup [] ∧ H' = [.c [I64 w, I64 h, .slc 1 0 px.length 1 c], .c (encL cU (paintL w (rowV V y fr tz) (flF p) px))]) := by
  refine CallT.intro tab_ok Try.func38 rfl (by kernel_rfl) (Nat.le_of_ble_eq_true rfl) ?_
  refine VC.reg tab_ok [] rfl ?_
  iterate 2 refine VX.meek rfl ?_
  refine VX.nil ?_
  refine VC.block ?_
  refine VC.loopS (σ := Nat) (fun k => (tz - fr).toNat - k) (fun k => k ≤ (tz - fr).toNat) (fun k => [(8, I64 (fr + k)), (4, .ptr 0 0)]) (fun k => [.c [I64 w, I64 h, .slc 1 0 px.length 1 c], .c (encL cU (paintL w (rowV V y fr (fr + k)) (flF p) px))]) [0, 2, 3] rfl (0) ?_ ?_ ?_
  · refine ⟨[some 0, some 1], rfl, by first | trivial | decide, by first | rfl | (simp only [noO, Bool.and_true, Bool.and_eq_true]; first | assumption | (refine ⟨?_, ?_⟩ <;> assumption)) | (simp only [noO, *, Bool.and_true, Bool.true_and, Bool.and_self]; done), ?_, ?_⟩ <;> (repeat' first | exact trivial | exact CvB_n | exact CvB_d | exact CvB_o rfl | refine CvE_app ?_ ?_ | refine CvE_cons rfl ?_ ?_ | refine CvH_cons ?_ ?_ | refine CvB_c rfl ?_ | fail) <;> first | exact au_v | (first | exact cv_g (Cv.slc rfl (.inl rfl)) | exact Cv.eq (congrArg I64 (by simp)) rfl | exact CvL.eq (congrArg (encL cU) (paint_congr hl (fun a b _ _ _ _ => by unfold rowV; constructor; (rintro (h | h); exact h; exfalso; omega); exact .inl) (fun _ _ _ _ _ _ _ => rfl))) (encL_pure cU _))
  · (try dsimp only); omega
  rintro k hk
  refine VC.seq ?_
  refine VC.reg tab_ok [] rfl ?_
  iterate 3 refine VX.meek rfl ?_
  refine VX.nil ?_
  refine VC.cond rfl (fun hc0 => ?_) (fun hc0 => ?_)
  · (try simp only [au_std] at hc0); have hin := in_place (x := fr + k) hw hh (by omega) (by omega) hy hy2; have hpl := paintL_len w (rowV V y fr (fr + k)) (flF p) px
    refine VC.skip ?_
    refine VC.seq ?_
    refine VC.block ?_
    refine VC.regN tab_ok [] rfl ?_
    refine VX.meek rfl ?_
    first | refine VX.meek rfl ?_ | refine VX.loadI rfl rfl au_l ?_ | refine VX.loadP rfl rfl rfl au_l ?_
    iterate 2 refine VX.meek rfl ?_
    first | refine VX.meek rfl ?_ | refine VX.loadI rfl rfl au_l ?_ | refine VX.loadP rfl rfl rfl au_l ?_
    first | refine VX.mul rfl rfl (by omega) ?_ | refine VX.meek rfl ?_
    refine VX.meek rfl ?_
    first | refine VX.add rfl rfl (by omega) ?_ | refine VX.meek rfl ?_
    first | refine VX.meek rfl ?_ | refine VX.loadI rfl rfl au_l ?_ | refine VX.loadP rfl rfl rfl au_l ?_
    first | refine VX.idxI rfl rfl rfl rfl rfl rfl (by omega) ?_ | refine VX.idxO0 rfl rfl rfl rfl rfl rfl rfl (by omega) ?_ | refine VX.idxO0 rfl rfl rfl rfl rfl rfl au_z (by omega) ?_ | refine VX.idxO rfl rfl rfl rfl rfl rfl rfl (by omega) ?_ | refine VX.idxI rfl rfl rfl rfl rfl au_z (by omega) ?_ | refine VX.idxO rfl rfl rfl rfl rfl rfl au_z (by omega) ?_ | refine VX.meek rfl ?_
    refine VX.store rfl rfl rfl rfl rfl (by rw [encL_len, cU_sz]; dsimp only; omega) rfl ?_
    refine VX.nil ?_
    refine VC.regN tab_ok [] rfl ?_
    refine VX.meek rfl ?_
    first | refine VX.add rfl rfl (by omega) ?_ | refine VX.meek rfl ?_
    refine VX.meek rfl ?_
    refine VX.nil ?_
    refine ⟨k + 1, by (try dsimp only); omega, ?_, (by refine ⟨[some 0, some 1], rfl, by first | trivial | decide, by first | rfl | (simp only [noO, Bool.and_true, Bool.and_eq_true]; first | assumption | (refine ⟨?_, ?_⟩ <;> assumption)) | (simp only [noO, *, Bool.and_true, Bool.true_and, Bool.and_self]; done), ?_, ?_⟩ <;> (repeat' first | exact trivial | exact CvB_n | exact CvB_d | exact CvB_o rfl | refine CvE_app ?_ ?_ | refine CvE_cons rfl ?_ ?_ | refine CvH_cons ?_ ?_ | refine CvB_c rfl ?_ | fail) <;> first | exact au_v | (first | exact cv_g (Cv.slc rfl (.inl rfl)) | exact Cv.eq (congrArg I64 (by omega)) rfl | exact CvL.eq ((cells_put (by omega)).trans (congrArg (encL cU) (paint_put hl (by omega) (by omega) hy hy2 rfl (fun a b _ _ _ _ => by unfold rowV; by_cases hV : V a b; simp [hV]; simp only [hV, false_or, iff_false]; omega)))) (encL_pure cU _)))⟩
    (try dsimp only); omega
  · (try simp only [au_std] at hc0); have e : fr + k = tz := (by omega); rw [e]
    refine VC.exit ?_
    exact ⟨trivial, _, rfl, rfl, rfl⟩
theorem gspans_t [Dr] (w h : Nat) (px : List Int) (l : List Rect) (p : Int) (c : Option Nat) (hw : w ≤ 128) (hh : h ≤ 128) (hl : px.length = w * h) (hr : ∀ r ∈ l, rok r) (hn : l.length ≤ 1048576) :
    CallT Try.prog 37 [.agg [I64 w, I64 h, .slc 1 0 px.length 1 c], regT l, .clo 38 [] [.iptr [U8 p] 0, .ptr 0 0]] [.c [I64 w, I64 h, .slc 1 0 px.length 1 c], .c (encL cU px)]
      (fun t H' => t = .tup [] ∧ H' = [.c [I64 w, I64 h, .slc 1 0 px.length 1 c], .c (encL cU (paintL w (inL l) (flF p) px))]) := by
  refine CallT.intro tab_ok Try.func37 rfl (by kernel_rfl) (Nat.le_of_ble_eq_true rfl) ?_
  refine VC.reg tab_ok [3, 4] rfl ?_
  iterate 2 refine VX.newI rfl rfl ?_
  refine VX.nil ?_
  refine VC.scope ?_
  refine VC.seq ?_
  refine VC.label ?_
  refine VC.reg tab_ok [] rfl ?_
  first | refine VX.meek rfl ?_ | refine VX.loadI rfl rfl au_l ?_ | refine VX.loadP rfl rfl rfl au_l ?_
  refine VX.callP0 rfl rfl rfl (rects_p l hn) ?_
  iterate 2 refine VX.meek rfl ?_
  refine VX.nil ?_
  refine VC.block ?_
  refine VC.loopS (σ := Nat) (fun k => l.length - k) (fun k => k ≤ l.length) (fun k => [(14, I64 k), (2, .clo 38 [] [.iptr [U8 p] 0, .ptr 0 0]), (3, .iptr [I64 w, I64 h, .slc 1 0 px.length 1 none] 0)]) (fun k => [.c [I64 w, I64 h, .slc 1 0 px.length 1 c], .c (encL cU (paintL w (inL (l.take k)) (flF p) px))]) [12, 13] rfl (0) ?_ ?_ ?_
  · refine ⟨[some 0, some 1], rfl, by first | trivial | decide, by first | rfl | (simp only [noO, Bool.and_true, Bool.and_eq_true]; first | assumption | (refine ⟨?_, ?_⟩ <;> assumption)) | (simp only [noO, *, Bool.and_true, Bool.true_and, Bool.and_self]; done), ?_, ?_⟩ <;> (repeat' first | exact trivial | exact CvB_n | exact CvB_d | exact CvB_o rfl | refine CvE_app ?_ ?_ | refine CvE_cons rfl ?_ ?_ | refine CvH_cons ?_ ?_ | refine CvB_c rfl ?_ | fail) <;> first | exact au_v | (first | exact cv_g (Cv.slc rfl (.inl rfl)) | exact Cv.iptr (cv_g (Cv.slc rfl (.inr rfl))) | exact Cv.clo CvL.nil (CvL.cons (Cv.pure rfl) (CvL.cons (Cv.ptr rfl) CvL.nil)) | exact CvL.eq (congrArg (encL cU) (paint_none hl (fun a b _ _ _ _ => by rw [List.take_zero]; exact inL_nil)).symm) (encL_pure cU _))
  · (try dsimp only); omega
  rintro k hk
  refine VC.reg tab_ok [] rfl ?_
  refine VX.meek rfl ?_
  refine VX.nil ?_
  refine VC.seq ?_
  refine VC.cond rfl (fun hc0 => ?_) (fun hc0 => ?_)
  · (try simp only [au_std] at hc0); have hkl : k < l.length := (by omega); have hrk := hr l[k]! (List.mem_iff_getElem?.2 ⟨k, getE hkl⟩); unfold rok at hrk
    refine VC.skip ?_
    refine VC.seq ?_
    refine VC.block ?_
    refine VC.reg tab_ok [] rfl ?_
    first | refine VX.idxI rfl rfl rfl rfl rfl rfl (by omega) ?_ | refine VX.idxO0 rfl rfl rfl rfl rfl rfl rfl (by omega) ?_ | refine VX.idxO0 rfl rfl rfl rfl rfl rfl au_z (by omega) ?_ | refine VX.idxO rfl rfl rfl rfl rfl rfl rfl (by omega) ?_ | refine VX.idxI rfl rfl rfl rfl rfl au_z (by omega) ?_ | refine VX.idxO rfl rfl rfl rfl rfl rfl au_z (by omega) ?_ | refine VX.meek rfl ?_
    first | refine VX.meek rfl ?_ | refine VX.loadI rfl rfl au_l ?_ | refine VX.loadP rfl rfl rfl au_l ?_
    refine VX.new rfl rfl ?_
    refine VX.store rfl rfl rfl rfl rfl au_sR rfl ?_
    refine VX.nil ?_
    refine VC.drw tab_ok [] [_, _, _, _, _, _, _, _, _, _, _, _, _] rfl (by kernel_rfl) (by kernel_rfl) ?_
    refine VX.meek rfl ?_
    first | refine VX.meek rfl ?_ | refine VX.loadI rfl rfl au_l ?_ | refine VX.loadP rfl rfl rfl au_l ?_
    refine VX.max2 rfl rfl ?_
    refine VX.meek rfl ?_
    first | refine VX.meek rfl ?_ | refine VX.loadI rfl rfl au_l ?_ | refine VX.loadP rfl rfl rfl au_l ?_
    refine VX.meek rfl ?_
    first | refine VX.meek rfl ?_ | refine VX.loadI rfl rfl au_l ?_ | refine VX.loadP rfl rfl rfl au_l ?_
    first | refine VX.add rfl rfl (by omega) ?_ | refine VX.meek rfl ?_
    refine VX.meek rfl ?_
    first | refine VX.meek rfl ?_ | refine VX.loadI rfl rfl au_l ?_ | refine VX.loadP rfl rfl rfl au_l ?_
    refine VX.min2 rfl rfl ?_
    iterate 2 refine VX.meek rfl ?_
    iterate 2 refine VX.nil ?_
    generalize hfr : max l[k]!.X 0 = fr; generalize hto : min (l[k]!.X + l[k]!.W) (w : Int) = tz
    refine VC.seq ?_
    refine VC.reg tab_ok [] rfl ?_
    iterate 3 refine VX.meek rfl ?_
    refine VX.nil ?_
    refine VC.cond rfl (fun hc1 => ?_) (fun hc1 => ?_)
    · (try simp only [au_std] at hc1)
      refine VC.exit ?_
      refine VC.regN tab_ok [] rfl ?_
      first | refine VX.add rfl rfl (by omega) ?_ | refine VX.meek rfl ?_
      refine VX.meek rfl ?_
      refine VX.nil ?_
      refine ⟨k + 1, by (try dsimp only); omega, ?_, (by refine ⟨[some 0, some 1], rfl, by first | trivial | decide, by first | rfl | (simp only [noO, Bool.and_true, Bool.and_eq_true]; first | assumption | (refine ⟨?_, ?_⟩ <;> assumption)) | (simp only [noO, *, Bool.and_true, Bool.true_and, Bool.and_self]; done), ?_, ?_⟩ <;> (repeat' first | exact trivial | exact CvB_n | exact CvB_d | exact CvB_o rfl | refine CvE_app ?_ ?_ | refine CvE_cons rfl ?_ ?_ | refine CvH_cons ?_ ?_ | refine CvB_c rfl ?_ | fail) <;> first | exact au_v | (first | exact cv_g (Cv.slc rfl (.inl rfl)) | exact Cv.iptr (cv_g (Cv.slc rfl (.inr rfl))) | exact Cv.clo CvL.nil (CvL.cons (Cv.pure rfl) (CvL.cons (Cv.ptr rfl) CvL.nil)) | exact CvL.eq (congrArg (encL cU) (paint_congr hl (fun a b _ _ _ _ => by rw [inL_take hkl]; unfold Rect.has; by_cases hV : inL (l.take k) a b; simp [hV]; simp only [hV, false_or, iff_false]; omega) (fun _ _ _ _ _ _ _ => rfl))) (encL_pure cU _)))⟩
      (try dsimp only); omega
    · (try simp only [au_std] at hc1)
      refine VC.skip ?_
      refine VC.reg tab_ok [] rfl ?_
      refine VX.meek rfl ?_
      first | refine VX.meek rfl ?_ | refine VX.loadI rfl rfl au_l ?_ | refine VX.loadP rfl rfl rfl au_l ?_
      refine VX.max2 rfl rfl ?_
      refine VX.meek rfl ?_
      refine VX.nil ?_
      generalize hy0 : max l[k]!.Y 0 = y0
      refine VC.block ?_
      refine VC.loopS (σ := Nat) (fun j => (h - y0).toNat + 1 - j) (fun j => y0 + j ≤ h ∨ j = 0) (fun j => [(10, I64 (y0 + j)), (2, .clo 38 [] [.iptr [U8 p] 0, .ptr 0 0]), (3, .iptr [I64 w, I64 h, .slc 1 0 px.length 1 none] 0), (7, .ptr 2 0)]) (fun j => [.c [I64 w, I64 h, .slc 1 0 px.length 1 c], .c (encL cU (paintL w (fun a b => inL (l.take k) a b ∨ (l[k]!.has a b ∧ b < y0 + j)) (flF p) px)), .c [I64 l[k]!.X, I64 l[k]!.Y, I64 l[k]!.W, I64 l[k]!.H]]) [8, 9, 12, 13, 14] rfl (0) ?_ ?_ ?_
      · refine ⟨[some 0, some 1, some 2], rfl, by first | trivial | decide, by first | rfl | (simp only [noO, Bool.and_true, Bool.and_eq_true]; first | assumption | (refine ⟨?_, ?_⟩ <;> assumption)) | (simp only [noO, *, Bool.and_true, Bool.true_and, Bool.and_self]; done), ?_, ?_⟩ <;> (repeat' first | exact trivial | exact CvB_n | exact CvB_d | exact CvB_o rfl | refine CvE_app ?_ ?_ | refine CvE_cons rfl ?_ ?_ | refine CvH_cons ?_ ?_ | refine CvB_c rfl ?_ | fail) <;> first | exact au_v | (first | exact cv_g (Cv.slc rfl (.inl rfl)) | exact Cv.iptr (cv_g (Cv.slc rfl (.inr rfl))) | exact Cv.clo CvL.nil (CvL.cons (Cv.pure rfl) (CvL.cons (Cv.ptr rfl) CvL.nil)) | exact Cv.eq (congrArg I64 (by simp)) rfl | exact CvL.eq (congrArg (encL cU) (paint_congr hl (fun a b _ _ _ _ => by unfold Rect.has; by_cases hV : inL (l.take k) a b; simp [hV]; simp only [hV, false_or, iff_false]; omega) (fun _ _ _ _ _ _ _ => rfl))) (encL_pure cU _))
      · (try dsimp only); omega
      rintro j hj
      refine VC.seq ?_
      refine VC.reg tab_ok [] rfl ?_
      iterate 2 refine VX.meek rfl ?_
      first | refine VX.meek rfl ?_ | refine VX.loadI rfl rfl au_l ?_ | refine VX.loadP rfl rfl rfl au_l ?_
      refine VX.meek rfl ?_
      first | refine VX.meek rfl ?_ | refine VX.loadI rfl rfl au_l ?_ | refine VX.loadP rfl rfl rfl au_l ?_
      first | refine VX.add rfl rfl (by omega) ?_ | refine VX.meek rfl ?_
      refine VX.meek rfl ?_
      refine VX.nil ?_
      refine VC.cond rfl (fun hc2 => ?_) (fun hc2 => ?_)
      · (try simp only [au_std] at hc2)
        refine VC.skip ?_
        refine VC.seq ?_
        refine VC.block ?_
        refine VC.seq ?_
        refine VC.reg tab_ok [] rfl ?_
        iterate 2 refine VX.meek rfl ?_
        first | refine VX.meek rfl ?_ | refine VX.loadI rfl rfl au_l ?_ | refine VX.loadP rfl rfl rfl au_l ?_
        refine VX.meek rfl ?_
        refine VX.nil ?_
        refine VC.cond rfl (fun hc3 => ?_) (fun hc3 => ?_)
        · (try simp only [au_std] at hc3)
          refine VC.exit ?_
          refine VC.regN tab_ok [] rfl ?_
          first | refine VX.add rfl rfl (by omega) ?_ | refine VX.meek rfl ?_
          refine VX.meek rfl ?_
          refine VX.nil ?_
          refine ⟨k + 1, by (try dsimp only); omega, ?_, (by refine ⟨[some 0, some 1], rfl, by first | trivial | decide, by first | rfl | (simp only [noO, Bool.and_true, Bool.and_eq_true]; first | assumption | (refine ⟨?_, ?_⟩ <;> assumption)) | (simp only [noO, *, Bool.and_true, Bool.true_and, Bool.and_self]; done), ?_, ?_⟩ <;> (repeat' first | exact trivial | exact CvB_n | exact CvB_d | exact CvB_o rfl | refine CvE_app ?_ ?_ | refine CvE_cons rfl ?_ ?_ | refine CvH_cons ?_ ?_ | refine CvB_c rfl ?_ | fail) <;> first | exact au_v | (first | exact cv_g (Cv.slc rfl (.inl rfl)) | exact Cv.iptr (cv_g (Cv.slc rfl (.inr rfl))) | exact Cv.clo CvL.nil (CvL.cons (Cv.pure rfl) (CvL.cons (Cv.ptr rfl) CvL.nil)) | exact CvL.eq (congrArg (encL cU) (paint_congr hl (fun a b _ _ _ _ => by rw [inL_take hkl]; unfold Rect.has; by_cases hV : inL (l.take k) a b; simp [hV]; simp only [hV, false_or, iff_false]; omega) (fun _ _ _ _ _ _ _ => rfl))) (encL_pure cU _)))⟩
          (try dsimp only); omega
        · (try simp only [au_std] at hc3); have hft : fr < tz := (by omega); have hrow : (paintL w (rowV (fun a b => inL (l.take k) a b ∨ (l[k]!.has a b ∧ b < y0 + j)) (y0 + j) fr tz) (flF p) px) = paintL w (fun a b => inL (l.take k) a b ∨ (l[k]!.has a b ∧ b < y0 + (j + 1 : Nat))) (flF p) px := paint_congr hl (fun a b _ _ _ _ => by unfold rowV Rect.has; by_cases hV : inL (l.take k) a b; simp [hV]; simp only [hV, false_or, iff_false]; omega) (fun _ _ _ _ _ _ _ => rfl)
          refine VC.skip ?_
          refine VC.regN tab_ok [] rfl ?_
          iterate 4 refine VX.meek rfl ?_
          refine VX.callT rfl rfl (CallT.frame (fill1_t w h px (fun a b => inL (l.take k) a b ∨ (l[k]!.has a b ∧ b < y0 + j)) p (y0 + j) fr tz c hw hh hl (by omega) (by omega) (by omega) (by omega) (by omega)) [0, 1] rfl au_ci au_ci ?_)
          rintro _ _ ⟨rfl, rfl⟩
          refine frK au_co au_co ?_
          refine VX.nil ?_
          refine VC.regN tab_ok [] rfl ?_
          refine VX.meek rfl ?_
          first | refine VX.add rfl rfl (by omega) ?_ | refine VX.meek rfl ?_
          refine VX.meek rfl ?_
          refine VX.nil ?_
          refine ⟨j + 1, by (try dsimp only); omega, ?_, (by refine ⟨[some 0, some 1, some 2], rfl, by first | trivial | decide, by first | rfl | (simp only [noO, Bool.and_true, Bool.and_eq_true]; first | assumption | (refine ⟨?_, ?_⟩ <;> assumption)) | (simp only [noO, *, Bool.and_true, Bool.true_and, Bool.and_self]; done), ?_, ?_⟩ <;> (repeat' first | exact trivial | exact CvB_n | exact CvB_d | exact CvB_o rfl | refine CvE_app ?_ ?_ | refine CvE_cons rfl ?_ ?_ | refine CvH_cons ?_ ?_ | refine CvB_c rfl ?_ | fail) <;> first | exact au_v | (first | exact cv_g (Cv.slc rfl (.inl rfl)) | exact Cv.iptr (cv_g (Cv.slc rfl (.inr rfl))) | exact Cv.clo CvL.nil (CvL.cons (Cv.pure rfl) (CvL.cons (Cv.ptr rfl) CvL.nil)) | exact Cv.eq (congrArg I64 (by omega)) rfl | exact CvL.eq (congrArg (encL cU) hrow) (encL_pure cU _)))⟩
          (try dsimp only); omega
      · (try simp only [au_std] at hc2)
        refine VC.exit ?_
        refine VC.regN tab_ok [] rfl ?_
        first | refine VX.add rfl rfl (by omega) ?_ | refine VX.meek rfl ?_
        refine VX.meek rfl ?_
        refine VX.nil ?_
        refine ⟨k + 1, by (try dsimp only); omega, ?_, (by refine ⟨[some 0, some 1], rfl, by first | trivial | decide, by first | rfl | (simp only [noO, Bool.and_true, Bool.and_eq_true]; first | assumption | (refine ⟨?_, ?_⟩ <;> assumption)) | (simp only [noO, *, Bool.and_true, Bool.true_and, Bool.and_self]; done), ?_, ?_⟩ <;> (repeat' first | exact trivial | exact CvB_n | exact CvB_d | exact CvB_o rfl | refine CvE_app ?_ ?_ | refine CvE_cons rfl ?_ ?_ | refine CvH_cons ?_ ?_ | refine CvB_c rfl ?_ | fail) <;> first | exact au_v | (first | exact cv_g (Cv.slc rfl (.inl rfl)) | exact Cv.iptr (cv_g (Cv.slc rfl (.inr rfl))) | exact Cv.clo CvL.nil (CvL.cons (Cv.pure rfl) (CvL.cons (Cv.ptr rfl) CvL.nil)) | exact CvL.eq (congrArg (encL cU) (paint_congr hl (fun a b _ _ _ _ => by rw [inL_take hkl]; unfold Rect.has; by_cases hV : inL (l.take k) a b; simp [hV]; simp only [hV, false_or, iff_false]; omega) (fun _ _ _ _ _ _ _ => rfl))) (encL_pure cU _)))⟩
        (try dsimp only); omega
  · (try simp only [au_std] at hc0); obtain rfl : k = l.length := (by omega); rw [List.take_length]
    refine VC.exit ?_
    exact ⟨trivial, _, rfl, rfl, rfl⟩
theorem fill_p [Dr] (w h : Nat) (px : List Int) (l : List Rect) (p : Int) (hw : w ≤ 128) (hh : h ≤ 128) (hl : px.length = w * h) (hb : ∀ v ∈ px, 0 ≤ v ∧ v < 256) (hr : ∀ r ∈ l, rok r) (hn : l.length ≤ 1048576) :
    CallP Try.prog 29 [gT w h px, regT l, U8 p] (gT w h (paintL w (inL l) (flF p) px)) := by
  have hpl := paintL_len w (inL l) (flF p) px
  refine CallP.intro2 au_pu au_pu ?_
  refine CallT.intro tab_ok Try.func29 rfl (by kernel_rfl) (Nat.le_of_ble_eq_true rfl) ?_
  refine VC.reg tab_ok [3, 4, 5] rfl ?_
  iterate 3 refine VX.newI rfl rfl ?_
  refine VX.new rfl rfl ?_
  refine VX.nil ?_
  refine VC.reg tab_ok [] rfl ?_
  first | refine VX.meek rfl ?_ | refine VX.loadI rfl rfl au_l ?_ | refine VX.loadP rfl rfl rfl au_l ?_
  refine VX.callT rfl rfl (CallT.frame (twin_t ⟨w, h, px⟩ ⟨hw, hh, hl, hb⟩) [] rfl au_ci au_ci ?_)
  rintro _ _ ⟨rfl, rfl⟩
  refine frK au_co au_co ?_
  refine VX.new rfl rfl ?_
  refine VX.store rfl rfl rfl rfl rfl au_sR rfl ?_
  refine VX.nil ?_
  refine VC.reg tab_ok [] rfl ?_
  first | refine VX.meek rfl ?_ | refine VX.loadI rfl rfl au_l ?_ | refine VX.loadP rfl rfl rfl au_l ?_
  first | refine VX.meek rfl ?_ | refine VX.loadI rfl rfl au_l ?_ | refine VX.loadP rfl rfl rfl au_l ?_
  refine VX.meek rfl ?_
  refine VX.callT rfl rfl (CallT.frame (gspans_t w h px l p (some px.length) hw hh hl hr hn) [3, 2] rfl au_ci au_ci ?_)
  rintro _ _ ⟨rfl, rfl⟩
  refine frK au_co au_co ?_
  refine VX.nil ?_
  refine VC.reg tab_ok [] rfl ?_
  first | refine VX.meek rfl ?_ | refine VX.loadI rfl rfl au_l ?_ | refine VX.loadP rfl rfl rfl au_l ?_
  refine VX.store rfl rfl rfl rfl rfl au_sR rfl ?_
  refine VX.nil ?_
  refine VC.ret ?_
  refine ⟨trivial, _, rfl, Cv.agg (CvL.cons (Cv.pure rfl) (CvL.cons (Cv.pure rfl) (CvL.cons (by rw [hpl]; exact Cv.fslc0 ⟨rfl, by simp⟩ (CvL.pure (encL_pure cU _))) CvL.nil)))⟩
end
section
open Go.RowKit Go.Sort
set_option maxRecDepth 10000
noncomputable def upTo (w : Nat) (px s : List Int) (v : Nat) : List Int := paintL w (fun x y => s[(y * w + x).toNat]! ≠ px[(y * w + x).toNat]! ∧ s[(y * w + x).toNat]! < v) (fun x y _ => s[(y * w + x).toNat]!) px
theorem upTo_len (w : Nat) (px s : List Int) (v : Nat) : (upTo w px s v).length = px.length := paintL_len _ _ _ _
theorem upTo_zero {w h : Nat} {px s : List Int} (hl : px.length = w * h) (hb : ∀ v ∈ s, 0 ≤ v ∧ v < 256) : upTo w px s 0 = px := paint_none hl fun a b _ _ _ _ hh => by have := bang_bd hb (b * w + a).toNat; omega
theorem upTo_all {w h : Nat} {px s : List Int} (hl : px.length = w * h) (hs : s.length = w * h) (hb : ∀ v ∈ s, 0 ≤ v ∧ v < 256) : upTo w px s 256 = s := by
  refine px_ext (h := h) (by rw [upTo_len, hl]) hs fun x y hx hx2 hy hy2 => ?_
  have hp := (place_lt hx hx2 hy hy2).1
  unfold upTo
  rw [paintL_at ⟨hx, hx2⟩ hy (by omega)]
  have := bang_bd hb (y * w + x).toNat
  split
  · rfl
  · rename_i hc
    by_cases e : s[(y * w + x).toNat]! = px[(y * w + x).toNat]!
    · exact e.symm
    · exact absurd ⟨e, this.2⟩ hc
theorem upTo_step {w h : Nat} {px s : List Int} {v : Nat} {V : Int → Int → Prop} (hl : px.length = w * h) (hV : ∀ x y : Int, 0 ≤ x → x < w → 0 ≤ y → y < h → (V x y ↔ s[(y * w + x).toNat]! = v ∧ px[(y * w + x).toNat]! ≠ v)) : paintL w V (flF v) (upTo w px s v) = upTo w px s (v + 1) := by
  refine px_ext (h := h) (by rw [paintL_len, upTo_len, hl]) (by rw [upTo_len, hl]) fun x y hx hx2 hy hy2 => ?_
  have hp := (place_lt hx hx2 hy hy2).1
  rw [paintL_at ⟨hx, hx2⟩ hy (by rw [upTo_len]; omega)]
  unfold upTo
  rw [paintL_at ⟨hx, hx2⟩ hy (by omega), paintL_at ⟨hx, hx2⟩ hy (by omega)]
  have hv := hV x y hx hx2 hy hy2
  unfold flF
  generalize s[(y * w + x).toNat]! = a at hv ⊢
  generalize px[(y * w + x).toNat]! = b at hv ⊢
  by_cases k : V x y
  · have := hv.1 k
    rw [if_pos k, if_pos ⟨by omega, by omega⟩, this.1]
  · have k' : ¬ (a = v ∧ b ≠ v) := fun q => k (hv.2 q)
    rw [if_neg k]
    by_cases k2 : a ≠ b ∧ a < v
    · rw [if_pos k2, if_pos ⟨k2.1, by omega⟩]
    · rw [if_neg k2, if_neg (fun k3 => k2 ⟨k3.1, by omega⟩)]
theorem upTo_bd {w : Nat} {px s : List Int} {v : Nat} (hp : ∀ v ∈ px, 0 ≤ v ∧ v < 256) (hb : ∀ v ∈ s, 0 ≤ v ∧ v < 256) : ∀ u ∈ upTo w px s v, 0 ≤ u ∧ u < 256 := by
  intro u hu
  unfold upTo paintL at hu
  obtain ⟨i, hi, rfl⟩ := List.mem_map.1 hu
  split
  · exact bang_bd hb _
  · exact bang_bd hp _
theorem runs_band {px s : List Int} {w h : Nat} (hw : w ≤ 128) (hh : h ≤ 128) (hb : ∀ v ∈ s, 0 ≤ v ∧ v < 256) {v : Nat} (hv : v < 256) (x y : Int) : inL (bandOf (runsTo px s w h)[v]!) x y ↔ 0 ≤ x ∧ x < w ∧ 0 ≤ y ∧ y < h ∧ s[(y * w + x).toNat]! = v ∧ px[(y * w + x).toNat]! ≠ v := by
  rw [bandOf_in]
  have e : (runsTo px s w h)[v]!.filter countsB = (runsTo px s w h)[v]! := List.filter_eq_self.2 fun r hr => by
    have := runs_rs hb hr
    unfold countsB fitsB
    simp only [Bool.and_eq_true, decide_eq_true_eq]; omega
  rw [e]; exact runs_in hb hv x y
theorem pgrid_p [Dr] (w h : Nat) (px s : List Int) (hw : w ≤ 128) (hh : h ≤ 128) (hl : px.length = w * h) (hs : s.length = w * h) (hp : ∀ v ∈ px, 0 ≤ v ∧ v < 256) (hb : ∀ v ∈ s, 0 ≤ v ∧ v < 256) :
    CallP Try.prog 17 [.iptr (plC w h px (.islc (encL cU s) s.length none)) 0] (gT w h s) := by
  have hlen := runsTo_len px s w h
  have hwh : h * w ≤ 128 * 128 := Nat.mul_le_mul hh hw
  refine CallP.intro2 au_pu au_pu ?_
  refine CallT.intro tab_ok Try.func17 rfl (by kernel_rfl) (Nat.le_of_ble_eq_true rfl) ?_
  refine VC.reg tab_ok [] rfl ?_
  refine VX.new rfl rfl ?_
  refine VX.nil ?_
  refine VC.reg tab_ok [] rfl ?_
  iterate 3 refine VX.meek rfl ?_
  first | refine VX.meek rfl ?_ | refine VX.loadI rfl rfl au_l ?_ | refine VX.loadP rfl rfl rfl au_l ?_
  refine VX.new rfl rfl ?_
  refine VX.store rfl rfl rfl rfl rfl au_sR rfl ?_
  refine VX.nil ?_
  refine VC.seq ?_
  refine VC.reg tab_ok [] rfl ?_
  refine VX.meek rfl ?_
  refine VX.callP0 rfl rfl rfl (changed_p w h px s hw hh hl hs hb) ?_
  iterate 2 refine VX.meek rfl ?_
  refine VX.nil ?_
  refine VC.block ?_
  refine VC.loopS (σ := Nat) (fun v => 256 - v) (fun v => v ≤ 256) (fun v => [(13, I64 v), (2, .ptr 0 0), (3, .ptr 1 0)]) (fun v => [.c [I64 0, I64 0, NIL], .c [I64 w, I64 h, .islc (encL cU (upTo w px s v)) px.length none]]) [11, 12] rfl (0) ?_ ?_ ?_
  · refine ⟨[some 0, some 1], rfl, by first | trivial | decide, by first | rfl | (simp only [noO, Bool.and_true, Bool.and_eq_true]; first | assumption | (refine ⟨?_, ?_⟩ <;> assumption)) | (simp only [noO, *, Bool.and_true, Bool.true_and, Bool.and_self]; done), ?_, ?_⟩ <;> (repeat' first | exact trivial | exact CvB_n | exact CvB_d | exact CvB_o rfl | refine CvE_app ?_ ?_ | refine CvE_cons rfl ?_ ?_ | refine CvH_cons ?_ ?_ | refine CvB_c rfl ?_ | fail) <;> first | exact au_v | (exact cv_g (Cv.eq (by rw [upTo_zero hl hb]) (encL_pure cU _)))
  · (try dsimp only); omega
  rintro v hv
  refine VC.reg tab_ok [] rfl ?_
  refine VX.meek rfl ?_
  refine VX.nil ?_
  refine VC.seq ?_
  refine VC.cond rfl (fun hc0 => ?_) (fun hc0 => ?_)
  · (try simp only [au_std] at hc0); have hvl : v < 256 := (by omega); have hfew := runsTo_few px s w h v; have hul := upTo_len w px s v
    refine VC.skip ?_
    refine VC.seq ?_
    refine VC.block ?_
    refine VC.reg tab_ok [] rfl ?_
    refine VX.meek rfl ?_
    first | refine VX.idxI rfl rfl rfl rfl rfl rfl (by omega) ?_ | refine VX.idxO0 rfl rfl rfl rfl rfl rfl rfl (by omega) ?_ | refine VX.idxO0 rfl rfl rfl rfl rfl rfl au_z (by omega) ?_ | refine VX.idxO rfl rfl rfl rfl rfl rfl rfl (by omega) ?_ | refine VX.idxI rfl rfl rfl rfl rfl au_z (by omega) ?_ | refine VX.idxO rfl rfl rfl rfl rfl rfl au_z (by omega) ?_ | refine VX.meek rfl ?_
    first | refine VX.meek rfl ?_ | refine VX.loadI rfl rfl au_l ?_ | refine VX.loadP rfl rfl rfl au_l ?_
    iterate 2 refine VX.meek rfl ?_
    refine VX.nil ?_
    refine VC.reg tab_ok [] rfl ?_
    iterate 3 refine VX.meek rfl ?_
    refine VX.nil ?_
    refine VC.cond rfl (fun hc1 => ?_) (fun hc1 => ?_)
    · (try simp only [au_std] at hc1); have hst : paintL w (inL (bandOf (runsTo px s w h)[v]!)) (flF v) (upTo w px s v) = upTo w px s (v + 1) := upTo_step (px := px) (s := s) hl (fun x y h1 h2 h3 h4 => by rw [runs_band hw hh hb hvl]; exact ⟨fun q => ⟨q.2.2.2.2.1, q.2.2.2.2.2⟩, fun q => ⟨h1, h2, h3, h4, q⟩⟩)
      refine VC.drwN tab_ok [] [_, _, _, _, _, _] rfl (by kernel_rfl) (by kernel_rfl) ?_
      first | refine VX.meek rfl ?_ | refine VX.loadI rfl rfl au_l ?_ | refine VX.loadP rfl rfl rfl au_l ?_
      refine VX.meek rfl ?_
      refine VX.callP0 rfl rfl rfl (of_p (runsTo px s w h)[v]! (by omega) (fun r hr => by have := runs_rs hb hr; unfold i64; omega)) ?_
      refine VX.meek rfl ?_
      refine VX.meek (t := U8 v) (by show some (T.v (.int .u8 (IntKind.u8.wrap (v : Int))), (none : Option (Nat × List T))) = _; rw [wrap_u8, Int.emod_eq_of_lt (by omega) (by omega)]) ?_
      refine VX.callP0 rfl rfl rfl (show CallP Try.prog 29 [.agg [I64 w, I64 h, .islc (encL cU (upTo w px s v)) px.length none], regT (bandOf (runsTo px s w h)[v]!), U8 v] (.agg [I64 w, I64 h, .islc (encL cU (upTo w px s (v + 1))) px.length none]) from by have q := fill_p w h (upTo w px s v) (bandOf (runsTo px s w h)[v]!) v hw hh (by rw [hul, hl]) (upTo_bd hp hb) (bandOf_rok _) (by have := box_len (bandOf_canon (runsTo px s w h)[v]!) w h (fun x y hi => by have := (runs_band hw hh hb hvl x y).1 hi; omega); have hq : (h + 1) * (w + 1) ≤ 129 * 129 := Nat.mul_le_mul (by omega) (by omega); omega); rw [hst] at q; simp only [gT, upTo_len] at q; exact q) ?_
      refine VX.nil ?_
      refine VX.store rfl rfl rfl rfl rfl au_sR rfl ?_
      refine VX.nil ?_
      refine VC.regN tab_ok [] rfl ?_
      first | refine VX.add rfl rfl (by omega) ?_ | refine VX.meek rfl ?_
      refine VX.meek rfl ?_
      refine VX.nil ?_
      refine ⟨v + 1, by (try dsimp only); omega, ?_, (by refine ⟨[some 0, some 1], rfl, by first | trivial | decide, by first | rfl | (simp only [noO, Bool.and_true, Bool.and_eq_true]; first | assumption | (refine ⟨?_, ?_⟩ <;> assumption)) | (simp only [noO, *, Bool.and_true, Bool.true_and, Bool.and_self]; done), ?_, ?_⟩ <;> (repeat' first | exact trivial | exact CvB_n | exact CvB_d | exact CvB_o rfl | refine CvE_app ?_ ?_ | refine CvE_cons rfl ?_ ?_ | refine CvH_cons ?_ ?_ | refine CvB_c rfl ?_ | fail) <;> first | exact au_v | (first | exact cv_g (Cv.pure rfl) | exact cv_g (Cv.pure (encL_pure cU _))))⟩
      (try dsimp only); omega
    · (try simp only [au_std] at hc1); have h0 : (runsTo px s w h)[v]! = [] := List.eq_nil_of_length_eq_zero (by omega); have hst : upTo w px s v = upTo w px s (v + 1) := (by
        have q := upTo_step (px := px) (s := s) (v := v) (V := fun x y => inL (runsTo px s w h)[v]! x y) hl (fun x y h1 h2 h3 h4 => by rw [runs_in hb hvl]; exact ⟨fun q => ⟨q.2.2.2.2.1, q.2.2.2.2.2⟩, fun q => ⟨h1, h2, h3, h4, q⟩⟩)
        rw [h0] at q; rw [← q]; exact (paint_none (h := h) (by rw [hul, hl]) (fun a b _ _ _ _ => inL_nil)).symm)
      refine VC.skip ?_
      refine VC.regN tab_ok [] rfl ?_
      first | refine VX.add rfl rfl (by omega) ?_ | refine VX.meek rfl ?_
      refine VX.meek rfl ?_
      refine VX.nil ?_
      refine ⟨v + 1, by (try dsimp only); omega, ?_, (by refine ⟨[some 0, some 1], rfl, by first | trivial | decide, by first | rfl | (simp only [noO, Bool.and_true, Bool.and_eq_true]; first | assumption | (refine ⟨?_, ?_⟩ <;> assumption)) | (simp only [noO, *, Bool.and_true, Bool.true_and, Bool.and_self]; done), ?_, ?_⟩ <;> (repeat' first | exact trivial | exact CvB_n | exact CvB_d | exact CvB_o rfl | refine CvE_app ?_ ?_ | refine CvE_cons rfl ?_ ?_ | refine CvH_cons ?_ ?_ | refine CvB_c rfl ?_ | fail) <;> first | exact au_v | (first | exact cv_g (Cv.pure rfl) | (rw [← hst]; exact cv_g (Cv.pure (encL_pure cU _)))))⟩
      (try dsimp only); omega
  · (try simp only [au_std] at hc0); obtain rfl : v = 256 := (by omega); rw [upTo_all hl hs hb]
    refine VC.exit ?_
    refine VC.reg tab_ok [] rfl ?_
    first | refine VX.meek rfl ?_ | refine VX.loadI rfl rfl au_l ?_ | refine VX.loadP rfl rfl rfl au_l ?_
    refine VX.store rfl rfl rfl rfl rfl au_sR rfl ?_
    refine VX.nil ?_
    refine VC.ret ?_
    refine ⟨trivial, _, rfl, Cv.agg (cv_g (Cv.eq (by rw [hl, hs]) (encL_pure cU _)))⟩
end
section
open Go.RowKit Go.Sort
set_option maxRecDepth 10000
set_option maxHeartbeats 4000000
end
section
open Go.RowKit Go.Sort
set_option maxRecDepth 10000
end
section
open Go.RowKit Go.Sort
set_option maxRecDepth 10000
theorem rect_ext {a b : Rect} : a = b ↔ a.X = b.X ∧ a.Y = b.Y ∧ a.W = b.W ∧ a.H = b.H := ⟨fun h => by subst h; exact ⟨rfl, rfl, rfl, rfl⟩, fun ⟨h1, h2, h3, h4⟩ => by cases a; cases b; simp at h1 h2 h3 h4; subst h1 h2 h3 h4; rfl⟩
instance : DecidableEq Rect := fun a b => decidable_of_iff _ rect_ext.symm
end
section
open Go.RowKit Go.Sort
set_option maxRecDepth 10000
abbrev plT (b w h : Nat) (px : List Int) : T := .iptr (plC w h px (nwT b px.length)) 0
end
section
open Go.RowKit Go.Sort
set_option maxRecDepth 10000
theorem pgrid_n [Dr] (w h : Nat) (px s : List Int) (n : Nat) (hn : s.length = n) (hw : w ≤ 128) (hh : h ≤ 128) (hl : px.length = w * h) (hs : s.length = w * h) (hp : ∀ v ∈ px, 0 ≤ v ∧ v < 256) (hb : ∀ v ∈ s, 0 ≤ v ∧ v < 256) :
    CallP Try.prog 17 [.iptr (plC w h px (.islc (encL cU s) n none)) 0] (gT w h s) := by
  subst hn; exact pgrid_p w h px s hw hh hl hs hp hb
end
section
open Go.RowKit
def AllI (p : Nat → Prop) : List Nat → Prop
  | [] => True
  | i :: is => p i ∧ AllI p is
theorem allI_at {p : Nat → Prop} : ∀ {is : List Nat}, AllI p is → ∀ i ∈ is, p i
  | [], _, i, h => by cases h
  | j :: is, ⟨h1, h2⟩, i, h => by
    rcases List.mem_cons.1 h with rfl | h
    · exact h1
    · exact allI_at h2 i h
def AnyV [Dr] (P : Program) (tab : Tab) (im : List Nat) (l : List Oper) (K : Env → Hp → Prop) : Nat → Array Bool → Env → Hp → Prop
  | 0, listed, E, H => Region.ready .any l.toArray listed = [] ∧ K E H
  | f + 1, listed, E, H => (Region.ready .any l.toArray listed = [] → K E H) ∧
      AllI (fun i => ∃ o, l[i]? = some o ∧ VX false P tab im (l.map (·.dst)) [o] E H fun E' H' => AnyV P tab im l K f (listed.setIfInBounds i true) E' H') (Region.ready .any l.toArray listed)
section
variable {z : Bool} {P : Program} {tab : Tab} {n kb lb : Nat} {im : List Nat} {l : List Oper} {E : Env} {H : Hp} {K : Env → Hp → Prop} {X0 : Nat → Prop} {a : Act} {M : Mp}
theorem op_ok [Dr] (hT : TabOk P tab) {o : Oper} {i : Nat} {KV : Env → Hp → Prop} {r : Option Nat} {Q : Exit → Act → World → Prop} {KA : Act → World → Prop} (ho : l[i]? = some o) (hd : dstB n l = true) (hs : St n kb E H X0 a M)
    (hv : VX false P tab im (l.map (·.dst)) [o] E H KV) (hK : ∀ E' H' a' M', KV E' H' → Evo X0 M M' → St n kb E' H' X0 a' M' → KA a' M'.w) : wpOpIn (FW r) 0 P l.toArray Q i KA a M.w := by
  have hdo : ∀ k, o.dst = some k → k < n := fun k hk => by
    unfold dstB at hd
    rw [List.all_eq_true] at hd
    have := hd o (List.mem_of_getElem? ho)
    rw [hk] at this; simpa using this
  have hv : vcSeq P tab im (l.toArray.toList.map (·.dst)) [o] E H (fun E' H' => ∃ E1, Sub E1 E' ∧ KV E1 H') := hv E (Sub.refl E)
  have hg := vcGuard_ok (ops := l.toArray) hs hv
  unfold wpOpIn
  simp only [List.getElem?_toArray, ho]
  split
  · rename_i hw
    rw [if_pos hw] at hg
    refine vcOp_ok hT hs hdo (fun E' H' a' M' hk he hs' => ?_) hg
    obtain ⟨E1, h1, h2⟩ := hk
    exact hK E1 H' a' M' h2 he (hs'.eqv h1)
  · rename_i hw
    rw [if_neg hw] at hg
    obtain ⟨E1, h1, h2⟩ := hg
    exact ⟨fun _ _ => trivial, hK E1 H _ M h2 (Evo.refl _ _) ((hs.put (Evo.refl _ _) hs.sim (t := .v undef) rfl hdo).eqv h1)⟩
theorem any_ok [Dr] (hT : TabOk P tab) {r : Option Nat} {Q : Exit → Act → World → Prop} (hd : dstB n l = true) : ∀ (f : Nat) (listed : Array Bool) {E : Env} {H : Hp} {a : Act} {M : Mp}, St n kb E H X0 a M → (∀ E' H' a' M', K E' H' → Evo X0 M M' → St n kb E' H' X0 a' M' → Q .normal a' M'.w) → AnyV P tab im l K f listed E H → wpAnyIn (FW r) 0 P .any l.toArray Q f listed a M.w
  | 0, listed, E, H, a, M, hs, hK, hv => ⟨hv.1, hK E H a M hv.2 (Evo.refl _ _) hs⟩
  | f + 1, listed, E, H, a, M, hs, hK, hv => by
    refine ⟨fun h0 => hK E H a M (hv.1 h0) (Evo.refl _ _) hs, fun i hi => ?_⟩
    obtain ⟨o, ho, hx⟩ := allI_at hv.2 i hi
    exact op_ok hT ho hd hs hx fun E' H' a' M' k1 k2 k3 => any_ok hT hd f _ k3 (fun E2 H2 a2 M2 q1 q2 q3 => hK E2 H2 a2 M2 q1 (k2.trans q2) q3) k1
theorem VC.any [Dr] {id : Nat} {QT : Exit → Env → Hp → Prop} (hT : TabOk P tab) (im : List Nat) (hm : P.follows .mixedOrders = true) (hd : dstB n l = true) (h : AnyV P tab im l (QT .normal) l.length (Array.replicate l.length false) E H) : VC z P n lb (.region id l.toArray true) QT E H := by
  intro X0 M a r0 kb hz hs
  refine wpIn_region_any hm ?_
  let M1 : Mp := ⟨M.β, M.X, { M.w with drawn := M.w.drawn + 1 }⟩
  have hE1 : Evo X0 M M1 := ⟨fun _ _ h => h, fun _ _ h => h, fun _ _ _ => rfl, fun _ _ h => h, rfl, ⟨rfl, fun _ => Nat.le_succ _⟩, rfl, Nat.le_refl _⟩
  have hs1 : St n kb E H X0 a M1 := ⟨fun d t ht => by obtain ⟨u, q1, q2⟩ := hs.tm d t ht; exact ⟨u, q1, Rep.stays hE1.stays _ _ q2⟩, hs.sz, hs.df.evo hE1, hs.ge, hs.sim.world hE1 fun _ _ => rfl⟩
  exact any_ok (r := r0) (Q := Lift n kb lb X0 M QT) hT hd l.toArray.size _ hs1 (fun E' H' a' M' k1 k2 k3 => ⟨E', H', M', k1, rfl, (hE1.trans k2).toK lb, k3⟩) h
theorem AnyV.more [Dr] {f : Nat} {listed : Array Bool} (is : List Nat) (hr : Region.ready .any l.toArray listed = is) (hn : is ≠ []) (h : AllI (fun i => ∃ o, l[i]? = some o ∧ VX false P tab im (l.map (·.dst)) [o] E H fun E' H' => AnyV P tab im l K f (listed.setIfInBounds i true) E' H') is) : AnyV P tab im l K (f + 1) listed E H :=
  ⟨fun h0 => absurd (hr.symm.trans h0) hn, by rw [hr]; exact h⟩
theorem AnyV.fin [Dr] {f : Nat} {listed : Array Bool} (hr : Region.ready .any l.toArray listed = []) (h : K E H) : AnyV P tab im l K f listed E H := by
  cases f with
  | zero => exact ⟨hr, h⟩
  | succ f => exact ⟨fun _ => h, by rw [hr]; trivial⟩
end
end
section
open Go.RowKit Go.Sort
set_option maxRecDepth 10000
end
section
open Go.RowKit Go.Sort
set_option maxRecDepth 10000
end
section
open Go.RowKit Go.Sort
set_option maxRecDepth 10000
set_option maxHeartbeats 4000000
section
variable {q : Bool} {P : Program} {tab : Tab} {im : List Nat} {ds : List (Option Nat)} {l : List Oper} {E : Env} {H : Hp} {K : Env → Hp → Prop} {d : Nat} {ty : TypeId} {pos : String} {after : Array Edge}
theorem VX.quo [Dr] {x y : Operand} {t t2 : Nat} {a c : Int} (hx : E.opd x = some (I64 a)) (hy : E.opd y = some (I64 c)) (ha : 0 ≤ a) (ha2 : a ≤ 9000000000000000000) (hc : 0 < c) (k : VX q P tab im ds l ((d, I64 (a / c)) :: E) H K) : VX q P tab im ds (⟨some d, .binOp .quo t x y t2, ty, pos, after, none⟩ :: l) E H K := by
  refine VX.meek (t := I64 (a / c)) ?_ k
  have h1 : a / c ≤ a := Int.ediv_le_self c ha
  have h2 : 0 ≤ a / c := Int.ediv_nonneg ha (by omega)
  have hc' : ¬ c = 0 := by omega
  simp only [opM, hx, hy, mBin, binInt]
  rw [if_neg hc', Int.tdiv_eq_ediv_of_nonneg ha, wrap_in (by omega)]
  rfl
theorem VX.rem [Dr] {x y : Operand} {t t2 : Nat} {a c : Int} (hx : E.opd x = some (I64 a)) (hy : E.opd y = some (I64 c)) (ha : 0 ≤ a) (hc : 0 < c) (k : VX q P tab im ds l ((d, I64 (a % c)) :: E) H K) : VX q P tab im ds (⟨some d, .binOp .rem t x y t2, ty, pos, after, none⟩ :: l) E H K := by
  refine VX.meek (t := I64 (a % c)) ?_ k
  have hc' : ¬ c = 0 := by omega
  simp only [opM, hx, hy, mBin, binInt]
  rw [if_neg hc', Int.tmod_eq_emod_of_nonneg ha]
  rfl
end
end
section
open Go.RowKit Go.Sort
set_option maxRecDepth 10000
end
section
open Go.RowKit Go.Sort
set_option maxRecDepth 10000
section
variable {P : Program} {tab : Tab} {im : List Nat} {ops : Array Oper} {l : List Oper} {E : Env} {Hm F : Hp} {K : Env → Hp → Prop} {wd : List Bool} {d : Nat} {ty : TypeId} {pos : String} {after : Array Edge}
theorem VD.add [Dr] {x y : Operand} {t t2 : Nat} {a b : Int} (hx : E.opd x = some (I64 a)) (hy : E.opd y = some (I64 b)) (h : -9223372036854775808 ≤ a + b ∧ a + b ≤ 9223372036854775807) (k : VD P tab im ops Hm l wd ((d, I64 (a + b)) :: E) F K) : VD P tab im ops Hm (⟨some d, .binOp .add t x y t2, ty, pos, after, none⟩ :: l) (false :: wd) E F K :=
  VD.meek (t := I64 (a + b)) (by simp only [opM, hx, hy, mBin, binInt, wrap_in h]; rfl) k
theorem VD.mul [Dr] {x y : Operand} {t t2 : Nat} {a b : Int} (hx : E.opd x = some (I64 a)) (hy : E.opd y = some (I64 b)) (h : -9223372036854775808 ≤ a * b ∧ a * b ≤ 9223372036854775807) (k : VD P tab im ops Hm l wd ((d, I64 (a * b)) :: E) F K) : VD P tab im ops Hm (⟨some d, .binOp .mul t x y t2, ty, pos, after, none⟩ :: l) (false :: wd) E F K :=
  VD.meek (t := I64 (a * b)) (by simp only [opM, hx, hy, mBin, binInt, wrap_in h]; rfl) k
end
def atG (w h : Nat) (px : List Int) (x y : Int) : Int := if inB' w h x y = true then px[(y * w + x).toNat]! else 0
theorem inB_iff {w h : Nat} {x y : Int} : inB' w h x y = true ↔ 0 ≤ x ∧ x < w ∧ 0 ≤ y ∧ y < h := by unfold inB'; simp only [Bool.and_eq_true, decide_eq_true_eq]; omega
end
section
open Go.RowKit Go.Sort
set_option maxRecDepth 10000
end
section
open Go.RowKit Go.Sort
set_option maxRecDepth 10000
end
section
open Go.RowKit Go.Sort
set_option maxRecDepth 10000
theorem gnew_p [Dr] (w h : Nat) (p : Int) (hw : 1 ≤ w ∧ w ≤ 128) (hh : 1 ≤ h ∧ h ≤ 128) : CallP Try.prog 9 [I64 w, I64 h, U8 p] (.tup [gT w h (List.replicate (w * h) p), I64 0]) := new_yes w h p hw hh
theorem gset_n [Dr] (w h : Nat) (px : List Int) (n : Nat) (hn : px.length = n) (x y p : Int) (hw : w ≤ 128) (hh : h ≤ 128) (hl : px.length = w * h) (hb : ∀ v ∈ px, 0 ≤ v ∧ v < 256) (hx : 0 ≤ x ∧ x < w) (hy : 0 ≤ y ∧ y < h) :
    CallP Try.prog 10 [.agg [I64 w, I64 h, .islc (encL cU px) n none], I64 x, I64 y, U8 p] (.agg [I64 w, I64 h, .islc (encL cU (px.set (y * w + x).toNat p)) n none]) := by
  have k := gset_p ⟨w, h, px⟩ ⟨hw, hh, hl, hb⟩ x y p
  have e : Pic.set ⟨w, h, px⟩ x y p = ⟨w, h, px.set (y * w + x).toNat p⟩ := if_pos (show inB' w h x y = true from inB_iff.2 ⟨hx.1, hx.2, hy.1, hy.2⟩)
  rw [e] at k
  subst hn
  have k2 : CallP Try.prog 10 [gT w h px, I64 x, I64 y, U8 p] (gT w h (px.set (y * w + x).toNat p)) := k
  simp only [gT, List.length_set] at k2
  exact k2
theorem gat_p [Dr] (w h : Nat) (px : List Int) (x y : Int) (hw : w ≤ 128) (hh : h ≤ 128) (hl : px.length = w * h) (hb : ∀ v ∈ px, 0 ≤ v ∧ v < 256) : CallP Try.prog 18 [gT w h px, I64 x, I64 y] (U8 (atG w h px x y)) := at_p ⟨w, h, px⟩ ⟨hw, hh, hl, hb⟩ x y
theorem repl_at (n i : Nat) : (List.replicate n (0 : Int))[i]! = 0 := by
  rw [List.getElem!_eq_getElem?_getD, List.getElem?_replicate]; split <;> rfl
end
section
open Go.RowKit Go.Sort
set_option maxRecDepth 10000
section
variable {q : Bool} {P : Program} {tab : Tab} {im : List Nat} {ds : List (Option Nat)} {l : List Oper} {E : Env} {H : Hp} {K : Env → Hp → Prop} {d : Nat} {ty : TypeId} {pos : String} {after : Array Edge}
theorem VX.remU [Dr] {x y : Operand} {t t2 : Nat} {a c : Int} (hx : E.opd x = some (U8 a)) (hy : E.opd y = some (U8 c)) (ha : 0 ≤ a) (hc : 0 < c) (k : VX q P tab im ds l ((d, U8 (a % c)) :: E) H K) : VX q P tab im ds (⟨some d, .binOp .rem t x y t2, ty, pos, after, none⟩ :: l) E H K := by
  refine VX.meek (t := U8 (a % c)) ?_ k
  have hc' : ¬ c = 0 := by omega
  simp only [opM, hx, hy, mBin, binInt]
  rw [if_neg hc', Int.tmod_eq_emod_of_nonneg ha]
  rfl
end
def smOk (s : Rect) : Prop := -128 ≤ s.X ∧ s.X ≤ 127 ∧ -128 ≤ s.Y ∧ s.Y ≤ 127 ∧ 0 ≤ s.W ∧ s.W < 256 ∧ 0 ≤ s.H ∧ s.H < 256
end
section
open Go.RowKit
def visH (fl : Bool) (F : Hp) : Hp := if fl then F else List.replicate F.length .d
def wOkG : List Wr → Hp → Prop
  | [], _ => True
  | (b, o, xs) :: W, F => match lookH F b with
    | some cs => o + xs.length ≤ cs.length ∧ xs.all cellB = true ∧ wOkG W (setH F b (.c (putL cs o xs)))
    | none => False
inductive RunT [Dr] (P : Program) (tab : Tab) (im : List Nat) (ops : Array Oper) : List Oper → Env → Hp → List Stp → List Bool → List (Option Wr) → Env → Hp → Prop
  | nil (E : Env) (F : Hp) : RunT P tab im ops [] E F [] [] [] E F
  | one {o : Oper} {l : List Oper} {E : Env} {F : Hp} {s : Stp} {f : Bool} {r : List Stp} {fs : List Bool} {ws : List (Option Wr)} {E' : Env} {F' : Hp} (h : StpOk P tab im ops o E (visH f F) s)
      (k : RunT P tab im ops l (E.put o.dst s.t) (F ++ newsOf s.nb) r fs ws E' F') : RunT P tab im ops (o :: l) E F (s :: r) (f :: fs) (none :: ws) E' F'
  | sto {o : Oper} {l : List Oper} {E : Env} {F : Hp} {t : Nat} {a x : Operand} {b q : Nat} {tx : T} {i : TyI} {r : List Stp} {fs : List Bool} {ws : List (Option Wr)} {E' : Env} {F' : Hp} (hg : o.guard = none) (hd : o.dst = none) (ho : o.op = .store t a x) (hT : tab t = some i) (ha : E.opd a = some (.ptr b q)) (hx : E.opd x = some tx)
      (hl : (flat tx).length = i.sz) (k : RunT P tab im ops l E F r fs ws E' F') : RunT P tab im ops (o :: l) E F (⟨.v undef, none⟩ :: r) (false :: fs) (some (b, q, flat tx) :: ws) E' F'
def VT [Dr] (P : Program) (tab : Tab) (im : List Nat) (ops : Array Oper) (l : List Oper) (E : Env) (F : Hp) (W : List Wr) (fl : List Bool) (K : Env → Hp → List Bool → Prop) : Prop :=
  ∀ E2, Sub E E2 → ∃ r fs ws E' F', RunT P tab im ops l E2 F r fs ws E' F' ∧ wOkG (W ++ ws.filterMap (·)) F' ∧ ∃ E1, Sub E1 E' ∧ K E1 (appW (W ++ ws.filterMap (·)) F') (fl ++ fs)
section
variable {z : Bool} {P : Program} {tab : Tab} {n lb : Nat} {im : List Nat} {ops : Array Oper} {l : List Oper} {E : Env} {F : Hp} {W : List Wr} {fl : List Bool} {K : Env → Hp → List Bool → Prop}
theorem VT.nil [Dr] (hw : wOkG W F) (h : K E (appW W F) fl) : VT P tab im ops [] E F W fl K := fun E2 he =>
  ⟨[], [], [], E2, F, .nil _ _, by simpa using hw, E, he, by simpa using h⟩
theorem VT.sto [Dr] {t : Nat} {a x : Operand} {ty : TypeId} {pos : String} {after : Array Edge} {b q : Nat} {tx : T} {i : TyI} (hT : tab t = some i) (ha : E.opd a = some (.ptr b q)) (hx : E.opd x = some tx) (hl : (flat tx).length = i.sz) (k : VT P tab im ops l E F (W ++ [(b, q, flat tx)]) (fl ++ [false]) K) : VT P tab im ops (⟨none, .store t a x, ty, pos, after, none⟩ :: l) E F W fl K := fun E2 he => by
  obtain ⟨r, fs, ws, E', F', h1, h2, E1, h3, h4⟩ := k _ he
  refine ⟨⟨.v undef, none⟩ :: r, false :: fs, some (b, q, flat tx) :: ws, E', F', .sto rfl rfl rfl hT (he.opd ha) (he.opd hx) hl h1, ?_, E1, h3, ?_⟩
  · simpa using h2
  · simpa using h4
theorem run_runT [Dr] {f : Bool} {l1 l2 : List Oper} {E1 : Env} {H1 : Hp} {H0 : Hp} {r1 : List Stp} (h : Run P tab im ops l1 E H0 r1 E1 H1) (hno : H1 = H0) (hf : H0 = visH f F) : ∀ {r : List Stp} {fs : List Bool} {ws : List (Option Wr)} {E' : Env} {F' : Hp}, RunT P tab im ops l2 E1 F r fs ws E' F' →
    ∃ r' fs' ws', RunT P tab im ops (l1 ++ l2) E F r' fs' ws' E' F' ∧ ws'.filterMap (·) = ws.filterMap (·) ∧ fs' = List.replicate l1.length f ++ fs := by
  induction h with
  | nil E H => intro r fs ws E' F' k; exact ⟨r, fs, ws, k, rfl, rfl⟩
  | @cons o l E H s r1 E1 H1 h k ih =>
    intro r fs ws E' F' k2
    obtain ⟨x, hx⟩ := run_ext k
    have e : newsOf s.nb = [] := by
      rw [hno, List.append_assoc] at hx
      have := List.append_cancel_left (show H ++ [] = H ++ (newsOf s.nb ++ x) by rw [List.append_nil]; exact hx)
      exact (List.append_eq_nil_iff.1 this.symm).1
    rw [e, List.append_nil] at k ih
    obtain ⟨r', fs', ws', g1, g2, g3⟩ := ih hno hf k2
    refine ⟨s :: r', f :: fs', none :: ws', .one (hf ▸ h) (by rw [e, List.append_nil]; exact g1), by simpa using g2, by rw [g3]; rfl⟩
theorem VT.seg [Dr] {l1 l2 : List Oper} (f : Bool) (hl : l = l1 ++ l2) (h : VX true P tab im (ops.toList.map (·.dst)) l1 E (visH f F) fun E1 H1 => H1 = visH f F ∧ VT P tab im ops l2 E1 F W (fl ++ List.replicate l1.length f) K) : VT P tab im ops l E F W fl K := fun E2 he => by
  subst hl
  obtain ⟨r1, E1, H1, hr, E3, he3, hh, hv⟩ := vcDraw_run (ops := ops) _ _ _ (h E2 he)
  obtain ⟨r, fs, ws, E', F', k1, k2, E4, k3, k4⟩ := hv _ he3
  obtain ⟨r', fs', ws', g1, g2, g3⟩ := run_runT (f := f) hr hh rfl k1
  exact ⟨r', fs', ws', E', F', g1, by rw [g2]; exact k2, E4, k3, by rw [g2, g3, ← List.append_assoc]; exact k4⟩
end

end
section
open Go.RowKit Go.Sort
set_option maxRecDepth 10000
def mvR (dx dy : Int) (r : Rect) : Rect := ⟨max (r.X + dx) (-1048576), max (r.Y + dy) (-1048576), min (r.X + dx + r.W) 1048576 - max (r.X + dx) (-1048576), min (r.Y + dy + r.H) 1048576 - max (r.Y + dy) (-1048576)⟩
def farB (dx dy : Int) : Bool := decide (dx < -2097152) || decide (2097152 < dx) || decide (dy < -2097152) || decide (2097152 < dy)
noncomputable def shiftR (R : List Rect) (dx dy : Int) : List Rect := if farB dx dy = true then [] else bandOf (R.map (mvR dx dy))
end
section
open Go.RowKit Go.Sort
set_option maxRecDepth 10000
end
section
open Go.RowKit Go.Sort
set_option maxRecDepth 10000
def inQ (x y : Int) : Prop := -1048576 ≤ x ∧ x < 1048576 ∧ -1048576 ≤ y ∧ y < 1048576
theorem inL_rok {R : List Rect} (hr : ∀ r ∈ R, rok r) {x y : Int} (h : inL R x y) : inQ x y := by
  obtain ⟨r, h1, h2⟩ := h
  have := hr r h1
  unfold rok at this; unfold Rect.has at h2; unfold inQ; omega
theorem mv_has {dx dy : Int} {r : Rect} (hr : rok r) (x y : Int) : (countsB (mvR dx dy r) = true ∧ (mvR dx dy r).has x y) ↔ r.has (x - dx) (y - dy) ∧ inQ x y := by
  unfold rok at hr
  unfold countsB fitsB Rect.has mvR inQ
  simp only [Bool.and_eq_true, decide_eq_true_eq]
  omega
theorem shift_in {R : List Rect} (hr : ∀ r ∈ R, rok r) (dx dy x y : Int) : inL (shiftR R dx dy) x y ↔ inL R (x - dx) (y - dy) ∧ inQ x y := by
  unfold shiftR
  split
  · rename_i hf
    constructor
    · intro h; exact absurd h inL_nil
    · rintro ⟨h1, h2⟩
      exfalso
      have h3 := inL_rok hr h1
      unfold farB at hf
      simp only [Bool.or_eq_true, decide_eq_true_eq] at hf
      unfold inQ at h2 h3
      omega
  · rw [bandOf_in]
    constructor
    · rintro ⟨q, hq, hh⟩
      obtain ⟨h1, h2⟩ := List.mem_filter.1 hq
      obtain ⟨r, hr1, rfl⟩ := List.mem_map.1 h1
      have := (mv_has (hr r hr1) x y).1 ⟨h2, hh⟩
      exact ⟨⟨r, hr1, this.1⟩, this.2⟩
    · rintro ⟨⟨r, hr1, h1⟩, h2⟩
      have := (mv_has (hr r hr1) x y).2 ⟨h1, h2⟩
      exact ⟨_, List.mem_filter.2 ⟨List.mem_map.2 ⟨r, hr1, rfl⟩, this.1⟩, this.2⟩
theorem Reg.shift {n : Nat} {R : List Rect} (h : Reg n R) (dx dy : Int) : Reg (n + 2) (shiftR R dx dy) := by
  obtain ⟨xs, ys, h1, h2, h3⟩ := h.few
  refine ⟨?_, ?_, xs.map (· + dx) ++ [-1048576, 1048576], ys.map (· + dy) ++ [-1048576, 1048576], by simp; omega, by simp; omega, ?_, ?_⟩
  · unfold shiftR; split
    · exact canon_nil
    · exact bandOf_canon _
  · unfold shiftR; split
    · intro r hr; cases hr
    · exact bandOf_rok _
  · intro x y hx
    simp only [List.mem_append, List.mem_map, List.mem_cons, List.mem_nil_iff, or_false, not_or] at hx
    have hx1 : x - dx ∉ xs := fun hh => hx.1 ⟨_, hh, by omega⟩
    rw [shift_in h.ok, shift_in h.ok, show x - 1 - dx = x - dx - 1 from by omega, h3.1 (x - dx) (y - dy) hx1]
    unfold inQ
    have e1 := hx.2.1; have e2 := hx.2.2
    constructor
    · rintro ⟨a, b⟩; exact ⟨a, by omega⟩
    · rintro ⟨a, b⟩; exact ⟨a, by omega⟩
  · intro x y hy
    simp only [List.mem_append, List.mem_map, List.mem_cons, List.mem_nil_iff, or_false, not_or] at hy
    have hy1 : y - dy ∉ ys := fun hh => hy.1 ⟨_, hh, by omega⟩
    rw [shift_in h.ok, shift_in h.ok, show y - 1 - dy = y - dy - 1 from by omega, h3.2 (x - dx) (y - dy) hy1]
    unfold inQ
    have e1 := hy.2.1; have e2 := hy.2.2
    constructor
    · rintro ⟨a, b⟩; exact ⟨a, by omega⟩
    · rintro ⟨a, b⟩; exact ⟨a, by omega⟩
end
section
open Go.ChangeShapes Go.WideShapes Go.ChangeAt Go.RowKit Go.WideElems
inductive Sh where
  | int (k : IntKind)
  | bool
  | str
  | st (l : List Sh)
  | sl (e : Sh)
mutual
def Sh.fits (P : Program) : Sh → TypeId → Bool
  | .int k, t => match P.underlying t with | some (.int k') => decide (k' = k) | _ => false
  | .bool, t => match P.underlying t with | some .bool => true | _ => false
  | .str, t => match P.underlying t with | some .string => true | _ => false
  | .st l, t => match P.underlying t with | some (.struct fs) => Sh.fitsL P l fs.toList 0 (P.cellsOf t) | _ => false
  | .sl e, t => match P.underlying t with | some (.slice u) => Sh.fits P e u && decide (0 < P.cellsOf u) && decide (P.cellsOf t = 1) | _ => false
def Sh.fitsL (P : Program) : List Sh → List Field → Nat → Nat → Bool
  | [], [], o, n => o == n
  | s :: l, f :: fs, o, n => f.offset == o && Sh.fits P s f.type && Sh.fitsL P l fs (o + P.cellsOf f.type) n
  | _, _, _, _ => false
end
def nth (p : List T → Prop) : Nat → List T → Prop
  | 0, xs => xs = []
  | n + 1, xs => ∃ a b, xs = a ++ b ∧ p a ∧ nth p n b
mutual
def Sh.wt : Sh → List T → Prop
  | .int k, ts => ∃ n, ts = [.v (.int k n)] ∧ (Lit.int k n).wf = true
  | .bool, ts => ∃ b, ts = [.v (.bool b)]
  | .str, ts => ∃ s : ByteArray, ts = [.v (.string s)] ∧ s.size ≤ maxLen
  | .st l, ts => Sh.wtL l ts
  | .sl e, ts => ∃ xs n, ts = [.islc xs n none] ∧ n ≤ maxLen ∧ nth (Sh.wt e) n xs
def Sh.wtL : List Sh → List T → Prop
  | [], ts => ts = []
  | s :: l, ts => ∃ a b, ts = a ++ b ∧ Sh.wt s a ∧ Sh.wtL l b
end
def inW (β : Nat → Option (Option (Nat × Nat))) (W : World) : Mp := ⟨β, fun _ => False, W⟩
theorem RepA.app {M : Mp} : ∀ {ts ss : List T} {a : Array Value} {j : Nat}, RepA M ts a j → RepA M ss a (j + ts.length) → RepA M (ts ++ ss) a j
  | [], ss, a, j, _, h => h
  | t :: ts, ss, a, j, ⟨u, h1, h2, h3⟩, h => ⟨u, h1, h2, RepA.app h3 (by rw [show j + 1 + ts.length = j + (t :: ts).length from by rw [List.length_cons]; omega]; exact h)⟩
theorem cell_block {W : World} {B o : Nat} {v : Value} (h : W.cell? ⟨B, o, none⟩ = some v) : ∃ a e f, W.heap[B]? = some (.cells a e f) := by
  unfold World.cell? at h
  split at h
  · rename_i c e f hh
    exact ⟨c, e, f, hh⟩
  · cases h
theorem cell_inW {W : World} {B o : Nat} {a : Array Value} {e : TypeId} {f : Nat × Nat} (h : W.heap[B]? = some (.cells a e f)) : W.cell? ⟨B, o, none⟩ = a[o]? := by
  unfold World.cell?
  rw [h]
  rfl
theorem add_n (B o i : Nat) : (Addr.add ⟨B, o, none⟩ i) = ⟨B, o + i, none⟩ := by
  unfold Addr.add
  split
  · subst_vars; rfl
  · rfl
section
variable {H : Type} {enc : TypeId × Value → H} {P : Program} {W : World} {sp : Nat → Bool} {held : Bool} {β : Nat → Option (Option (Nat × Nat))}
mutual
theorem open_sh : ∀ (s : Sh) {t : TypeId} {fuel : Nat} {cs : List Value} {x : DataW H × List MemPlace}, s.fits P t = true → DataW.trod enc P W 0 sp held fuel t cs = some x → cs.length = P.cellsOf t → ∃ ts, RepL (inW β W) ts cs ∧ s.wt ts
  | .int k, t, fuel, cs, x, hs, h, hl => by
    unfold Sh.fits at hs
    split at hs
    · rename_i k' hu
      obtain rfl : k' = k := of_decide_eq_true hs
      obtain ⟨n, rfl, _, hw⟩ := DataW.trod_int hu h
      exact ⟨[.v (.int k' n)], ⟨_, _, rfl, rfl, rfl⟩, n, rfl, hw⟩
    · cases hs
  | .bool, t, fuel, cs, x, hs, h, hl => by
    unfold Sh.fits at hs
    split at hs
    · rename_i hu
      cases fuel with
      | zero => simp [DataW.trod] at h
      | succ n =>
        unfold DataW.trod at h
        rw [hu] at h
        split at h <;> simp_all
        exact ⟨[.v (.bool _)], ⟨_, _, rfl, rfl, rfl⟩, _, rfl⟩
    · cases hs
  | .str, t, fuel, cs, x, hs, h, hl => by
    unfold Sh.fits at hs
    split at hs
    · rename_i hu
      obtain ⟨s, rfl, _, hw⟩ := DataW.trod_string hu h
      exact ⟨[.v (.string s)], ⟨_, _, rfl, rfl, rfl⟩, s, rfl, hw⟩
    · cases hs
  | .st l, t, fuel, cs, x, hs, h, hl => by
    unfold Sh.fits at hs
    split at hs
    · rename_i fs hu
      obtain ⟨xs, n, -, -, hc, hx, hf⟩ := DataW.trod_struct hu h
      have := open_shL l (fs := fs.toList) (o := 0) (n := P.cellsOf t) (cs := cs) (m := n) hs hc (fun f hm => by
        obtain ⟨i, hi⟩ := List.getElem?_of_mem hm
        have hi2 : fs[i]? = some f := by simpa using hi
        have h1 := hf i f hi2
        have hlt : i < xs.length := by rw [hx]; exact (Array.getElem?_eq_some_iff.1 hi2).1
        exact ⟨xs[i], by rw [h1, List.getElem?_eq_getElem hlt]⟩)
      rw [List.drop_zero] at this
      exact this
    · cases hs
  | .sl e, t, fuel, cs, x, hs, h, hl => by
    unfold Sh.fits at hs
    split at hs
    · rename_i u hu
      simp only [Bool.and_eq_true, decide_eq_true_eq] at hs
      obtain ⟨hs, -⟩ := hs
      rcases DataW.trod_slice hu h with ⟨rfl, -⟩ | ⟨a, len, cap, elems, rest, m, -, rfl, -, -, hle, hcap, hlen, hel, -, -⟩
      · exact ⟨[.islc [] 0 none], ⟨_, _, rfl, ⟨none, 0, rfl, Nat.le_refl _, Nat.zero_le _, fun q hq => (by cases hq), .inl ⟨rfl, rfl⟩⟩, rfl⟩, [], 0, rfl, Nat.zero_le _, rfl⟩
      · by_cases hn : len = 0
        · subst hn
          exact ⟨[.islc [] 0 none], ⟨_, _, rfl, ⟨some a, cap, rfl, Nat.zero_le _, hcap, fun q hq => (by cases hq), .inl ⟨rfl, rfl⟩⟩, rfl⟩, [], 0, rfl, Nat.zero_le _, rfl⟩
        · have h0 := hel 0 (by omega)
          have hsome : ∀ i, i < len → ∃ cs' y, W.cells? 0 (a.add (i * P.cellsOf u)) (P.cellsOf u) = some cs' ∧ DataW.trod enc P W 0 sp held m u cs' = some y := fun i hi => by
            have hq := hel i hi
            rw [List.getElem?_eq_getElem (by omega), Option.bind_eq_some_iff] at hq
            obtain ⟨cs', h1, h2⟩ := hq
            exact ⟨cs', _, h1, h2⟩
          obtain ⟨ab, ao, asx⟩ := a
          obtain ⟨cs0, y0, c1, -⟩ := hsome 0 (by omega)
          obtain ⟨-, c2, c3⟩ := World.cells?_some c1
          have c4 := c3 0 hs.2
          rw [List.getElem?_eq_getElem (by omega)] at c4
          have hspot : asx = none := by simpa [Addr.add] using World.cell?_spot c4
          subst hspot
          rw [add_n, add_n] at c4
          obtain ⟨arr, e1, f1, hB⟩ := cell_block c4
          have build : ∀ n i, i + n ≤ len → ∃ xs, nth e.wt n xs ∧ RepA (inW β W) xs arr (ao + i * P.cellsOf u) := by
            intro n
            induction n with
            | zero => exact fun i _ => ⟨[], rfl, trivial⟩
            | succ n ih =>
              intro i hi
              obtain ⟨xs, k1, k2⟩ := ih (i + 1) (by omega)
              obtain ⟨cs', y, g1, g2⟩ := hsome i (by omega)
              obtain ⟨-, g3, g4⟩ := World.cells?_some g1
              obtain ⟨ts, r1, r2⟩ := open_sh e hs.1 g2 g3
              have hlen' : ts.length = P.cellsOf u := by rw [← r1.length, g3]
              refine ⟨ts ++ xs, ⟨ts, xs, rfl, r2, k1⟩, RepA.app (repA_of fun j tj hj => ?_) (by rw [hlen', Nat.add_assoc, ← Nat.succ_mul]; exact k2)⟩
              obtain ⟨uj, q1, q2⟩ := r1.get j tj hj
              have hjl : j < P.cellsOf u := by rw [← g3]; exact (List.getElem?_eq_some_iff.1 q1).1
              refine ⟨uj, ?_, q2⟩
              rw [← q1, ← g4 j hjl, add_n, add_n, cell_inW hB]
          obtain ⟨xs, k1, k2⟩ := build len 0 (by omega)
          rw [Nat.zero_mul, Nat.add_zero] at k2
          refine ⟨[.islc xs len none], ⟨_, _, rfl, ⟨_, cap, rfl, hle, hcap, fun q hq => (by cases hq), .inr ⟨ab, ao, arr, rfl, ⟨fun hx => hx, e1, f1, hB⟩, k2⟩⟩, rfl⟩, xs, len, rfl, by omega, k1⟩
    · cases hs
theorem open_shL : ∀ (l : List Sh) {fs : List Field} {o n m : Nat} {cs : List Value}, Sh.fitsL P l fs o n = true → cs.length = n → (∀ f ∈ fs, ∃ x, DataW.trod enc P W 0 sp held m f.type ((cs.drop f.offset).take (P.cellsOf f.type)) = some x) → ∃ ts, RepL (inW β W) ts (cs.drop o) ∧ Sh.wtL l ts
  | [], [], o, n, m, cs, hs, hl, h => by
    have e : o = n := by unfold Sh.fitsL at hs; simpa using hs
    exact ⟨[], by show cs.drop o = []; rw [List.drop_eq_nil_iff]; omega, rfl⟩
  | [], f :: fs, o, n, m, cs, hs, hl, h => by unfold Sh.fitsL at hs; cases hs
  | s :: l, [], o, n, m, cs, hs, hl, h => by unfold Sh.fitsL at hs; cases hs
  | s :: l, f :: fs, o, n, m, cs, hs, hl, h => by
    unfold Sh.fitsL at hs
    simp only [Bool.and_eq_true, beq_iff_eq] at hs
    obtain ⟨⟨h1, h2⟩, h3⟩ := hs
    have hle := fitsL_le l h3
    obtain ⟨x, hx⟩ := h f (by simp)
    obtain ⟨a, a1, a2⟩ := open_sh s h2 hx (by rw [List.length_take, List.length_drop]; omega)
    obtain ⟨b, b1, b2⟩ := open_shL l h3 hl (fun g hg => h g (by simp [hg]))
    refine ⟨a ++ b, ?_, a, b, rfl, a2, b2⟩
    have e : cs.drop o = (cs.drop f.offset).take (P.cellsOf f.type) ++ cs.drop (o + P.cellsOf f.type) := by
      rw [h1, ← List.drop_drop, List.take_append_drop]
    rw [e]
    exact RepL.append a1 b1
theorem fitsL_le : ∀ (l : List Sh) {fs : List Field} {o n : Nat}, Sh.fitsL P l fs o n = true → o ≤ n
  | [], [], o, n, hs => by unfold Sh.fitsL at hs; simp at hs; omega
  | [], f :: fs, o, n, hs => by unfold Sh.fitsL at hs; cases hs
  | s :: l, [], o, n, hs => by unfold Sh.fitsL at hs; cases hs
  | s :: l, f :: fs, o, n, hs => by
    unfold Sh.fitsL at hs
    simp only [Bool.and_eq_true, beq_iff_eq] at hs
    have := fitsL_le l hs.2
    omega
end
def Sh.tree : Sh → List T → T
  | .st _, ts => .agg ts
  | _, ts => ts.headD (.tup [])
theorem open_arg {b0 : Nat} (s : Sh) {t : TypeId} {v : Value} {d : DataW H} {p : List MemPlace} (hs : s.fits P t = true) (hv : Value.okWide P W .any b0 t v) (h : DataW.Trod enc P W 0 sp held t v d p) :
    ∃ ts, Rep (inW β W) (s.tree ts) v ∧ s.wt ts := by
  obtain ⟨fuel, hf⟩ := h
  cases s with
  | int k =>
    have hs' := hs
    unfold Sh.fits at hs
    split at hs
    · rename_i k' hu
      obtain ⟨n, rfl⟩ := okWide_int hu hv
      obtain ⟨n', e, _, hw⟩ := DataW.trod_int hu hf
      simp [Value.cells] at e
      obtain ⟨rfl⟩ := e
      obtain rfl : k' = k := of_decide_eq_true hs
      exact ⟨[.v (.int k' n)], rfl, n, rfl, hw⟩
    · cases hs
  | bool =>
    unfold Sh.fits at hs
    split at hs
    · rename_i hu
      obtain ⟨n, rfl⟩ := okWide_bool hu hv
      exact ⟨[.v (.bool n)], rfl, n, rfl⟩
    · cases hs
  | str =>
    unfold Sh.fits at hs
    split at hs
    · rename_i hu
      obtain ⟨n, rfl⟩ := okWide_string hu hv
      obtain ⟨n', e, _, hw⟩ := DataW.trod_string hu hf
      simp [Value.cells] at e
      subst e
      exact ⟨[.v (.string n)], rfl, n, rfl, hw⟩
    · cases hs
  | st l =>
    have hs' := hs
    unfold Sh.fits at hs
    split at hs
    · rename_i fs hu
      obtain ⟨cs, rfl, hsz⟩ := okWide_struct hu hv
      obtain ⟨ts, r1, r2⟩ := open_sh (β := β) (.st l) hs' hf (by rw [← hsz]; rfl)
      exact ⟨ts, ⟨cs.toList, rfl, r1⟩, r2⟩
    · cases hs
  | sl e =>
    have hs' := hs
    unfold Sh.fits at hs
    split at hs
    · rename_i u hu
      obtain ⟨a, len, cap, rfl⟩ := okWide_slice hu hv
      have hl1 : P.cellsOf t = 1 := by
        simp only [Bool.and_eq_true, decide_eq_true_eq] at hs
        exact hs.2
      obtain ⟨ts, r1, r2⟩ := open_sh (β := β) (.sl e) hs' hf (by rw [hl1]; rfl)
      obtain ⟨xs, n, rfl, h1, h2⟩ := r2
      obtain ⟨w, r, e1, e2, e3⟩ := r1
      have e1' : [Value.slice a len cap] = w :: r := e1
      injection e1' with e4 e5
      subst e4
      exact ⟨[.islc xs n none], e2, xs, n, rfl, h1, h2⟩
    · cases hs
theorem law_run [Dr] {f : FuncId} {args : List T} {vs : List Value} (h : CallP P f args (.v (.bool true))) (hr : RepL (inW (fun _ => none) W) args vs) (hG : Glo (inW (fun _ => none) W) := by exact fun g a h => (by cases h)) :
    Calls P f vs.toArray W (fun e W' => e = .returned (.bool true) ∧ Below W.heap.size W W') :=
  (h.run (fun _ => False) (inW (fun _ => none) W) vs (fun B hB => hB.elim) hG hr).mono fun e W' ⟨u, h1, h2, h3, h4⟩ => by
    have h3' : u = .bool true := h3
    subst h3'
    exact ⟨h1, ⟨h2.os, h2.tape.1, h2.output, h2.size, h4⟩⟩
end
end
section
open Go.RowKit Go.Sort
set_option maxRecDepth 10000
def padL (P : List Int) (n : Nat) : List Int := (List.range n).map fun i => if i < P.length then P[i]! else 0
theorem padL_len (P : List Int) (n : Nat) : (padL P n).length = n := by simp [padL]
theorem padL_bd {P : List Int} (hb : ∀ v ∈ P, 0 ≤ v ∧ v < 256) (n : Nat) : ∀ v ∈ padL P n, 0 ≤ v ∧ v < 256 := fun v hv => by
  unfold padL at hv
  obtain ⟨i, hi, rfl⟩ := List.mem_map.1 hv
  split
  · exact bang_bd hb _
  · exact ⟨by decide, by decide⟩
end
section
open Go.RowKit Go.Sort
abbrev shI : Sh := .int .i64
abbrev shU : Sh := .int .u8
theorem lit_i64 {n : Int} (h : (Lit.int .i64 n).wf = true) : i64 n := by
  simp [Lit.wf, IntKind.min, IntKind.max, IntKind.signed, IntKind.bits] at h
  unfold i64; omega
theorem lit_u8 {n : Int} (h : (Lit.int .u8 n).wf = true) : 0 ≤ n ∧ n < 256 := by
  simp [Lit.wf, IntKind.min, IntKind.max, IntKind.signed, IntKind.bits] at h
  omega
theorem wt_i64 {ts : List T} (h : shI.wt ts) : ∃ n, ts = [I64 n] ∧ i64 n := by
  obtain ⟨n, rfl, hw⟩ := h
  exact ⟨n, rfl, lit_i64 hw⟩
theorem wt_u8 {ts : List T} (h : shU.wt ts) : ∃ n, ts = [U8 n] ∧ 0 ≤ n ∧ n < 256 := by
  obtain ⟨n, rfl, hw⟩ := h
  exact ⟨n, rfl, lit_u8 hw⟩
end
section
open Go.RowKit Go.Sort
set_option maxRecDepth 10000
set_option maxHeartbeats 1000000
end
section
open Go.RowKit Go.Sort
set_option maxRecDepth 10000
set_option maxHeartbeats 1000000
end
section
open Go.RowKit Go.Sort
set_option maxRecDepth 10000
theorem padL_bang (P : List Int) (n j : Nat) : (padL P n)[j]! = if j < n ∧ j < P.length then P[j]! else 0 := by
  by_cases hj : j < n
  · rw [getElem!_pos (padL P n) j (by rw [padL_len]; exact hj)]
    unfold padL
    rw [List.getElem_map, List.getElem_range]
    by_cases h2 : j < P.length
    · rw [if_pos h2, if_pos ⟨hj, h2⟩]
    · rw [if_neg h2, if_neg (fun h => h2 h.2)]
  · rw [if_neg (fun h => hj h.1), List.getElem!_eq_getElem?_getD, List.getElem?_eq_none (by rw [padL_len]; omega)]; rfl
theorem padL_nil (n : Nat) : padL [] n = List.replicate n 0 := by
  refine listI_ext (by rw [padL_len, List.length_replicate]) fun i hi => ?_
  rw [padL_bang, if_neg (by simp), repl_at]
theorem take_bang {P : List Int} {i j : Nat} (h : j < i) : (P.take i)[j]! = P[j]! := by
  rw [List.getElem!_eq_getElem?_getD, List.getElem!_eq_getElem?_getD, List.getElem?_take_of_lt h]
theorem padL_set {P : List Int} {n i : Nat} (hi : i < n) (hP : i < P.length) : (padL (P.take i) n).set i P[i]! = padL (P.take (i + 1)) n := by
  refine listI_ext (by rw [List.length_set, padL_len, padL_len]) fun j hj => ?_
  rw [List.length_set, padL_len] at hj
  rw [bang_set, padL_bang, padL_bang, padL_len, List.length_take, List.length_take]
  by_cases e : i = j
  · subst e
    rw [if_pos ⟨rfl, hi⟩, if_pos ⟨hi, by omega⟩, take_bang (by omega)]
  · rw [if_neg (fun h => e h.1)]
    by_cases h : j < i
    · rw [if_pos ⟨hj, by omega⟩, if_pos ⟨hj, by omega⟩, take_bang h, take_bang (by omega)]
    · rw [if_neg (by omega), if_neg (by omega)]
end
section
open Go.RowKit Go.Sort
set_option linter.unusedVariables false
end
section
open Go.RowKit Go.Sort
set_option maxRecDepth 10000
set_option maxHeartbeats 1000000
structure PcS where
  f : Int
  pl : Int
  x : Int
  y : Int
  cl : Bool
  c : List Rect
def PcS.Ok (p : PcS) : Prop := (0 ≤ p.f ∧ p.f < 256) ∧ (0 ≤ p.pl ∧ p.pl < 256) ∧ (-128 ≤ p.x ∧ p.x ≤ 127) ∧ (-128 ≤ p.y ∧ p.y ≤ 127) ∧ ∀ s ∈ p.c, smOk s
structure AllS where
  sw : Nat
  sh : Nat
  sP : List Int
  dw : Nat
  dh : Nat
  dP : List Int
  fr : List Rect
  clip : List Rect
  s : Rect
  x : Int
  y : Int
  p : PcS
def AllS.Ok (a : AllS) : Prop := (a.sw < 256 ∧ a.sh < 256 ∧ ∀ v ∈ a.sP, 0 ≤ v ∧ v < 256) ∧ (a.dw < 256 ∧ a.dh < 256 ∧ ∀ v ∈ a.dP, 0 ≤ v ∧ v < 256) ∧ (∀ s ∈ a.fr, smOk s) ∧ (∀ s ∈ a.clip, smOk s) ∧ smOk a.s ∧ (-128 ≤ a.x ∧ a.x ≤ 127) ∧ (-128 ≤ a.y ∧ a.y ≤ 127) ∧ a.p.Ok
end
section
open Go.RowKit Go.Sort
set_option maxRecDepth 10000

end
section
def glT : Nat → Option (Array Value) := fun _ => none
end
section
open Go.RowKit
instance looseI : Dr := ⟨False, glT⟩
theorem CallP.of_calls {P : Program} {f : FuncId} {v : Value} (hgo : goB P f = true) (h : ∀ w, Calls P f #[] w (fun e w' => e = .returned v ∧ Below w.heap.size w w')) : CallP P f [] (.v v) := by
  refine ⟨rfl, rfl, hgo, fun X0 M us hS hr => ?_⟩
  obtain rfl := hr
  refine (h M.w).mono ?_
  rintro e w' ⟨rfl, hb⟩
  have hk : ∀ B, B < M.w.heap.size → w'.heap[B]? = M.w.heap[B]? := fun B hB => hb.block B hB
  have hE : Evo X0 M ⟨M.β, M.X, w'⟩ := ⟨fun _ _ h => h, fun _ _ h => h, fun B hB _ => hk B hB, fun B s hs => by
    have : B < M.w.heap.size := by
      rcases Nat.lt_or_ge B M.w.heap.size with h1 | h1
      · exact h1
      · simp [World.shape?, Array.getElem?_eq_none h1] at hs
    rw [← hs]; exact shape_block (hk B this), hb.os, ⟨hb.tape, fun d => d.elim⟩, hb.output, hb.size⟩
  exact ⟨v, .v v, [], ⟨M.β, M.X, w'⟩, rfl, rfl, rfl, hE, hS.world hE hk, rfl⟩
end
section
open Go.RowKit Go.Sort
set_option maxRecDepth 10000
def strL (s : ByteArray) : List Int := s.data.toList.map fun c => (c.toNat : Int)
theorem strL_len (s : ByteArray) : (strL s).length = s.size := by unfold strL; rw [List.length_map]; exact Array.length_toList
theorem strL_bd (s : ByteArray) : ∀ v ∈ strL s, 0 ≤ v ∧ v < 256 := fun v hv => by
  unfold strL at hv
  obtain ⟨c, -, rfl⟩ := List.mem_map.1 hv
  have := c.toNat_lt
  omega
theorem strL_enc (s : ByteArray) : s.data.toList.map (fun c => T.v (.int .u8 c.toNat)) = encL cU (strL s) := by
  unfold strL
  generalize s.data.toList = l
  induction l with
  | nil => rfl
  | cons a l ih => rw [List.map_cons, ih]; rfl
theorem encL_take_u (l : List Int) (n : Nat) : (encL cU l).take (n * 1) = encL cU (l.take n) := by
  have := encL_take cU l n
  rw [cU_sz] at this
  exact this
theorem padL_put (P : List Int) (n : Nat) : putL (encL cU (List.replicate n 0)) 0 ((encL cU P).take (min P.length n * 1)) = encL cU (padL P n) := by
  rw [encL_take_u]
  have hl : (encL cU (P.take (min P.length n))).length = min P.length n := by rw [encL_len, cU_sz, Nat.mul_one, List.length_take]; omega
  have hz : (encL cU (List.replicate n (0 : Int))).length = n := by rw [encL_len, cU_sz, Nat.mul_one, List.length_replicate]
  have e : padL P n = P.take (min P.length n) ++ List.replicate (n - min P.length n) 0 := by
    refine listI_ext (by rw [padL_len, List.length_append, List.length_take, List.length_replicate]; omega) fun i hi => ?_
    rw [padL_len] at hi
    rw [padL_bang, List.getElem!_eq_getElem?_getD (l := _ ++ _)]
    by_cases h : i < P.length
    · rw [if_pos ⟨hi, h⟩, List.getElem?_append_left (by rw [List.length_take]; omega), List.getElem?_take_of_lt (by omega), ← List.getElem!_eq_getElem?_getD]
    · rw [if_neg (fun k => h k.2), List.getElem?_append_right (by rw [List.length_take]; omega), List.getElem?_replicate]
      split <;> rfl
  rw [e, encL_append]
  unfold putL
  rw [List.take_zero, List.nil_append, Nat.zero_add, hl]
  congr 1
  have e2 := encL_drop cU (List.replicate n (0 : Int)) (min P.length n)
  rw [cU_sz, Nat.mul_one, List.drop_replicate] at e2
  exact e2
theorem VX.copyS {P : Program} {tab : Tab} {im : List Nat} {ds : List (Option Nat)} {l : List Oper} {E : Env} {H : Hp} {K : Env → Hp → Prop} {d : Option Nat} {ty : TypeId} {pos : String} {after : Array Edge} {x y : Operand} {t1 t2 : TypeId} {e b n : Nat} {i j i2 : TyI} {c : Option Nat} {s : ByteArray} (hT : tab t1 = some i) (hk : i.k = .sl e) (hj : tab e = some j) (hz : j.sz = 1) (hT2 : tab t2 = some i2) (hk2 : i2.k = .str) (hx : E.opd x = some (.slc b 0 n 1 c)) (hy : E.opd y = some (.v (.string s)))
    (hc : lookH H b = some (encL cU (List.replicate n 0))) (k : VX false P tab im ds l (putC E d (.v (.int .i64 (min s.size n : Nat)))) (setH H b (.c (encL cU (padL (strL s) n)))) K) : VX false P tab im ds (⟨d, .call ⟨.builtin .copy, #[x, y], #[t1, t2]⟩, ty, pos, after, none⟩ :: l) E H K := by
  refine VX.copy hx hy (r := .v (.int .i64 (min s.size n : Nat))) (H' := setH H b (.c (encL cU (padL (strL s) n)))) ?_ k
  have hl : (encL cU (strL s)).length = s.size := by rw [encL_len, cU_sz, Nat.mul_one, strL_len]
  have hr : (encL cU (List.replicate n (0 : Int))).length = n := by rw [encL_len, cU_sz, Nat.mul_one, List.length_replicate]
  simp only [mCopy, hT, hk, hj, srcCells, hT2, hk2, hz, if_true, hc, strL_enc]
  rw [if_pos ⟨trivial, by omega, by omega, encL_cb cU _⟩]
  have := padL_put (strL s) n
  rw [strL_len] at this
  rw [this]
abbrev gridL (W H : Nat) (B : ByteArray) : List T := [U8 W, U8 H, .v (.string B)]
theorem made_p (W H : Nat) (B : ByteArray) (hW : W < 256) (hH : H < 256) : CallP Try.prog 4 [.agg (gridL W H B)]
    (.tup [gT (W % 24 + 1) (H % 24 + 1) (padL (strL B) ((W % 24 + 1) * (H % 24 + 1))), I64 (W % 24 + 1 : Nat), I64 (H % 24 + 1 : Nat), .islc (encL cU (padL (strL B) ((W % 24 + 1) * (H % 24 + 1)))) ((W % 24 + 1) * (H % 24 + 1)) none]) := by
  have hwh : (W % 24 + 1) * (H % 24 + 1) ≤ 24 * 24 := Nat.mul_le_mul (by omega) (by omega)
  generalize hw : W % 24 + 1 = w at *
  generalize hh : H % 24 + 1 = h at *
  have hm : (w : Int) * (h : Int) = ((w * h : Nat) : Int) := (Int.natCast_mul w h).symm
  have hw1 : 1 ≤ w ∧ w ≤ 24 := by omega
  have hh1 : 1 ≤ h ∧ h ≤ 24 := by omega
  have hpl := padL_len (strL B) (w * h)
  have hpb := padL_bd (strL_bd B) (w * h)
  generalize hpx : padL (strL B) (w * h) = px at hpl hpb
  refine CallP.intro2 au_pu au_pu ?_
  refine CallT.intro tab_ok Try.func4 rfl (by kernel_rfl) (Nat.le_of_ble_eq_true rfl) ?_
  refine VC.reg tab_ok [1] rfl ?_
  refine VX.newI rfl rfl ?_
  refine VX.new rfl rfl ?_
  iterate 3 refine VX.meek rfl ?_
  refine VX.nil ?_
  refine VC.drw tab_ok [] [_, _, _, _, _, _, _, _, _, _, _, _] rfl (by kernel_rfl) (by kernel_rfl) ?_
  refine VX.meek rfl ?_
  first | refine VX.meek rfl ?_ | refine VX.loadI rfl rfl au_l ?_ | refine VX.loadP rfl rfl rfl au_l ?_
  refine VX.remU rfl rfl (by omega) (by omega) ?_
  refine VX.meek (t := I64 ((W : Int) % 24)) (by show some (T.v (.int .i64 (IntKind.i64.wrap ((W : Int) % 24))), (none : Option (Nat × List T))) = _; rw [wrap_in (by omega)]) ?_
  refine VX.add rfl rfl (by omega) ?_; rw [show (W : Int) % 24 + 1 = (w : Int) from by omega]
  refine VX.meek rfl ?_
  first | refine VX.meek rfl ?_ | refine VX.loadI rfl rfl au_l ?_ | refine VX.loadP rfl rfl rfl au_l ?_
  refine VX.remU rfl rfl (by omega) (by omega) ?_
  refine VX.meek (t := I64 ((H : Int) % 24)) (by show some (T.v (.int .i64 (IntKind.i64.wrap ((H : Int) % 24))), (none : Option (Nat × List T))) = _; rw [wrap_in (by omega)]) ?_
  refine VX.add rfl rfl (by omega) ?_; rw [show (H : Int) % 24 + 1 = (h : Int) from by omega]
  iterate 2 refine VX.meek rfl ?_
  iterate 2 refine VX.nil ?_
  refine VC.reg tab_ok [] rfl ?_
  iterate 2 refine VX.meek rfl ?_
  first | refine VX.mul rfl rfl (by omega) ?_ | refine VX.meek rfl ?_
  refine VX.mkS (a := w * h) (b := w * h) rfl rfl rfl rfl rfl rfl hm hm (by omega) (by omega) (by dsimp only; omega) ?_
  refine VX.meek rfl ?_
  refine VX.nil ?_
  refine VC.reg tab_ok [] rfl ?_
  iterate 2 refine VX.meek rfl ?_
  first | refine VX.meek rfl ?_ | refine VX.loadI rfl rfl au_l ?_ | refine VX.loadP rfl rfl rfl au_l ?_
  refine VX.copyS rfl rfl rfl rfl rfl rfl rfl rfl (congrArg some (zerosU _)) ?_
  refine VX.nil ?_
  refine VC.view ([(8, .islc (encL cU px) (w * h) none), (2, .ptr 0 0)]) ([.c [I64 0, I64 0, NIL]]) [6, 7] rfl (by refine ⟨[some 0], rfl, by first | trivial | decide, by first | rfl | (simp only [noO, Bool.and_true, Bool.and_eq_true]; first | assumption | (refine ⟨?_, ?_⟩ <;> assumption)) | (simp only [noO, *, Bool.and_true, Bool.true_and, Bool.and_self]; done), ?_, ?_⟩ <;> (repeat' first | exact trivial | exact CvB_n | exact CvB_d | exact CvB_o rfl | refine CvE_app ?_ ?_ | refine CvE_cons rfl ?_ ?_ | refine CvH_cons ?_ ?_ | refine CvB_c rfl ?_ | fail) <;> first | exact au_v | (first | exact CvL.pure rfl | (rw [← hpx]; exact Cv.fslc0 ⟨rfl, by simp⟩ (CvL.pure (encL_pure cU _))))) ?_
  refine VC.reg tab_ok [] rfl ?_
  iterate 2 refine VX.meek rfl ?_
  refine VX.callP0 rfl rfl rfl (gnew_p w h 0 ⟨by omega, by omega⟩ ⟨by omega, by omega⟩) ?_
  iterate 3 refine VX.meek rfl ?_
  refine VX.new rfl rfl ?_
  refine VX.store rfl rfl rfl rfl rfl au_sR rfl ?_
  refine VX.meek rfl ?_
  refine VX.nil ?_
  refine VC.seq ?_
  refine VC.reg tab_ok [] rfl ?_
  iterate 2 refine VX.meek rfl ?_
  refine VX.nil ?_
  refine VC.cond rfl (fun hc0 => ?_) (fun hc0 => ?_)
  · exact absurd hc0 (by simp)
  · (try simp only [au_std] at hc0)
    refine VC.skip ?_
    refine VC.seq ?_
    refine VC.reg tab_ok [] rfl ?_
    iterate 3 refine VX.meek rfl ?_
    refine VX.nil ?_
    refine VC.block ?_
    refine VC.loopS (σ := Nat) (fun i => w * h - i) (fun i => i ≤ w * h) (fun i => [(45, I64 i), (2, .ptr 0 0), (9, .ptr 1 0)]) (fun i => [.c [I64 0, I64 0, NIL], .c [I64 w, I64 h, .islc (encL cU (padL (px.take i) (w * h))) (w * h) none]]) [6, 7, 8, 43, 44] rfl (0) ?_ ?_ ?_
    · refine ⟨[some 0, some 1], rfl, by first | trivial | decide, by first | rfl | (simp only [noO, Bool.and_true, Bool.and_eq_true]; first | assumption | (refine ⟨?_, ?_⟩ <;> assumption)) | (simp only [noO, *, Bool.and_true, Bool.true_and, Bool.and_self]; done), ?_, ?_⟩ <;> (repeat' first | exact trivial | exact CvB_n | exact CvB_d | exact CvB_o rfl | refine CvE_app ?_ ?_ | refine CvE_cons rfl ?_ ?_ | refine CvH_cons ?_ ?_ | refine CvB_c rfl ?_ | fail) <;> first | exact au_v | (first | exact CvL.pure rfl | (refine cv_g (Cv.eq ?_ (encL_pure cU _)); rw [List.take_zero, padL_nil, List.length_replicate]))
    · (try dsimp only); omega
    rintro i hi
    refine VC.reg tab_ok [] rfl ?_
    refine VX.meek rfl ?_
    refine VX.nil ?_
    refine VC.seq ?_
    refine VC.cond rfl (fun hc1 => ?_) (fun hc1 => ?_)
    · (try simp only [au_std] at hc1); have hil : i < w * h := (by omega); have hpl2 := padL_len (px.take i) (w * h)
      have hxm : (i : Int) % (w : Int) = ((i % w : Nat) : Int) := (Int.natCast_emod i w).symm
      have hyd : (i : Int) / (w : Int) = ((i / w : Nat) : Int) := (Int.natCast_ediv i w).symm
      have hx1 : i % w < w := Nat.mod_lt _ (by omega)
      have hy1 : i / w < h := Nat.div_lt_of_lt_mul hil
      have hidx : ((i : Int) / (w : Int) * (w : Int) + (i : Int) % (w : Int)).toNat = i := (by rw [hxm, hyd, idx_nat, Nat.div_add_mod'])
      have hst := padL_set (P := px) hil (by omega)
      have hX : 0 ≤ (i : Int) % (w : Int) ∧ (i : Int) % (w : Int) < w := ⟨by rw [hxm]; exact Int.natCast_nonneg _, by rw [hxm]; exact Int.ofNat_lt.2 hx1⟩
      have hY : 0 ≤ (i : Int) / (w : Int) ∧ (i : Int) / (w : Int) < h := ⟨by rw [hyd]; exact Int.natCast_nonneg _, by rw [hyd]; exact Int.ofNat_lt.2 hy1⟩
      refine VC.skip ?_
      refine VC.seq ?_
      refine VC.block ?_
      refine VC.reg tab_ok [] rfl ?_
      refine VX.meek rfl ?_
      first | refine VX.idxI rfl rfl rfl rfl rfl rfl (by omega) ?_ | refine VX.idxO0 rfl rfl rfl rfl rfl rfl rfl (by omega) ?_ | refine VX.idxO0 rfl rfl rfl rfl rfl rfl au_z (by omega) ?_ | refine VX.idxO rfl rfl rfl rfl rfl rfl rfl (by omega) ?_ | refine VX.idxI rfl rfl rfl rfl rfl au_z (by omega) ?_ | refine VX.idxO rfl rfl rfl rfl rfl rfl au_z (by omega) ?_ | refine VX.meek rfl ?_
      first | refine VX.meek rfl ?_ | refine VX.loadI rfl rfl au_l ?_ | refine VX.loadP rfl rfl rfl au_l ?_
      iterate 2 refine VX.meek rfl ?_
      refine VX.nil ?_
      refine VC.drwN tab_ok [] [_, _, _, _, _, _, _, _, _] rfl (by kernel_rfl) (by kernel_rfl) ?_
      first | refine VX.meek rfl ?_ | refine VX.loadI rfl rfl au_l ?_ | refine VX.loadP rfl rfl rfl au_l ?_
      iterate 2 refine VX.meek rfl ?_
      refine VX.rem rfl rfl (by omega) (by omega) ?_
      iterate 2 refine VX.meek rfl ?_
      refine VX.quo rfl rfl (by omega) (by omega) (by omega) ?_
      refine VX.meek rfl ?_
      refine VX.callP0 rfl rfl rfl (hidx ▸ gset_n w h (padL (px.take i) (w * h)) (w * h) hpl2 ((i : Int) % (w : Int)) ((i : Int) / (w : Int)) px[i]! (by omega) (by omega) hpl2 (padL_bd (fun v hv => hpb v (List.mem_of_mem_take hv)) _) hX hY) ?_
      refine VX.nil ?_
      refine VX.store rfl rfl rfl rfl rfl au_sR rfl ?_
      refine VX.nil ?_
      refine VC.regN tab_ok [] rfl ?_
      first | refine VX.add rfl rfl (by omega) ?_ | refine VX.meek rfl ?_
      refine VX.meek rfl ?_
      refine VX.nil ?_
      refine ⟨i + 1, by (try dsimp only); omega, ?_, (by refine ⟨[some 0, some 1], rfl, by first | trivial | decide, by first | rfl | (simp only [noO, Bool.and_true, Bool.and_eq_true]; first | assumption | (refine ⟨?_, ?_⟩ <;> assumption)) | (simp only [noO, *, Bool.and_true, Bool.true_and, Bool.and_self]; done), ?_, ?_⟩ <;> (repeat' first | exact trivial | exact CvB_n | exact CvB_d | exact CvB_o rfl | refine CvE_app ?_ ?_ | refine CvE_cons rfl ?_ ?_ | refine CvH_cons ?_ ?_ | refine CvB_c rfl ?_ | fail) <;> first | exact au_v | (first | exact CvL.pure rfl | (rw [← hst]; exact cv_g (Cv.pure (encL_pure cU _)))))⟩
      (try dsimp only); omega
    · (try simp only [au_std] at hc1); obtain rfl : i = w * h := (by omega)
      have hfin : padL (px.take (w * h)) (w * h) = px := listI_ext (by rw [padL_len, hpl]) fun j hj => by
        rw [padL_len] at hj
        rw [padL_bang, List.take_of_length_le (by omega), if_pos ⟨hj, by omega⟩]
      rw [hfin]
      have hg : gT w h px = .agg [I64 w, I64 h, .islc (encL cU px) (w * h) none] := by rw [gT, hpl]
      refine VC.exit ?_
      refine VC.reg tab_ok [] rfl ?_
      first | refine VX.meek rfl ?_ | refine VX.loadI rfl rfl au_l ?_ | refine VX.loadP rfl rfl rfl au_l ?_
      iterate 3 refine VX.meek rfl ?_
      refine VX.store rfl rfl rfl rfl rfl au_sR rfl ?_
      iterate 3 refine VX.meek rfl ?_
      refine VX.nil ?_
      refine VC.ret ?_
      exact ⟨trivial, _, rfl, Cv.tup (CvL.cons (Cv.eq hg.symm (by simp only [T.pure, T.pureL, encL_pure]; rfl)) (CvL.cons (Cv.pure rfl) (CvL.cons (Cv.pure rfl) (CvL.cons (Cv.pure (encL_pure cU _)) CvL.nil))))⟩
theorem is25_p (w h : Nat) (px : List Int) (hw : 1 ≤ w ∧ w ≤ 128) (hh : 1 ≤ h ∧ h ≤ 128) (hl : px.length = w * h) (hb : ∀ v ∈ px, 0 ≤ v ∧ v < 256) : CallP Try.prog 8 [gT w h px, I64 w, I64 h, .islc (encL cU px) px.length none] (BL true) := by
  have hwh : w * h ≤ 128 * 128 := Nat.mul_le_mul hw.2 hh.2
  have hm : (w : Int) * (h : Int) = ((w * h : Nat) : Int) := (Int.natCast_mul w h).symm
  refine CallP.intro2 au_pu au_pu ?_
  refine CallT.intro tab_ok Try.func8 rfl (by kernel_rfl) (Nat.le_of_ble_eq_true rfl) ?_
  refine VC.reg tab_ok [4] rfl ?_
  refine VX.newI rfl rfl ?_
  refine VX.meek rfl ?_
  refine VX.nil ?_
  refine VC.reg tab_ok [] rfl ?_
  first | refine VX.meek rfl ?_ | refine VX.loadI rfl rfl au_l ?_ | refine VX.loadP rfl rfl rfl au_l ?_
  refine VX.callP0 rfl rfl rfl ((show CallP Try.prog 11 [gT w h px] (.tup [I64 w, I64 h]) from size_p ⟨w, h, px⟩)) ?_
  iterate 5 refine VX.meek rfl ?_
  refine VX.nil ?_
  refine VC.seq ?_
  refine VC.reg tab_ok [] rfl ?_
  iterate 4 refine VX.meek rfl ?_
  refine' VX.merge (d := 25) [_, _, _, _] rfl ?_ rfl ?_
  rotate_left
  · refine VX.guard rfl rfl (fun hb2_3 => ?_) (fun hb2_3 => ?_)
    · have ghb2_3 := hb2_3
      try simp only [au_std, Bool.not_true, Bool.not_false] at ghb2_3
      refine VX.meek rfl ?_
      refine VX.guardT rfl rfl hb2_3 ?_
      refine VX.meek rfl ?_
      refine VX.guardT rfl rfl hb2_3 ?_
      refine VX.meek rfl ?_
      refine VX.pickO rfl (fun _ => rfl) ?_
      exact VX.nil ⟨rfl, rfl⟩
    · refine VX.guardF rfl rfl hb2_3 ?_
      refine VX.guardF rfl rfl hb2_3 ?_
      exact VX.pickO rfl (fun h => absurd (h.symm.trans hb2_3) (by decide)) (VX.nil ⟨rfl, rfl⟩)
  refine VX.meek rfl ?_
  refine' VX.merge (d := 33) [_, _, _, _, _, _, _] rfl ?_ rfl ?_
  rotate_left
  · refine VX.guard rfl rfl (fun hb2_8 => ?_) (fun hb2_8 => ?_)
    · have ghb2_8 := hb2_8
      try simp only [au_std, Bool.not_true, Bool.not_false] at ghb2_8
      refine VX.meek rfl ?_
      refine VX.guardT rfl rfl hb2_8 ?_
      refine VX.meek rfl ?_
      refine VX.guardT rfl rfl hb2_8 ?_
      refine VX.meek rfl ?_
      refine VX.guardT rfl rfl hb2_8 ?_
      refine VX.meek rfl ?_
      refine VX.guardT rfl rfl hb2_8 ?_
      first | refine VX.mul rfl rfl (by omega) ?_ | refine VX.meek rfl ?_
      refine VX.guardT rfl rfl hb2_8 ?_
      refine VX.meek rfl ?_
      refine VX.pickO rfl (fun _ => rfl) ?_
      exact VX.nil ⟨rfl, rfl⟩
    · refine VX.guardF rfl rfl hb2_8 ?_
      iterate 4 refine VX.guardF rfl rfl hb2_8 ?_
      exact VX.pickO rfl (fun h => absurd (h.symm.trans hb2_8) (by decide)) (VX.nil ⟨rfl, rfl⟩)
  refine VX.nil ?_
  refine VC.cond rfl (fun hc0 => ?_) (fun hc0 => ?_)
  · exact absurd hc0 (by simp [hl])
  · (try simp only [au_std] at hc0)
    refine VC.skip ?_
    refine VC.seq ?_
    refine VC.reg tab_ok [] rfl ?_
    iterate 3 refine VX.meek rfl ?_
    refine VX.nil ?_
    refine VC.block ?_
    refine VC.loopS (σ := Nat) (fun i => px.length - i) (fun i => i ≤ px.length) (fun i => [(36, I64 i)]) (fun _ => []) [1, 4, 34, 35] rfl (0) ?_ ?_ ?_
    · refine ⟨[], rfl, by first | trivial | decide, by first | rfl | (simp only [noO, Bool.and_true, Bool.and_eq_true]; first | assumption | (refine ⟨?_, ?_⟩ <;> assumption)) | (simp only [noO, *, Bool.and_true, Bool.true_and, Bool.and_self]; done), ?_, ?_⟩ <;> (repeat' first | exact trivial | exact CvB_n | exact CvB_d | exact CvB_o rfl | refine CvE_app ?_ ?_ | refine CvE_cons rfl ?_ ?_ | refine CvH_cons ?_ ?_ | refine CvB_c rfl ?_ | fail) <;> first | exact au_v | (skip)
    · (try dsimp only); omega
    rintro i hi
    refine VC.reg tab_ok [] rfl ?_
    refine VX.meek rfl ?_
    refine VX.nil ?_
    refine VC.seq ?_
    refine VC.cond rfl (fun hc1 => ?_) (fun hc1 => ?_)
    · (try simp only [au_std] at hc1); have hil : i < px.length := (by omega)
      have hxm : (i : Int) % (w : Int) = ((i % w : Nat) : Int) := (Int.natCast_emod i w).symm
      have hyd : (i : Int) / (w : Int) = ((i / w : Nat) : Int) := (Int.natCast_ediv i w).symm
      have hx1 : i % w < w := Nat.mod_lt _ (by omega)
      have hy1 : i / w < h := Nat.div_lt_of_lt_mul (by omega)
      have hidx : ((i : Int) / (w : Int) * (w : Int) + (i : Int) % (w : Int)).toNat = i := (by rw [hxm, hyd, idx_nat, Nat.div_add_mod'])
      have hX : 0 ≤ (i : Int) % (w : Int) ∧ (i : Int) % (w : Int) < w := ⟨by rw [hxm]; exact Int.natCast_nonneg _, by rw [hxm]; exact Int.ofNat_lt.2 hx1⟩
      have hY : 0 ≤ (i : Int) / (w : Int) ∧ (i : Int) / (w : Int) < h := ⟨by rw [hyd]; exact Int.natCast_nonneg _, by rw [hyd]; exact Int.ofNat_lt.2 hy1⟩
      have hat : atG w h px ((i : Int) % (w : Int)) ((i : Int) / (w : Int)) = px[i]! := (if_pos (inB_iff.2 ⟨hX.1, hX.2, hY.1, hY.2⟩)).trans (by rw [hidx])
      refine VC.skip ?_
      refine VC.seq ?_
      refine VC.block ?_
      refine VC.reg tab_ok [] rfl ?_
      refine VX.meek rfl ?_
      first | refine VX.idxI rfl rfl rfl rfl rfl rfl (by omega) ?_ | refine VX.idxO0 rfl rfl rfl rfl rfl rfl rfl (by omega) ?_ | refine VX.idxO0 rfl rfl rfl rfl rfl rfl au_z (by omega) ?_ | refine VX.idxO rfl rfl rfl rfl rfl rfl rfl (by omega) ?_ | refine VX.idxI rfl rfl rfl rfl rfl au_z (by omega) ?_ | refine VX.idxO rfl rfl rfl rfl rfl rfl au_z (by omega) ?_ | refine VX.meek rfl ?_
      first | refine VX.meek rfl ?_ | refine VX.loadI rfl rfl au_l ?_ | refine VX.loadP rfl rfl rfl au_l ?_
      iterate 2 refine VX.meek rfl ?_
      refine VX.nil ?_
      refine VC.drw tab_ok [] [_, _, _, _, _, _, _, _, _, _] rfl (by kernel_rfl) (by kernel_rfl) ?_
      first | refine VX.meek rfl ?_ | refine VX.loadI rfl rfl au_l ?_ | refine VX.loadP rfl rfl rfl au_l ?_
      iterate 2 refine VX.meek rfl ?_
      refine VX.rem rfl rfl (by omega) (by omega) ?_
      iterate 2 refine VX.meek rfl ?_
      refine VX.quo rfl rfl (by omega) (by omega) (by omega) ?_
      refine VX.callP0 rfl rfl rfl (hat ▸ gat_p w h px ((i : Int) % (w : Int)) ((i : Int) / (w : Int)) hw.2 hh.2 hl hb) ?_
      iterate 2 refine VX.meek rfl ?_
      iterate 2 refine VX.nil ?_
      refine VC.cond rfl (fun hc2 => ?_) (fun hc2 => ?_)
      · exact absurd hc2 (by simp)
      · (try simp only [au_std] at hc2)
        refine VC.skip ?_
        refine VC.regN tab_ok [] rfl ?_
        first | refine VX.add rfl rfl (by omega) ?_ | refine VX.meek rfl ?_
        refine VX.meek rfl ?_
        refine VX.nil ?_
        refine ⟨i + 1, by (try dsimp only); omega, ?_, (by refine ⟨[], rfl, by first | trivial | decide, by first | rfl | (simp only [noO, Bool.and_true, Bool.and_eq_true]; first | assumption | (refine ⟨?_, ?_⟩ <;> assumption)) | (simp only [noO, *, Bool.and_true, Bool.true_and, Bool.and_self]; done), ?_, ?_⟩ <;> (repeat' first | exact trivial | exact CvB_n | exact CvB_d | exact CvB_o rfl | refine CvE_app ?_ ?_ | refine CvE_cons rfl ?_ ?_ | refine CvH_cons ?_ ?_ | refine CvB_c rfl ?_ | fail) <;> first | exact au_v | (fail))⟩
        (try dsimp only); omega
    · (try simp only [au_std] at hc1)
      refine VC.exit ?_
      refine VC.reg tab_ok [] rfl ?_
      refine VX.meek rfl ?_
      refine VX.nil ?_
      refine VC.ret ?_
      exact ⟨trivial, _, rfl, Cv.eq (by first | rfl | (simp [*]; done)) rfl⟩
end
section
open Go.RowKit Go.Sort
set_option maxRecDepth 10000
end
section
def runGo (m : Nat) (l : List UInt8) : Nat → Nat → Nat
  | 0, k => k
  | f + 1, k => if k < m ∧ k < l.length ∧ l.getD k 0 = l.getD 0 0 then runGo m l f (k + 1) else k
def runBy (l : List UInt8) : Nat := runGo 130 l 130 1
theorem runGo_ge (m : Nat) (l : List UInt8) : ∀ f k, k ≤ runGo m l f k
  | 0, k => Nat.le_refl _
  | f + 1, k => by
    rw [runGo]
    split
    · have := runGo_ge m l f (k + 1); omega
    · exact Nat.le_refl _
theorem runGo_le (m : Nat) (l : List UInt8) : ∀ f k, k ≤ m → runGo m l f k ≤ m
  | 0, k, h => h
  | f + 1, k, h => by
    rw [runGo]
    split
    · rename_i hc; exact runGo_le m l f (k + 1) (by omega)
    · exact h
theorem runGo_len (m : Nat) (l : List UInt8) : ∀ f k, k ≤ l.length → runGo m l f k ≤ l.length
  | 0, k, h => h
  | f + 1, k, h => by
    rw [runGo]
    split
    · rename_i hc; exact runGo_len m l f (k + 1) (by omega)
    · exact h
theorem runL_bd (l : List UInt8) : 1 ≤ runBy l ∧ runBy l ≤ 130 := ⟨runGo_ge _ _ _ _, runGo_le _ _ _ _ (by omega)⟩
theorem runBy_len (l : List UInt8) (h : 1 ≤ l.length) : runBy l ≤ l.length := runGo_len _ _ _ _ h
def plainGo (l : List UInt8) : Nat → Nat → Nat
  | 0, k => k
  | f + 1, k => if k < l.length ∧ k < 128 ∧ runBy (l.drop k) < 3 then plainGo l f (k + 1) else k
def plainL (l : List UInt8) : Nat := plainGo l 128 1
theorem plainGo_ge (l : List UInt8) : ∀ f k, k ≤ plainGo l f k
  | 0, k => Nat.le_refl _
  | f + 1, k => by
    rw [plainGo]
    split
    · have := plainGo_ge l f (k + 1); omega
    · exact Nat.le_refl _
theorem plainGo_le (l : List UInt8) : ∀ f k, k ≤ 128 → k ≤ l.length → plainGo l f k ≤ 128 ∧ plainGo l f k ≤ l.length
  | 0, k, h, h' => ⟨h, h'⟩
  | f + 1, k, h, h' => by
    rw [plainGo]
    split
    · rename_i hc; exact plainGo_le l f (k + 1) (by omega) (by omega)
    · exact ⟨h, h'⟩
theorem plainL_bd (l : List UInt8) (h : 1 ≤ l.length) : 1 ≤ plainL l ∧ plainL l ≤ 128 ∧ plainL l ≤ l.length :=
  ⟨plainGo_ge _ _ _, plainGo_le _ _ _ (by omega) h⟩
def shortF : Nat → List UInt8 → List UInt8
  | 0, _ => []
  | _ + 1, [] => []
  | f + 1, x :: t =>
    if 3 ≤ runBy (x :: t) then UInt8.ofNat (125 + runBy (x :: t)) :: x :: shortF f ((x :: t).drop (runBy (x :: t)))
    else UInt8.ofNat (plainL (x :: t) - 1) :: ((x :: t).take (plainL (x :: t)) ++ shortF f ((x :: t).drop (plainL (x :: t))))
def short (l : List UInt8) : List UInt8 := shortF l.length l
theorem shortF_more : ∀ (f g : Nat) (l : List UInt8), l.length ≤ f → l.length ≤ g → shortF f l = shortF g l
  | 0, g, l, h, _ => by
    obtain rfl : l = [] := List.length_eq_zero_iff.1 (by omega)
    cases g <;> rfl
  | f + 1, 0, l, _, h => by
    obtain rfl : l = [] := List.length_eq_zero_iff.1 (by omega)
    rfl
  | f + 1, g + 1, [], _, _ => rfl
  | f + 1, g + 1, x :: t, h1, h2 => by
    have r1 := (runL_bd (x :: t)).1
    have p1 := (plainL_bd (x :: t) (by simp)).1
    simp only [List.length_cons] at h1 h2
    rw [shortF, shortF, shortF_more f g ((x :: t).drop (runBy (x :: t))) (by simp; omega) (by simp; omega), shortF_more f g ((x :: t).drop (plainL (x :: t))) (by simp; omega) (by simp; omega)]
theorem short_nil : short [] = [] := rfl
theorem short_run (l : List UInt8) (h0 : 1 ≤ l.length) (h : 3 ≤ runBy l) : short l = UInt8.ofNat (125 + runBy l) :: l.getD 0 0 :: short (l.drop (runBy l)) := by
  match l, h0 with
  | x :: t, _ =>
    have r1 := (runL_bd (x :: t)).1
    rw [short, List.length_cons, shortF, if_pos h, short, shortF_more t.length _ _ (by simp; omega) (Nat.le_refl _)]
    rfl
theorem short_plain (l : List UInt8) (h0 : 1 ≤ l.length) (h : ¬ 3 ≤ runBy l) : short l = UInt8.ofNat (plainL l - 1) :: (l.take (plainL l) ++ short (l.drop (plainL l))) := by
  match l, h0 with
  | x :: t, _ =>
    have p1 := (plainL_bd (x :: t) (by simp)).1
    rw [short, List.length_cons, shortF, if_neg h, short, shortF_more t.length _ _ (by simp; omega) (Nat.le_refl _)]
theorem plainGo_stop (l : List UInt8) : ∀ f k, 128 ≤ k + f → plainGo l f k < 128 → plainGo l f k < l.length → 3 ≤ runBy (l.drop (plainGo l f k))
  | 0, k, hf, h, _ => by simp only [plainGo] at h; omega
  | f + 1, k, hf, h, h' => by
    rw [plainGo] at h h' ⊢
    split
    · rename_i hc
      rw [if_pos hc] at h h'
      exact plainGo_stop l f (k + 1) (by omega) h h'
    · rename_i hc
      rw [if_neg hc] at h h'
      by_cases hr : 3 ≤ runBy (l.drop k)
      · exact hr
      · exact absurd ⟨h', h, by omega⟩ hc
theorem plain_stop (l : List UInt8) (h : plainL l < 128) (h' : plainL l < l.length) : 3 ≤ runBy (l.drop (plainL l)) := plainGo_stop l 128 1 (by omega) h h'
theorem short_len2 : ∀ (n : Nat) (l : List UInt8), l.length ≤ n →
    (short l).length ≤ l.length + (l.length + 127) / 128 ∧ (3 ≤ runBy l → 1 ≤ l.length → (short l).length + 1 ≤ l.length + (l.length + 127) / 128)
  | 0, l, h => by
    obtain rfl : l = [] := List.length_eq_zero_iff.1 (by omega)
    simp [short_nil]
  | n + 1, l, h => by
    by_cases hl : 1 ≤ l.length
    · by_cases hr : 3 ≤ runBy l
      · have r2 := runBy_len l hl
        have ih := (short_len2 n (l.drop (runBy l)) (by simp; omega)).1
        rw [short_run l hl hr]
        simp only [List.length_cons, List.length_drop] at ih ⊢
        omega
      · have p := plainL_bd l hl
        have ih := short_len2 n (l.drop (plainL l)) (by simp; omega)
        have hs := plain_stop l
        rw [short_plain l hl hr]
        simp only [List.length_cons, List.length_append, List.length_take, List.length_drop] at ih ⊢
        rw [Nat.min_eq_left p.2.2]
        refine ⟨?_, fun h => absurd h hr⟩
        by_cases h1 : plainL l = l.length
        · omega
        · by_cases h2 : plainL l = 128
          · omega
          · have := ih.2 (hs (by omega) (by omega)) (by omega)
            omega
    · obtain rfl : l = [] := List.length_eq_zero_iff.1 (by omega)
      simp [short_nil]
theorem short_len (l : List UInt8) : (short l).length ≤ l.length + (l.length + 127) / 128 := (short_len2 l.length l (Nat.le_refl _)).1

/- a run alone -/
def errShort : Nat := 3
def errLong : Nat := 4
def stepL (n : UInt8) (rest : List UInt8) : Option (List UInt8 × List UInt8) :=
  if n.toNat < 128 then (if rest.length < n.toNat + 1 then none else some (rest.take (n.toNat + 1), rest.drop (n.toNat + 1)))
  else if rest.length = 0 then none else some (List.replicate (n.toNat - 125) (rest.getD 0 0), rest.drop 1)
def longF : Nat → List UInt8 → List UInt8 → List UInt8 × Nat
  | 0, _, acc => (acc, 0)
  | _ + 1, [], acc => (acc, 0)
  | f + 1, n :: rest, acc => match stepL n rest with
    | none => ([], errShort)
    | some (part, more) => if 65536 < acc.length + part.length then ([], errLong) else longF f more (acc ++ part)
def long (s : List UInt8) : List UInt8 × Nat := if 131072 < s.length then ([], errLong) else longF s.length s []
theorem stepL_less {n : UInt8} {rest part more : List UInt8} (h : stepL n rest = some (part, more)) : more.length < rest.length + 1 ∧ part.length ≤ 130 := by
  unfold stepL at h
  have := n.toNat_lt
  split at h
  · split at h
    · cases h
    · simp only [Option.some.injEq, Prod.mk.injEq] at h
      obtain ⟨rfl, rfl⟩ := h
      rw [List.length_drop, List.length_take]; omega
  · split at h
    · cases h
    · simp only [Option.some.injEq, Prod.mk.injEq] at h
      obtain ⟨rfl, rfl⟩ := h
      rw [List.length_drop, List.length_replicate]; omega
theorem longF_more : ∀ (f g : Nat) (s acc : List UInt8), s.length ≤ f → s.length ≤ g → longF f s acc = longF g s acc
  | 0, g, s, acc, h, _ => by
    obtain rfl : s = [] := List.length_eq_zero_iff.1 (by omega)
    cases g <;> rfl
  | f + 1, 0, s, acc, _, h => by
    obtain rfl : s = [] := List.length_eq_zero_iff.1 (by omega)
    rfl
  | f + 1, g + 1, [], acc, _, _ => rfl
  | f + 1, g + 1, n :: rest, acc, h1, h2 => by
    simp only [List.length_cons] at h1 h2
    rw [longF, longF]
    split
    · rfl
    · rename_i part more he
      have := (stepL_less he).1
      rw [longF_more f g more (acc ++ part) (by omega) (by omega)]
def longR (s acc : List UInt8) : List UInt8 × Nat := longF s.length s acc
theorem longR_nil (acc : List UInt8) : longR [] acc = (acc, 0) := rfl
theorem longR_cons (n : UInt8) (rest acc : List UInt8) : longR (n :: rest) acc = match stepL n rest with
    | none => ([], errShort)
    | some (part, more) => if 65536 < acc.length + part.length then ([], errLong) else longR more (acc ++ part) := by
  unfold longR
  rw [List.length_cons, longF]
  split
  · rfl
  · rename_i part more he
    have := (stepL_less he).1
    rw [longF_more rest.length more.length more _ (by omega) (Nat.le_refl _)]
theorem long_eq (s : List UInt8) (h : s.length ≤ 131072) : long s = longR s [] := by rw [long, if_neg (by omega), longR]
end
section
open Go.RowKit
theorem below_next {a w w' : World} (h : Below a.heap.size a w) (h2 : Below w.heap.size w w') : Below a.heap.size a w' := h.trans (h2.mono h.size)
theorem runGo_yes {l : List UInt8} {k : Nat} (h1 : k < 130) (h2 : k < l.length) (h3 : l.getD k 0 = l.getD 0 0) : runGo 130 l (131 - k) k = runGo 130 l (131 - (k + 1)) (k + 1) := by
  rw [show 131 - k = (131 - (k + 1)) + 1 by omega, runGo, if_pos ⟨h1, h2, h3⟩]
theorem runGo_no {l : List UInt8} {k : Nat} (hk : k ≤ 130) (h : ¬ (k < 130 ∧ k < l.length ∧ l.getD k 0 = l.getD 0 0)) : runGo 130 l (131 - k) k = k := by
  rw [show 131 - k = (131 - (k + 1)) + 1 by omega, runGo, if_neg h]
def byteAt (s : ByteArray) (k : Nat) : Int := ((s.data.toList.getD k 0).toNat : Int)
theorem idx_str {P : Program} {t : TypeId} (h : P.underlying t = some .string) (s : ByteArray) (k : Nat) (n : Int) (hn : n = k) (hk : k < s.size) :
    ∀ w : World, (Instr.index t (.string s) (.int .i64 n)).run P w = .ok (.int .u8 (byteAt s k)) w := by
  intro w
  subst hn
  rw [run_index_string w t s .i64 k h, dif_pos ⟨by omega, by omega⟩]
  have hl : k < s.data.toList.length := by simpa using hk
  have e : (s[(k : Int).toNat]'(by simpa using hk)) = s.data.toList.getD k 0 := by
    rw [List.getD_eq_getElem?_getD, List.getElem?_eq_getElem hl]
    simp only [Int.toNat_natCast, Option.getD_some]
    rfl
  rw [e]
  rfl
set_option maxHeartbeats 400000 in
theorem run_any (s : ByteArray) (i : Nat) (w : World) (hs : s.size ≤ 65536) (hi : i < s.size) :
    Calls Try.prog 26 #[.string s, .int .i64 i] w fun e w' => e = .returned (.int .i64 (runBy (s.data.toList.drop i))) ∧ Below w.heap.size w w' := by
  go_enter Try.func26, Try.ntmps26
  go_wp2_with fail
  go_loopw [5] (fun n wr => ∃ k : Nat, 1 ≤ k ∧ k ≤ 130 ∧ n = .int .i64 k ∧ Hid (runGo 130 (s.data.toList.drop i) (131 - k) k = runBy (s.data.toList.drop i)) ∧ Below w.heap.size w wr) (fun n _ => 130 - (intOf n).toNat)
  case atStart => exact ⟨1, by omega, by omega, rfl, rfl, Below.refl _ _⟩
  case round =>
    obtain ⟨k, hk1, hk2, rfl, hinv, hb⟩ := hrel
    by_cases h1 : k < 130
    · have h1' : decide ((k : Int) < 130) = true := by simp; omega
      by_cases h2 : i + k < s.size
      · have h2' : decide ((i : Int) + (k : Int) < (s.size : Int)) = true := by simp; omega
        have hw1 : IntKind.i64.wrap ((i : Int) + (k : Int)) = (i : Int) + (k : Int) := IntWalk.i64_in _ (by omega)
        have hw2 : (0 : Int) ≤ (i : Int) + (k : Int) := by omega
        have hw3 : ((i : Int) + (k : Int)).toNat = i + k := by omega
        have hx1 := idx_str Try.underlying9 s (i + k) ((i : Int) + (k : Int)) (by omega) h2
        have hx2 := idx_str Try.underlying9 s i (i : Int) rfl hi
        have hl : k < (s.data.toList.drop i).length := by simp; omega
        have e1 : (s.data.toList.drop i).getD k 0 = s.data.toList.getD (i + k) 0 := by simp [List.getD]
        have e0 : (s.data.toList.drop i).getD 0 0 = s.data.toList.getD i 0 := by simp [List.getD]
        by_cases h3 : s.data.toList.getD (i + k) 0 = s.data.toList.getD i 0
        · have h3' : (byteAt s (i + k) == byteAt s i) = true := by rw [byteAt, byteAt, h3]; simp
          have hgo := Lib.hid (runGo_yes h1 hl (by rw [e1, e0, h3]))
          clear e1 e0 h3
          go_wp2_with fail
          go_quiet (fail)
          clear hw1 hw2 hw3
          go_wp2_with fail
          go_roundw
          case rel => exact ⟨k + 1, by omega, by omega, by go_num, hgo.out.symm.trans hinv.out, below_drewN hb _⟩
          case measure => simp [intOf]; omega
        · have h3' : (byteAt s (i + k) == byteAt s i) = false := by
            simp only [byteAt, beq_eq_false_iff_ne, ne_eq]
            intro h
            exact h3 (UInt8.toNat_inj.1 (by omega))
          have hgo := Lib.hid (runGo_no (l := s.data.toList.drop i) hk2 (fun h => h3 (by rw [← e1, ← e0]; exact h.2.2)))
          clear e1 e0 h3
          go_wp2_with fail
          go_quiet (fail)
          clear hw1 hw2 hw3
          go_wp2_with fail
          go_ret
          exact ⟨by rw [← hinv.out, hgo.out]; rfl, below_drewN hb _⟩
      · have h2' : decide ((i : Int) + (k : Int) < (s.size : Int)) = false := by simp; omega
        have hw1 : IntKind.i64.wrap ((i : Int) + (k : Int)) = (i : Int) + (k : Int) := IntWalk.i64_in _ (by omega)
        have hgo := Lib.hid (runGo_no (l := s.data.toList.drop i) hk2 (fun h => h2 (by have := h.2.1; simp at this; omega)))
        go_wp2_with fail
        go_quiet (fail)
        clear hw1
        go_wp2_with fail
        go_ret
        exact ⟨by rw [← hinv.out, hgo.out]; rfl, below_drewN hb _⟩
    · have h1' : decide ((k : Int) < 130) = false := by simp; omega
      have hgo := Lib.hid (runGo_no (l := s.data.toList.drop i) hk2 (fun h => h1 h.1))
      go_wp2_with fail
      go_quiet (fail)
      go_wp2_with fail
      go_ret
      exact ⟨by rw [← hinv.out, hgo.out]; rfl, below_drewN hb _⟩
end
section
open Go.RowKit
theorem plainGo_yes {l : List UInt8} {k : Nat} (h1 : k < l.length) (h2 : k < 128) (h3 : runBy (l.drop k) < 3) : plainGo l (129 - k) k = plainGo l (129 - (k + 1)) (k + 1) := by
  rw [show 129 - k = (129 - (k + 1)) + 1 by omega, plainGo, if_pos ⟨h1, h2, h3⟩]
theorem plainGo_no {l : List UInt8} {k : Nat} (hk : k ≤ 128) (h : ¬ (k < l.length ∧ k < 128 ∧ runBy (l.drop k) < 3)) : plainGo l (129 - k) k = k := by
  rw [show 129 - k = (129 - (k + 1)) + 1 by omega, plainGo, if_neg h]
theorem runBy_at (s : ByteArray) (i : Nat) (n : Int) (hn : n = i) (r : Nat) (hr : runBy (s.data.toList.drop i) = r) (w : World) (hs : s.size ≤ 65536) (hi : i < s.size) :
    Calls Try.prog 26 #[.string s, .int .i64 n] w fun e w' => e = .returned (.int .i64 r) ∧ Below w.heap.size w w' := by
  subst hn; subst hr; exact run_any s i w hs hi
theorem extract_list (s : ByteArray) (i t : Nat) (_ht : t ≤ s.size) : (s.extract i t).data.toList = (s.data.toList.drop i).take (t - i) := by
  rw [ByteArray.data_extract, Array.toList_extract, List.extract_eq_take_drop]
theorem extract_size (s : ByteArray) (i t : Nat) (ht : t ≤ s.size) : (s.extract i t).size = t - i := by
  have h := congrArg List.length (extract_list s i t ht)
  simp at h
  simp
  omega
theorem acc_len {acc m l : List UInt8} (h : acc ++ m = short l) (hl : l.length ≤ 65536) : acc.length ≤ 70000 := by
  have h1 := short_len l
  have h2 : acc.length ≤ (short l).length := by rw [← h]; simp
  omega
set_option maxRecDepth 100000 in
set_option maxHeartbeats 1000000 in
theorem short_walk (s : ByteArray) (w : World) (hs : s.size ≤ 65536) :
    Calls Try.prog 14 #[.string s] w fun e w' => e = .returned (.string ⟨(short s.data.toList).toArray⟩) ∧ Below w.heap.size w w' := by
  have hsl : s.data.toList.length = s.size := by simp
  have HSL := Lib.hid hsl; clear hsl
  have hd0 : decide ((65536 : Int) < (s.size : Int)) = false := by simp; omega
  go_enter Try.func14, Try.ntmps14
  go_wp2_with fail
  go_loopw [4, 5, 6] (fun iv _ _ wr => ∃ (i : Nat) (acc : List UInt8), i ≤ s.size ∧ iv = .int .i64 i ∧ Try.Bd wr w.heap.size w.heap.size acc ∧ Hid (acc ++ short (s.data.toList.drop i) = short s.data.toList) ∧ Below w.heap.size w wr) (fun iv _ _ _ => s.size - (intOf iv).toNat)
  case atStart => exact ⟨0, [], Nat.zero_le _, rfl, Try.Bd.new w, rfl, (Below.refl _ _).alloc (Nat.le_refl _) _⟩
  case round =>
    obtain ⟨i, acc, hi, rfl, hbd, hinv, hb⟩ := hrel
    have hal := acc_len hinv.out (by rw [HSL.out]; exact hs)
    by_cases hlt : i < s.size
    · have hlen : 1 ≤ (s.data.toList.drop i).length := by rw [List.length_drop, HSL.out]; omega
      have hr1 := runL_bd (s.data.toList.drop i)
      have hr2 := runBy_len (s.data.toList.drop i) hlen
      rw [List.length_drop, HSL.out] at hr2
      have hx := idx_str Try.underlying9 s i (i : Int) rfl hlt
      generalize hr : runBy (s.data.toList.drop i) = r at hr1 hr2
      have HR := Lib.hid hr; clear hr
      obtain ⟨hr0, hr130⟩ := hr1
      go_wp2_with fail
      refine (runBy_at s i _ rfl r HR.out _ hs hlt).mono ?_
      rintro e w1 ⟨rfl, h1⟩
      have hbd1 := hbd.next h1
      have hb1 := below_next hb h1
      clear hbd hb h1
      by_cases h3 : 3 ≤ r
      · have hsh := Lib.hid (short_run (s.data.toList.drop i) hlen (by rw [HR.out]; exact h3))
        go_wp2_with fail
        refine (Try.bWriteByteI _ _ acc _ (UInt8.ofNat (125 + r)) ?_ _ hbd1 (by omega) hb1.size).mono ?_
        · rw [UInt8.toNat_ofNat']; omega
        rintro e w2 ⟨rfl, hbd2, h2⟩
        have hb2 := hb1.trans h2
        clear hbd1 hb1 h2
        go_wp2_with fail
        refine (Try.bWriteByteI _ _ _ _ (s.data.toList.getD i 0) rfl _ hbd2 (by simp; omega) hb2.size).mono ?_
        rintro e w3 ⟨rfl, hbd3, h3'⟩
        have hb3 := hb2.trans h3'
        clear hbd2 hb2 h3'
        go_wp2_with fail
        go_roundw
        case rel =>
          refine ⟨i + r, _, by omega, by go_num, hbd3, ?_, hb3⟩
          show _ = _
          rw [← hinv.out, hsh.out, HR.out]
          simp [List.drop_drop, List.getD]
        case measure => simp [intOf]; omega
      · have hsh := Lib.hid (short_plain (s.data.toList.drop i) hlen (by rw [HR.out]; exact h3))
        have h3' : decide ((3 : Int) ≤ (r : Int)) = false := by simp; omega
        have hp := plainL_bd (s.data.toList.drop i) hlen
        rw [List.length_drop, HSL.out] at hp
        generalize hpl : plainL (s.data.toList.drop i) = p at hp hsh
        have HP := Lib.hid hpl; clear hpl
        obtain ⟨hp1, hp128, hpl⟩ := hp
        go_wp2_with fail
        obtain ⟨wo, rfl⟩ : ∃ wo : World, wo = w1 := ⟨_, rfl⟩
        go_loopw [6] (fun tv wr => ∃ (t : Nat), i + 1 ≤ t ∧ t ≤ i + 128 ∧ t ≤ s.size ∧ tv = .int .i64 t ∧ Hid (plainGo (s.data.toList.drop i) (129 - (t - i)) (t - i) = p) ∧ Try.Bd wr w.heap.size w.heap.size acc ∧ Below w.heap.size w wr) (fun tv _ => s.size - (intOf tv).toNat)
        case atStart => exact ⟨i + 1, by omega, by omega, by omega, by go_num, by show _ = _; rw [show i + 1 - i = 1 by omega]; exact HP.out, hbd1, hb1⟩
        case round =>
          clear hbd1 hb1
          obtain ⟨t, ht1, ht2, ht3, rfl, hgo, hbd1, hb1⟩ := hrel
          have hdd : Hid ((s.data.toList.drop i).drop (t - i) = s.data.toList.drop t) := by show _ = _; rw [List.drop_drop]; congr 1; omega
          have hdl : Hid ((s.data.toList.drop i).length = s.size - i) := by show _ = _; rw [List.length_drop, HSL.out]
          by_cases ht4 : t < s.size
          · by_cases ht5 : t < i + 128
            · generalize hr' : runBy (s.data.toList.drop t) = q
              have HQ := Lib.hid hr'; clear hr'
              go_wp2_with fail
              refine (runBy_at s t _ rfl q HQ.out _ hs ht4).mono ?_
              rintro e w2 ⟨rfl, h2⟩
              have hbd2 := hbd1.next h2
              have hb2 := below_next hb1 h2
              clear hbd1 hb1 h2
              by_cases hq : q < 3
              · go_wp2_with fail
                go_roundw
                case rel =>
                  refine ⟨t + 1, by omega, by omega, by omega, by go_num, ?_, hbd2, hb2⟩
                  show _ = _
                  rw [← hgo.out, show t + 1 - i = (t - i) + 1 by omega]
                  exact (plainGo_yes (by rw [hdl.out]; omega) (by omega) (by rw [hdd.out, HQ.out]; exact hq)).symm
                case measure => simp [intOf]; omega
              · have hend : Hid (t - i = p) := by
                  show _ = _
                  rw [← hgo.out]
                  exact (plainGo_no (by omega) (fun h => hq (by have := h.2.2; rw [hdd.out, HQ.out] at this; exact this))).symm
                go_wp2_with fail
                refine (Try.bWriteByteI _ _ acc _ (UInt8.ofNat (p - 1)) ?_ _ hbd2 (by omega) hb2.size).mono ?_
                · have := hend.out; rw [UInt8.toNat_ofNat']; omega
                rintro e w3 ⟨rfl, hbd3, h3''⟩
                have hb3 := hb2.trans h3''
                clear hbd2 hb2 h3''
                go_wp2_with fail
                refine (Try.bWriteString _ _ _ (s.extract i t) _ hbd3 (by have := extract_size s i t ht3; simp; omega) hb3.size).mono ?_
                rintro e w4 ⟨rfl, hbd4, h4⟩
                have hb4 := hb3.trans h4
                clear hbd3 hb3 h4
                go_wp2_with fail
                go_roundw
                case rel =>
                  refine ⟨t, _, by omega, rfl, hbd4, ?_, hb4⟩
                  show _ = _
                  rw [← hinv.out, hsh.out, extract_list s i t ht3, hend.out, ← hdd.out, hend.out]
                  simp
                case measure => simp [intOf]; omega
            · have hend : Hid (t - i = p) := by
                show _ = _
                rw [← hgo.out]
                exact (plainGo_no (by omega) (fun h => ht5 (by have := h.2.1; omega))).symm
              go_wp2_with fail
              refine (Try.bWriteByteI _ _ acc _ (UInt8.ofNat (p - 1)) ?_ _ hbd1 (by omega) hb1.size).mono ?_
              · have := hend.out; rw [UInt8.toNat_ofNat']; omega
              rintro e w3 ⟨rfl, hbd3, h3''⟩
              have hb3 := hb1.trans h3''
              clear hbd1 hb1 h3''
              go_wp2_with fail
              refine (Try.bWriteString _ _ _ (s.extract i t) _ hbd3 (by have := extract_size s i t ht3; simp; omega) hb3.size).mono ?_
              rintro e w4 ⟨rfl, hbd4, h4⟩
              have hb4 := hb3.trans h4
              clear hbd3 hb3 h4
              go_wp2_with fail
              go_roundw
              case rel =>
                refine ⟨t, _, by omega, rfl, hbd4, ?_, hb4⟩
                show _ = _
                rw [← hinv.out, hsh.out, extract_list s i t ht3, hend.out, ← hdd.out, hend.out]
                simp
              case measure => simp [intOf]; omega
          · have hend : Hid (t - i = p) := by
              show _ = _
              rw [← hgo.out]
              exact (plainGo_no (by omega) (fun h => ht4 (by have := h.1; rw [hdl.out] at this; omega))).symm
            go_wp2_with fail
            refine (Try.bWriteByteI _ _ acc _ (UInt8.ofNat (p - 1)) ?_ _ hbd1 (by omega) hb1.size).mono ?_
            · have := hend.out; rw [UInt8.toNat_ofNat']; omega
            rintro e w3 ⟨rfl, hbd3, h3''⟩
            have hb3 := hb1.trans h3''
            clear hbd1 hb1 h3''
            go_wp2_with fail
            refine (Try.bWriteString _ _ _ (s.extract i t) _ hbd3 (by have := extract_size s i t ht3; simp; omega) hb3.size).mono ?_
            rintro e w4 ⟨rfl, hbd4, h4⟩
            have hb4 := hb3.trans h4
            clear hbd3 hb3 h4
            go_wp2_with fail
            go_roundw
            case rel =>
              refine ⟨t, _, by omega, rfl, hbd4, ?_, hb4⟩
              show _ = _
              rw [← hinv.out, hsh.out, extract_list s i t ht3, hend.out, ← hdd.out, hend.out]
              simp
            case measure => simp [intOf]; omega
    · obtain rfl : i = s.size := by omega
      have hfin : Hid (acc = short s.data.toList) := by
        show _ = _
        rw [← hinv.out, List.drop_of_length_le (by rw [HSL.out]; exact Nat.le_refl _), short_nil, List.append_nil]
      go_wp2_with fail
      refine (Try.bString _ _ acc _ hbd hb.size).mono ?_
      rintro e w1 ⟨rfl, h1⟩
      go_wp2_with fail
      go_ret
      exact ⟨by rw [← hfin.out]; rfl, hb.trans h1⟩
end
section
open Go.RowKit
theorem repeat_one (x : UInt8) : ∀ c : Nat, Lib.repeatL [x] c = List.replicate c x
  | 0 => rfl
  | c + 1 => by rw [Lib.repeatL, repeat_one x c, List.replicate_succ]; rfl
theorem repeat_at (s : ByteArray) (x : UInt8) (hs : s.data.toList = [x]) (c : Nat) (n : Int) (hn : n = c) (hc : c ≤ 200) (w : World) :
    Calls Try.prog 22 #[.string s, .int .i64 n] w fun e w' => e = .returned (.string ⟨(List.replicate c x).toArray⟩) ∧ Below w.heap.size w w' := by
  subst hn
  have hsz : s.size = 1 := by have := congrArg List.length hs; simpa using this
  have := Try.strings_Repeat s c w (by omega) (by rw [hsz]; omega)
  rw [hs, repeat_one] at this
  exact this
theorem stepL_plain_no {n : UInt8} {rest : List UInt8} (h1 : n.toNat < 128) (h2 : rest.length < n.toNat + 1) : stepL n rest = none := by unfold stepL; rw [if_pos h1, if_pos h2]
theorem stepL_plain {n : UInt8} {rest : List UInt8} (h1 : n.toNat < 128) (h2 : ¬ rest.length < n.toNat + 1) : stepL n rest = some (rest.take (n.toNat + 1), rest.drop (n.toNat + 1)) := by unfold stepL; rw [if_pos h1, if_neg h2]
theorem stepL_run_no {n : UInt8} {rest : List UInt8} (h1 : ¬ n.toNat < 128) (h2 : rest.length = 0) : stepL n rest = none := by unfold stepL; rw [if_neg h1, if_pos h2]
theorem stepL_run {n : UInt8} {rest : List UInt8} (h1 : ¬ n.toNat < 128) (h2 : ¬ rest.length = 0) : stepL n rest = some (List.replicate (n.toNat - 125) (rest.getD 0 0), rest.drop 1) := by unfold stepL; rw [if_neg h1, if_neg h2]
theorem long_walk_long (s : ByteArray) (w : World) (hs : s.size ≤ maxLen) (h : 131072 < s.size) :
    Calls Try.prog 13 #[.string s] w fun e w' => e = .returned (.tuple #[.string ⟨(long s.data.toList).1.toArray⟩, .int .i64 (long s.data.toList).2]) ∧ Below w.heap.size w w' := by
  have e : long s.data.toList = ([], errLong) := by unfold long; rw [if_pos (by simpa using h)]
  rw [e]
  unfold maxLen at hs
  clear e
  go_enter Try.func13, Try.ntmps13
  go_wp2
  go_ret2
  exact ⟨rfl, Below.refl _ _⟩
set_option maxRecDepth 100000 in
set_option maxHeartbeats 1000000 in
theorem long_walk (s : ByteArray) (w : World) (hs : s.size ≤ 131072) :
    Calls Try.prog 13 #[.string s] w fun e w' => e = .returned (.tuple #[.string ⟨(long s.data.toList).1.toArray⟩, .int .i64 (long s.data.toList).2]) ∧ Below w.heap.size w w' := by
  have hsl : s.data.toList.length = s.size := by simp
  rw [long_eq _ (by rw [hsl]; exact hs)]
  generalize hR : longR s.data.toList [] = R
  obtain ⟨out, code⟩ := R
  have HR := Lib.hid hR; clear hR
  have HSL := Lib.hid hsl; clear hsl
  have hd0 : decide ((131072 : Int) < (s.size : Int)) = false := by simp; omega
  go_enter Try.func13, Try.ntmps13
  go_wp2_with fail
  go_loopw [5, 6, 7] (fun iv _ _ wr => ∃ (i : Nat) (acc : List UInt8), i ≤ s.size ∧ iv = .int .i64 i ∧ acc.length ≤ 65536 ∧ Try.Bd wr w.heap.size w.heap.size acc ∧ Hid (longR (s.data.toList.drop i) acc = (out, code)) ∧ Below w.heap.size w wr) (fun iv _ _ _ => s.size - (intOf iv).toNat)
  case atStart => exact ⟨0, [], Nat.zero_le _, rfl, by simp, Try.Bd.new w, HR.out, (Below.refl _ _).alloc (Nat.le_refl _) _⟩
  case round =>
    obtain ⟨i, acc, hi, rfl, hal, hbd, hinv, hb⟩ := hrel
    by_cases hlt : i < s.size
    · have hx := idx_str Try.underlying9 s i (i : Int) rfl hlt
      have hdr : s.data.toList.drop i = s.data.toList.getD i 0 :: s.data.toList.drop (i + 1) := by
        have hl : i < s.data.toList.length := by rw [HSL.out]; exact hlt
        rw [List.drop_eq_getElem_cons hl]
        congr 1
        simp [List.getD, List.getElem?_eq_getElem hl]
      have hc := longR_cons (s.data.toList.getD i 0) (s.data.toList.drop (i + 1)) acc
      rw [← hdr, hinv.out] at hc
      have hlr : (s.data.toList.drop (i + 1)).length = s.size - (i + 1) := by rw [List.length_drop, HSL.out]
      have hbt := (s.data.toList.getD i 0).toNat_lt
      generalize hB : s.data.toList.getD i 0 = b at hc hbt
      have hx2 : byteAt s i = (b.toNat : Int) := by unfold byteAt; rw [hB]
      rw [hx2] at hx
      generalize hn : b.toNat = n at hx hbt
      have HN := Lib.hid hn; have HC := Lib.hid hc; have HLR := Lib.hid hlr
      clear hn hc hlr hdr hB hx2 hinv
      by_cases h128 : n < 128
      · by_cases hsh : s.size - (i + 1) < n + 1
        · have hfin : Hid ((out, code) = ([], errShort)) := by
            show _ = _
            rw [HC.out, stepL_plain_no (by rw [HN.out]; exact h128) (by rw [HLR.out, HN.out]; exact hsh)]
          go_wp2_with fail
          go_ret2
          have hf := hfin.out
          simp only [Prod.mk.injEq] at hf
          exact ⟨by rw [hf.1, hf.2]; rfl, hb⟩
        · have hstep := Lib.hid (stepL_plain (n := b) (rest := s.data.toList.drop (i + 1)) (by rw [HN.out]; exact h128) (by rw [HLR.out, HN.out]; exact hsh))
          have hpl : Hid ((s.extract (i + 1) (i + 1 + n + 1)).data.toList = (s.data.toList.drop (i + 1)).take (b.toNat + 1)) := by
            show _ = _
            rw [extract_list s _ _ (by omega), HN.out]; congr 1; omega
          have hps := extract_size s (i + 1) (i + 1 + n + 1) (by omega)
          have HPS := Lib.hid hps; clear hps
          have hps1 : (s.extract (i + 1) (i + 1 + n + 1)).size ≤ n + 1 := by rw [HPS.out]; omega
          have hps2 : n + 1 ≤ (s.extract (i + 1) (i + 1 + n + 1)).size := by rw [HPS.out]; omega
          by_cases hov : 65536 < acc.length + (n + 1)
          · have hfin : Hid ((out, code) = ([], errLong)) := by
              show _ = _
              rw [HC.out, hstep.out]
              simp only
              rw [if_pos (by rw [List.length_take, HLR.out, HN.out]; omega)]
            go_wp2_with fail
            refine (Try.bLen _ _ acc _ hbd).mono ?_
            rintro e w1 ⟨rfl, rfl⟩
            go_wp2_with fail
            go_ret2
            have hf := hfin.out
            simp only [Prod.mk.injEq] at hf
            exact ⟨by rw [hf.1, hf.2]; rfl, hb⟩
          · have hfin : Hid (longR (s.data.toList.drop (i + n + 2)) (acc ++ (s.extract (i + 1) (i + 1 + n + 1)).data.toList) = (out, code)) := by
              show _ = _
              rw [HC.out, hstep.out]
              simp only
              rw [if_neg (by rw [List.length_take, HLR.out, HN.out]; omega), hpl.out, List.drop_drop, HN.out]
              congr 2; omega
            go_wp2_with fail
            refine (Try.bLen _ _ acc _ hbd).mono ?_
            rintro e w1 ⟨rfl, rfl⟩
            go_wp2_with fail
            refine (Try.bWriteString _ _ acc (s.extract (i + 1) (i + 1 + n + 1)) _ hbd (by omega) hb.size).mono ?_
            rintro e w2 ⟨rfl, hbd2, h2⟩
            have hb2 := hb.trans h2
            clear hbd hb h2
            go_wp2_with fail
            go_roundw
            case rel =>
              refine ⟨i + n + 2, _, by omega, by go_num, ?_, hbd2, hfin.out, hb2⟩
              have := HPS.out
              have e := hpl.out
              rw [List.length_append, e, List.length_take, HLR.out, HN.out]; omega
            case measure => simp [intOf]; omega
      · by_cases hsh : i + 1 = s.size
        · have hfin : Hid ((out, code) = ([], errShort)) := by
            show _ = _
            rw [HC.out, stepL_run_no (by rw [HN.out]; exact h128) (by rw [HLR.out]; omega)]
          have hq : (((i : Int) + 1) == (s.size : Int)) = true := by simp; omega
          have HSH := Lib.hid hsh; clear hsh
          go_wp2_with fail
          go_ret2
          have hf := hfin.out
          simp only [Prod.mk.injEq] at hf
          exact ⟨by rw [hf.1, hf.2]; rfl, hb⟩
        · have hq : (((i : Int) + 1) == (s.size : Int)) = false := by simp; omega
          have hstep := Lib.hid (stepL_run (n := b) (rest := s.data.toList.drop (i + 1)) (by rw [HN.out]; exact h128) (by rw [HLR.out]; omega))
          have hx1 : Hid ((s.extract (i + 1) (i + 1 + 1)).data.toList = [(s.data.toList.drop (i + 1)).getD 0 0]) := by
            show _ = _
            rw [extract_list s _ _ (by omega), show i + 1 + 1 - (i + 1) = 1 by omega]
            have hl : 0 < (s.data.toList.drop (i + 1)).length := by rw [HLR.out]; omega
            match s.data.toList.drop (i + 1), hl with
            | y :: t, _ => rfl
          generalize hy : (s.data.toList.drop (i + 1)).getD 0 0 = y at hstep hx1
          clear hy
          go_wp2_with fail
          refine (repeat_at _ y hx1.out (n - 125) _ (by omega) (by omega) _).mono ?_
          rintro e w1 ⟨rfl, h1⟩
          have hbd1 := hbd.next h1
          have hb1 := below_next hb h1
          clear hbd hb h1
          have hsz : (⟨(List.replicate (n - 125) y).toArray⟩ : ByteArray).size = n - 125 := by simp [ByteArray.size]
          have hdl : (⟨(List.replicate (n - 125) y).toArray⟩ : ByteArray).data.toList = List.replicate (n - 125) y := by simp
          generalize (⟨(List.replicate (n - 125) y).toArray⟩ : ByteArray) = ps at hsz hdl
          have HSZ := Lib.hid hsz; have HDL := Lib.hid hdl
          have hps1 : ps.size ≤ n - 125 := by rw [hsz]; exact Nat.le_refl _
          have hps2 : n - 125 ≤ ps.size := by rw [hsz]; exact Nat.le_refl _
          clear hsz hdl
          by_cases hov : 65536 < acc.length + (n - 125)
          · have hfin : Hid ((out, code) = ([], errLong)) := by
              show _ = _
              rw [HC.out, hstep.out]
              simp only
              rw [if_pos (by rw [List.length_replicate, HN.out]; omega)]
            go_wp2_with fail
            refine (Try.bLen _ _ acc _ hbd1).mono ?_
            rintro e w2 ⟨rfl, rfl⟩
            go_wp2_with fail
            go_ret2
            have hf := hfin.out
            simp only [Prod.mk.injEq] at hf
            exact ⟨by rw [hf.1, hf.2]; rfl, hb1⟩
          · have hfin : Hid (longR (s.data.toList.drop (i + 2)) (acc ++ ps.data.toList) = (out, code)) := by
              show _ = _
              rw [HC.out, hstep.out]
              simp only
              rw [if_neg (by rw [List.length_replicate, HN.out]; omega), HDL.out, List.drop_drop, HN.out]
            go_wp2_with fail
            refine (Try.bLen _ _ acc _ hbd1).mono ?_
            rintro e w2 ⟨rfl, rfl⟩
            go_wp2_with fail
            refine (Try.bWriteString _ _ acc ps _ hbd1 (by omega) hb1.size).mono ?_
            rintro e w3 ⟨rfl, hbd2, h2⟩
            have hb2 := hb1.trans h2
            clear hbd1 hb1 h2
            go_wp2_with fail
            go_roundw
            case rel =>
              refine ⟨i + 2, _, by omega, by go_num, ?_, hbd2, hfin.out, hb2⟩
              rw [List.length_append, HDL.out, List.length_replicate]; omega
            case measure => simp [intOf]; omega
    · obtain rfl : i = s.size := by omega
      have hfin : Hid ((out, code) = (acc, 0)) := by
        show _ = _
        rw [← hinv.out, List.drop_of_length_le (by rw [HSL.out]; exact Nat.le_refl _), longR_nil]
      go_wp2_with fail
      refine (Try.bString _ _ acc _ hbd hb.size).mono ?_
      rintro e w1 ⟨rfl, h1⟩
      have hf := hfin.out
      simp only [Prod.mk.injEq] at hf
      have HF1 := Lib.hid hf.1; have HF2 := Lib.hid hf.2; clear hf
      go_wp2_with fail
      go_ret2
      exact ⟨by rw [HF1.out, HF2.out]; rfl, hb.trans h1⟩
end
section
open Go.RowKit
def Law (w : World) (e : Ending) (w' : World) : Prop := e = .returned (.bool true) ∧ Below w.heap.size w w'
theorem str_of {s : ByteArray} {l : List UInt8} (h : s.data.toList = l) : s = ⟨l.toArray⟩ := by
  subst h; cases s; simp
theorem short_at (s r : ByteArray) (h : r.data.toList = short s.data.toList) (w : World) (hs : s.size ≤ 65536) :
    Calls Try.prog 14 #[.string s] w fun e w' => e = .returned (.string r) ∧ Below w.heap.size w w' := by
  rw [str_of h]; exact short_walk s w hs
theorem long_at (s r : ByteArray) (c : Nat) (h : long s.data.toList = (r.data.toList, c)) (w : World) (hs : s.size ≤ maxLen) :
    Calls Try.prog 13 #[.string s] w fun e w' => e = .returned (.tuple #[.string r, .int .i64 c]) ∧ Below w.heap.size w w' := by
  have e : r = ⟨(long s.data.toList).1.toArray⟩ := by rw [h]
  have e2 : c = (long s.data.toList).2 := by rw [h]
  rw [e, e2]
  by_cases hl : s.size ≤ 131072
  · exact long_walk s w hl
  · exact long_walk_long s w hs (by omega)
theorem ex1 : short [7, 7, 7, 7, 1, 2] = [129, 7, 1, 1, 2] := by decide +kernel
theorem ex2 : long [0, 9, 128, 5] = ([9, 5, 5, 5], 0) := by decide +kernel
theorem ex3 : ((⟨#[129, 7, 1, 1, 2]⟩ : ByteArray).toList == [129, 7, 1, 1, 2]) = true := by decide +kernel
theorem ex4 : ((⟨#[9, 5, 5, 5]⟩ : ByteArray).toList == [9, 5, 5, 5]) = true := by decide +kernel
theorem awake_any (w : World) : Calls Try.prog 6 #[] w (Law w) := by
  have h3 := ex3
  have h4 := ex4
  go_enter Try.func6, Try.ntmps6
  go_wp2_with fail
  refine (long_at ⟨#[0, 9, 128, 5]⟩ ⟨#[9, 5, 5, 5]⟩ 0 ex2 _ (by decide)).mono ?_
  rintro e w1 ⟨rfl, h1⟩
  go_wp2_with fail
  refine (short_at ⟨#[7, 7, 7, 7, 1, 2]⟩ ⟨#[129, 7, 1, 1, 2]⟩ ex1.symm _ (by decide)).mono ?_
  rintro e w2 ⟨rfl, h2⟩
  go_wp2_with fail
  go_ret
  exact ⟨rfl, below_next h1 h2⟩
end
section
open Go.RowKit Go.Sort
set_option maxRecDepth 10000
set_option maxHeartbeats 1000000
theorem awake25_p : CallP Try.prog 6 [] (BL true) := CallP.of_calls (by kernel_rfl) fun w => (awake_any w).mono fun e w' h => h
abbrev shGrid : Sh := .st [shU, shU, .str]
theorem wt_grid {ts : List T} (h : shGrid.wt ts) : ∃ (W H : Nat) (B : ByteArray), ts = gridL W H B ∧ W < 256 ∧ H < 256 := by
  obtain ⟨a, b, rfl, h1, c, d, rfl, h2, e, f, rfl, h3, rfl⟩ := h
  obtain ⟨x, rfl, hx⟩ := wt_u8 h1
  obtain ⟨y, rfl, hy⟩ := wt_u8 h2
  obtain ⟨s, rfl, hs⟩ := h3
  refine ⟨x.toNat, y.toNat, s, ?_, by omega, by omega⟩
  show _ = [U8 (x.toNat : Nat), U8 (y.toNat : Nat), .v (.string s)]
  rw [Int.toNat_of_nonneg hx.1, Int.toNat_of_nonneg hy.1]
  rfl
end
end Go.Proofs.Ytnngelggbljchaa
