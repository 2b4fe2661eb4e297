/-
  PLAIN LAW: byte by byte the program's screen is the document's.
-/
import Derived.Test.YtiefpodmdpnppaaDoorPlC
namespace Go.Proofs.YtiefpodmdpnppaaDoor

theorem kept_eq (k : List (List UInt8)) (l : List UInt8) (most : Nat) (h : k.length ≤ most) :
    (if most = 0 then k else if most ≤ k.length then k.tail ++ [l] else k ++ [l]) = if most < k.length + 1 then (k ++ [l]).drop (k.length + 1 - most) else k ++ [l] := by
  by_cases h0 : most = 0
  · obtain rfl : k = [] := List.eq_nil_of_length_eq_zero (by omega)
    subst h0
    simp
  · rw [if_neg h0]
    by_cases h1 : most ≤ k.length
    · rw [if_pos h1, if_pos (by omega), show k.length + 1 - most = 1 from by omega]
      cases k with
      | nil => simp at h1; omega
      | cons a t => rfl
    · rw [if_neg h1, if_neg (by omega)]
theorem keep_kept (S : Scr) (l : List UInt8) : (S.keep l).kept = if S.most = 0 then S.kept else if S.most ≤ S.kept.length then S.kept.tail ++ [l] else S.kept ++ [l] := by
  unfold Scr.keep
  split
  · rfl
  · split <;> rfl
theorem flat_tail (w : Nat) (rows : List (List UInt8)) (h : ∀ r ∈ rows, r.length = w) (hn : 0 < rows.length) : rows.flatten.take w = rows.headD [] ∧ rows.flatten.drop w = rows.tail.flatten := by
  cases rows with
  | nil => simp at hn
  | cons r rs =>
    have hr := h r (List.mem_cons_self ..)
    constructor
    · rw [List.flatten_cons, List.take_append_of_le_length (by omega), List.take_of_length_le (by omega)]; rfl
    · rw [List.flatten_cons, List.drop_append_of_le_length (by omega), List.drop_of_length_le (by omega)]; rfl
/-- the first row leaves, a blank one comes -/
theorem Sim.scroll {S : Scr} {M : Ref} (s : Sim S M) (ok : M.Ok) : Sim S.scroll { M.leave with rows := M.rows.tail ++ [List.replicate M.w 32] } := by
  obtain ⟨h1, h2⟩ := flat_tail M.w M.rows ok.rw (by rw [ok.r]; exact ok.h1)
  have hk : (S.keep (S.grid.take S.cols)).kept = M.leave.kept := by
    rw [keep_kept, s.g, s.c, h1, s.m, s.k, kept_eq _ _ _ ok.k]; rfl
  have hg : S.scroll.grid = S.grid.drop S.cols ++ List.replicate S.cols 32 := rfl
  have hsame : S.scroll.cols = S.cols ∧ S.scroll.rows = S.rows ∧ S.scroll.most = S.most ∧ S.scroll.x = S.x ∧ S.scroll.y = S.y ∧ S.scroll.st = S.st ∧ S.scroll.n0 = S.n0 ∧ S.scroll.n1 = S.n1 ∧ S.scroll.num = S.num := by
    unfold Scr.scroll Scr.withGrid Scr.keep
    split
    · exact ⟨rfl, rfl, rfl, rfl, rfl, rfl, rfl, rfl, rfl⟩
    · split <;> exact ⟨rfl, rfl, rfl, rfl, rfl, rfl, rfl, rfl, rfl⟩
  obtain ⟨q1, q2, q3, q4, q5, q6, q7, q8, q9⟩ := hsame
  refine { c := q1.trans s.c, r := q2.trans s.r, m := q3.trans s.m, x := q4.trans s.x, y := q5.trans s.y, k := hk, g := ?_, st := q6.trans s.st, n := ?_ }
  · rw [hg, s.g, s.c, h2, List.flatten_append]; simp
  · intro hb
    have := s.n hb
    rw [q7, q8, q9]; exact this
theorem Sim.down {S : Scr} {M : Ref} (s : Sim S M) (ok : M.Ok) : Sim S.lineEnd M.down := by
  unfold Scr.lineEnd Ref.down
  by_cases h : S.y + 1 < S.rows
  · rw [if_pos h, if_pos (by rw [← s.y, ← s.r]; exact h)]
    exact { s with x := rfl, y := congrArg (· + 1) s.y }
  · rw [if_neg h, if_neg (by rw [← s.y, ← s.r]; exact h)]
    exact Sim.scroll (S := { S with x := 0 }) (M := { M with x := 0 }) { s with x := rfl } { ok with x := Nat.zero_le _ }
theorem Sim.put {S : Scr} {M : Ref} (s : Sim S M) (ok : M.Ok) (v : UInt8) (hx : M.x < M.w) : Sim (S.put v) { M.lay M.y M.x [v] with x := M.x + 1 } := by
  refine { c := s.c, r := s.r, m := s.m, x := congrArg (· + 1) s.x, y := s.y, k := s.k, g := ?_, st := s.st, n := s.n }
  show S.grid.set (S.y * S.cols + S.x) v = (M.lay M.y M.x [v]).rows.flatten
  have hlen : M.rows.flatten.length = M.h * M.w := by rw [flat_len M.w _ ok.rw, ok.r]
  have hin : M.y * M.w + M.w ≤ M.h * M.w := by rw [← Nat.succ_mul]; exact Nat.mul_le_mul_right _ ok.y
  apply List.ext_getElem?
  intro j
  rw [lay_flat M ok _ _ _ ok.y (by simp; omega), List.getElem?_set, s.y, s.c, s.x, s.g]
  generalize M.y * M.w = p at *
  by_cases hj : p + M.x = j
  · subst hj
    rw [if_pos rfl, if_pos (by omega), if_pos (by simp)]
    simp
  · rw [if_neg hj, if_neg (by simp; omega)]
theorem clear_sim (g : List UInt8) (F : List UInt8) (a b : Nat) (hb : b ≤ g.length) (h : ∀ j, F[j]? = if a ≤ j ∧ j < b then some 32 else g[j]?) : clearL g a b = F := by
  apply List.ext_getElem?
  intro j
  rw [clearL_at g a b j hb, h j]
theorem ite_iff {α : Type} {c d : Prop} [Decidable c] [Decidable d] (h : c ↔ d) (A B : α) : (if c then A else B) = if d then A else B := by
  by_cases h1 : c
  · rw [if_pos h1, if_pos (h.1 h1)]
  · rw [if_neg h1, if_neg (fun h2 => h1 (h.2 h2))]
theorem ite_or {α : Type} (c d : Prop) [Decidable c] [Decidable d] (A B : α) : (if c then A else if d then A else B) = if c ∨ d then A else B := by
  by_cases h1 : c
  · rw [if_pos h1, if_pos (Or.inl h1)]
  · by_cases h2 : d
    · rw [if_neg h1, if_pos h2, if_pos (Or.inr h2)]
    · rw [if_neg h1, if_neg h2, if_neg (by rintro (h | h); exact h1 h; exact h2 h)]
theorem Sim.letter {S : Scr} {M : Ref} (s : Sim S M) (ok : M.Ok) (v : UInt8) : Sim (S.letter v) (M.letter v) := by
  have hx := ok.x
  unfold Scr.letter Ref.letter
  rw [s.x, s.c]
  by_cases h : M.x = M.w
  · rw [if_pos h, if_pos (by omega)]
    have hd : M.down.x = 0 ∧ M.down.w = M.w := by unfold Ref.down Ref.leave; split <;> exact ⟨rfl, rfl⟩
    exact (s.down ok).put ok.down v (by rw [hd.1, hd.2]; exact ok.w1)
  · rw [if_neg h, if_neg (by omega)]
    exact s.put ok v (by omega)
theorem Sim.erased {S : Scr} {M N : Ref} (s : Sim S M) (a b : Nat) (hb : b ≤ S.grid.length) (hN : N.w = M.w ∧ N.h = M.h ∧ N.most = M.most ∧ N.kept = M.kept ∧ N.x = M.x ∧ N.y = M.y ∧ N.begun = M.begun ∧ N.args = M.args)
    (h : ∀ j, N.rows.flatten[j]? = if a ≤ j ∧ j < b then some 32 else M.rows.flatten[j]?) : Sim (S.clear a b) N := by
  obtain ⟨q1, q2, q3, q4, q5, q6, q7, q8⟩ := hN
  refine { c := s.c.trans q1.symm, r := s.r.trans q2.symm, m := s.m.trans q3.symm, x := s.x.trans q5.symm, y := s.y.trans q6.symm, k := s.k.trans q4.symm, g := ?_, st := s.st.trans q7.symm, n := ?_ }
  · exact clear_sim S.grid _ a b hb (fun j => by rw [h j, s.g])
  · intro hb; rw [q8]; exact s.n (q7 ▸ hb)
theorem erase_keeps (M : Ref) (y a x : Nat) : (M.erase y a x).w = M.w ∧ (M.erase y a x).h = M.h ∧ (M.erase y a x).most = M.most ∧ (M.erase y a x).kept = M.kept ∧ (M.erase y a x).x = M.x ∧ (M.erase y a x).y = M.y ∧ (M.erase y a x).begun = M.begun ∧ (M.erase y a x).args = M.args := by
  unfold Ref.erase Ref.lay
  split
  · exact ⟨rfl, rfl, rfl, rfl, rfl, rfl, rfl, rfl⟩
  · split <;> exact ⟨rfl, rfl, rfl, rfl, rfl, rfl, rfl, rfl⟩
theorem wipeTo_keeps (M : Ref) (n k : Nat) : (M.wipeTo n k).w = M.w ∧ (M.wipeTo n k).h = M.h ∧ (M.wipeTo n k).most = M.most ∧ (M.wipeTo n k).kept = M.kept ∧ (M.wipeTo n k).x = M.x ∧ (M.wipeTo n k).y = M.y ∧ (M.wipeTo n k).begun = M.begun ∧ (M.wipeTo n k).args = M.args := by
  induction k with
  | zero => exact ⟨rfl, rfl, rfl, rfl, rfl, rfl, rfl, rfl⟩
  | succ k ih =>
    unfold Ref.wipeTo
    split
    · obtain ⟨a1, a2, a3, a4, a5, a6, a7, a8⟩ := erase_keeps (M.wipeTo n k) k 2 0
      obtain ⟨b1, b2, b3, b4, b5, b6, b7, b8⟩ := ih
      exact ⟨a1.trans b1, a2.trans b2, a3.trans b3, a4.trans b4, a5.trans b5, a6.trans b6, a7.trans b7, a8.trans b8⟩
    · exact ih
theorem wipeAll_keeps (M : Ref) (k : Nat) : (M.wipeAll k).w = M.w ∧ (M.wipeAll k).h = M.h ∧ (M.wipeAll k).most = M.most ∧ (M.wipeAll k).kept = M.kept ∧ (M.wipeAll k).x = M.x ∧ (M.wipeAll k).y = M.y ∧ (M.wipeAll k).begun = M.begun ∧ (M.wipeAll k).args = M.args := by
  induction k with
  | zero => exact ⟨rfl, rfl, rfl, rfl, rfl, rfl, rfl, rfl⟩
  | succ k ih =>
    obtain ⟨a1, a2, a3, a4, a5, a6, a7, a8⟩ := erase_keeps (M.wipeAll k) k 2 0
    obtain ⟨b1, b2, b3, b4, b5, b6, b7, b8⟩ := ih
    exact ⟨a1.trans b1, a2.trans b2, a3.trans b3, a4.trans b4, a5.trans b5, a6.trans b6, a7.trans b7, a8.trans b8⟩
theorem Sim.len {S : Scr} {M : Ref} (s : Sim S M) (ok : M.Ok) : S.grid.length = M.h * M.w := by rw [s.g, flat_len M.w _ ok.rw, ok.r]
theorem div_lt_iff (w h j : Nat) (hw : 1 ≤ w) : j / w < h ↔ j < h * w := Nat.div_lt_iff_lt_mul hw
theorem Sim.ff {S : Scr} {M : Ref} (s : Sim S M) (ok : M.Ok) : Sim { S.clear 0 S.grid.length with x := 0, y := 0 } { M.wipeAll M.h with x := 0, y := 0 } := by
  have hl := s.len ok
  have h := s.erased (N := M.wipeAll M.h) 0 S.grid.length (Nat.le_refl _) (wipeAll_keeps M M.h) (fun j => by
    rw [wipeAll_flat M ok j M.h (Nat.le_refl _)]
    refine ite_iff ?_ _ _
    rw [div_lt_iff _ _ _ ok.w1, hl]; omega)
  exact { h with x := rfl, y := rfl }
theorem Sim.kay {S : Scr} {M : Ref} (s : Sim S M) (ok : M.Ok) (n : Nat) : Sim (S.blank n (S.y * S.cols) ((S.y + 1) * S.cols)) (if 2 < n then M else M.erase M.y n (min M.x (M.w - 1))) := by
  have hl := s.len ok
  have hw := ok.w1
  have hin : M.y * M.w + M.w ≤ M.h * M.w := by rw [← Nat.succ_mul]; exact Nat.mul_le_mul_right _ ok.y
  unfold Scr.blank
  rw [s.y, s.c, s.x, Nat.succ_mul]
  have fl := erase_flat M ok M.y n (min M.x (M.w - 1)) ok.y (by omega)
  have kp := erase_keeps M M.y n (min M.x (M.w - 1))
  by_cases h0 : n = 0
  · rw [if_pos h0, if_neg (by omega)]
    exact s.erased _ _ (by omega) kp (fun j => by rw [fl j]; unfold lo hi; rw [if_pos h0, if_neg (show ¬ n = 1 by omega)])
  · by_cases h1 : n = 1
    · rw [if_neg h0, if_pos h1, if_neg (by omega)]
      exact s.erased _ _ (by omega) kp (fun j => by rw [fl j]; unfold lo hi; rw [if_neg h0, if_pos h1])
    · by_cases h2 : n = 2
      · rw [if_neg h0, if_neg h1, if_pos h2, if_neg (by omega)]
        exact s.erased _ _ (by omega) kp (fun j => by rw [fl j]; unfold lo hi; rw [if_neg h0, if_neg h1])
      · rw [if_neg h0, if_neg h1, if_neg h2, if_pos (by omega)]
        exact s
theorem Sim.jay {S : Scr} {M : Ref} (s : Sim S M) (ok : M.Ok) (n : Nat) : Sim (S.blank n 0 S.grid.length) (if 2 < n then M else (M.wipeTo n M.h).erase M.y n (min M.x (M.w - 1))) := by
  have hl := s.len ok
  have hw := ok.w1
  have hin : M.y * M.w + M.w ≤ M.h * M.w := by rw [← Nat.succ_mul]; exact Nat.mul_le_mul_right _ ok.y
  obtain ⟨b1, b2, b3, b4, b5, b6, b7, b8⟩ := wipeTo_keeps M n M.h
  have fl := erase_flat (M.wipeTo n M.h) (ok.wipeTo n M.h (Nat.le_refl _)) M.y n (min M.x (M.w - 1)) (by rw [b2]; exact ok.y) (by rw [b1]; omega)
  have wf := fun j => wipeTo_flat M ok n j M.h (Nat.le_refl _)
  obtain ⟨a1, a2, a3, a4, a5, a6, a7, a8⟩ := erase_keeps (M.wipeTo n M.h) M.y n (min M.x (M.w - 1))
  have kp := And.intro (a1.trans b1) (And.intro (a2.trans b2) (And.intro (a3.trans b3) (And.intro (a4.trans b4) (And.intro (a5.trans b5) (And.intro (a6.trans b6) (And.intro (a7.trans b7) (a8.trans b8)))))))
  have dv := fun j => div_in M.w j (j / M.w) hw
  have dl := fun j => div_lt_iff M.w M.h j hw
  have up : ∀ q, M.y + 1 ≤ q → M.y * M.w + M.w ≤ q * M.w := fun q hq => by rw [← Nat.succ_mul]; exact Nat.mul_le_mul_right _ hq
  have dn : ∀ q, q + 1 ≤ M.y → q * M.w + M.w ≤ M.y * M.w := fun q hq => by rw [← Nat.succ_mul]; exact Nat.mul_le_mul_right _ hq
  unfold Scr.blank
  rw [s.y, s.c, s.x, hl]
  have key : ∀ j, ((M.wipeTo n M.h).erase M.y n (min M.x (M.w - 1))).rows.flatten[j]? = if (lo (M.wipeTo n M.h) M.y n (min M.x (M.w - 1)) ≤ j ∧ j < hi (M.wipeTo n M.h) M.y n (min M.x (M.w - 1))) ∨ (j / M.w < M.h ∧ wipes n (j / M.w) M.y = true) then some 32 else M.rows.flatten[j]? := fun j => by
    rw [fl j, wf j, ite_or]
  have eqy : ∀ q, q = M.y → q * M.w = M.y * M.w := fun q hq => by rw [hq]
  have wp : ∀ q, (wipes n q M.y = true) ↔ (n = 2 ∨ (n = 0 ∧ M.y < q) ∨ (n = 1 ∧ q < M.y)) := fun q => by
    unfold wipes; simp [or_assoc]
  by_cases h0 : n = 0
  · rw [if_pos h0, if_neg (by omega)]
    refine s.erased _ _ (by omega) kp (fun j => ?_)
    rw [key j]
    refine ite_iff ?_ _ _
    have q1 := (dv j).2 rfl; have q2 := dl j; have q3 := up (j / M.w); have q4 := dn (j / M.w); have q5 := eqy (j / M.w); have q6 := wp (j / M.w)
    unfold lo hi
    rw [b1, if_pos h0, if_neg (show ¬ n = 1 by omega), q6]
    clear key wf fl kp dv dl up dn eqy wp q6
    generalize j / M.w * M.w = Q at *
    generalize j / M.w = q at *
    generalize M.y * M.w = p at *
    generalize M.h * M.w = H at *
    omega
  · by_cases h1 : n = 1
    · rw [if_neg h0, if_pos h1, if_neg (by omega)]
      refine s.erased _ _ (by omega) kp (fun j => ?_)
      rw [key j]
      refine ite_iff ?_ _ _
      have q1 := (dv j).2 rfl; have q2 := dl j; have q3 := up (j / M.w); have q4 := dn (j / M.w); have q5 := eqy (j / M.w); have q6 := wp (j / M.w)
      unfold lo hi
      rw [b1, if_neg h0, if_pos h1, q6]
      clear key wf fl kp dv dl up dn eqy wp q6
      generalize j / M.w * M.w = Q at *
      generalize j / M.w = q at *
      generalize M.y * M.w = p at *
      generalize M.h * M.w = H at *
      omega
    · by_cases h2 : n = 2
      · rw [if_neg h0, if_neg h1, if_pos h2, if_neg (by omega)]
        refine s.erased _ _ (by omega) kp (fun j => ?_)
        rw [key j]
        refine ite_iff ?_ _ _
        have q1 := (dv j).2 rfl; have q2 := dl j; have q3 := up (j / M.w); have q4 := dn (j / M.w); have q5 := eqy (j / M.w); have q6 := wp (j / M.w)
        unfold lo hi
        rw [b1, if_neg h0, if_neg h1, q6]
        clear key wf fl kp dv dl up dn eqy wp q6
        generalize j / M.w * M.w = Q at *
        generalize j / M.w = q at *
        generalize M.y * M.w = p at *
        generalize M.h * M.w = H at *
        omega
      · rw [if_neg h0, if_neg h1, if_neg h2, if_pos (by omega)]
        exact s
theorem command_begun (M : Ref) (e : Nat) : (M.command e).begun = M.begun := by
  unfold Ref.command
  repeat (first | rfl | exact (erase_keeps _ _ _ _).2.2.2.2.2.2.1 | exact ((erase_keeps _ _ _ _).2.2.2.2.2.2.1).trans (wipeTo_keeps _ _ _).2.2.2.2.2.2.1 | split)
theorem Sim.noargs {S : Scr} {M : Ref} (s : Sim S M) (h : M.begun ≠ 2) : Sim S { M with args := [] } := { s with n := fun hb => absurd hb h }
theorem Sim.cmd {S : Scr} {M : Ref} (s : Sim S M) (ok : M.Ok) (e : Nat) : Sim (S.cmd e (numL M.args 0) (numL M.args 1)) (M.command e) := by
  have e1 := s.x; have e2 := s.y; have e3 := s.c; have e4 := s.r
  unfold Scr.cmd Ref.command
  by_cases h1 : e = 65
  · rw [if_pos h1, if_pos h1]; exact { s with y := (by show S.y - _ = M.y - _; rw [e2]) }
  rw [if_neg h1, if_neg h1]
  by_cases h2 : e = 66
  · rw [if_pos h2, if_pos h2]; exact { s with y := (by show min (S.y + _) (S.rows - 1) = min (M.h - 1) (M.y + _); rw [e2, e4, Nat.min_comm]) }
  rw [if_neg h2, if_neg h2]
  by_cases h3 : e = 67
  · rw [if_pos h3, if_pos h3]; exact { s with x := (by show min (S.x + _) (S.cols - 1) = min (M.w - 1) (M.x + _); rw [e1, e3, Nat.min_comm]) }
  rw [if_neg h3, if_neg h3]
  by_cases h4 : e = 68
  · rw [if_pos h4, if_pos h4]; exact { s with x := (by show S.x - _ = M.x - _; rw [e1]) }
  rw [if_neg h4, if_neg h4]
  by_cases h5 : e = 72
  · rw [if_pos h5, if_pos h5]; exact { s with x := (by show min _ S.cols - 1 = min M.w _ - 1; rw [e3, Nat.min_comm]), y := (by show min _ S.rows - 1 = min M.h _ - 1; rw [e4, Nat.min_comm]) }
  rw [if_neg h5, if_neg h5]
  by_cases h6 : e = 74
  · rw [if_pos h6, if_pos h6]; exact s.jay ok _
  rw [if_neg h6, if_neg h6]
  by_cases h7 : e = 75
  · rw [if_pos h7, if_pos h7]; exact s.kay ok _
  rw [if_neg h7, if_neg h7]
  exact s
theorem numFold_end (n : Nat) (l : List UInt8) (v : UInt8) : numFold n (l ++ [v]) = numStep n (numFold n l) v := by
  unfold numFold; rw [List.foldl_append]; rfl
theorem cmd_none (S : Scr) (k n m : Nat) (h : ¬ (64 ≤ k ∧ k ≤ 126)) : S.cmd k n m = S := by
  unfold Scr.cmd
  rw [if_neg (by omega), if_neg (by omega), if_neg (by omega), if_neg (by omega), if_neg (by omega), if_neg (by omega), if_neg (by omega)]
theorem Sim.byte {S : Scr} {M : Ref} (s : Sim S M) (ok : M.Ok) (v : UInt8) : Sim (S.byte v) (M.byte v) := by
  unfold Scr.byte Ref.byte
  rw [s.st]
  by_cases b1 : M.begun = 1
  · rw [if_pos b1, if_pos b1]
    by_cases hv : v.toNat = 91
    · rw [if_pos hv, if_pos hv]; exact { s with st := rfl, n := fun _ => ⟨rfl, rfl, rfl, rfl⟩ }
    · rw [if_neg hv, if_neg hv]; exact { s with st := rfl, n := fun hb => absurd (show (0 : Nat) = 2 from hb) (by omega) }
  rw [if_neg b1, if_neg b1]
  by_cases b2 : M.begun = 2
  · rw [if_pos b2, if_pos b2]
    obtain ⟨n0, n1, nm, ne⟩ := s.n b2
    unfold Scr.told
    by_cases hd : 48 ≤ v.toNat ∧ v.toNat ≤ 57
    · rw [if_pos hd, if_pos (Or.inl hd)]
      have hs0 := numFold_end 0 M.args v
      have hs1 := numFold_end 1 M.args v
      unfold numStep at hs0 hs1
      rw [if_neg (by omega)] at hs0 hs1
      by_cases m0 : S.num = 0
      · rw [if_pos m0]
        rw [if_pos (by omega)] at hs0
        rw [if_neg (by omega)] at hs1
        refine { s with n := fun _ => ?_ }
        show min (S.n0 * 10 + (v.toNat - 48)) 999 = (numFold 0 (M.args ++ [v])).1 ∧ S.n1 = (numFold 1 (M.args ++ [v])).1 ∧ S.num = min (numFold 0 (M.args ++ [v])).2 2 ∧ (numFold 0 (M.args ++ [v])).2 = (numFold 1 (M.args ++ [v])).2
        rw [hs0, hs1]
        exact ⟨by show _ = min (10 * (numFold 0 M.args).1 + v.toNat - 48) 999; rw [n0]; omega, n1, nm, ne⟩
      · rw [if_neg m0]
        rw [if_neg (by omega)] at hs0
        by_cases m1 : S.num = 1
        · rw [if_pos m1]
          rw [if_pos (by omega)] at hs1
          refine { s with n := fun _ => ?_ }
          show S.n0 = (numFold 0 (M.args ++ [v])).1 ∧ min (S.n1 * 10 + (v.toNat - 48)) 999 = (numFold 1 (M.args ++ [v])).1 ∧ S.num = min (numFold 0 (M.args ++ [v])).2 2 ∧ (numFold 0 (M.args ++ [v])).2 = (numFold 1 (M.args ++ [v])).2
          rw [hs0, hs1]
          exact ⟨n0, by show _ = min (10 * (numFold 1 M.args).1 + v.toNat - 48) 999; rw [n1]; omega, nm, ne⟩
        · rw [if_neg m1]
          rw [if_neg (by omega)] at hs1
          refine { s with n := fun _ => ?_ }
          show S.n0 = (numFold 0 (M.args ++ [v])).1 ∧ S.n1 = (numFold 1 (M.args ++ [v])).1 ∧ S.num = min (numFold 0 (M.args ++ [v])).2 2 ∧ (numFold 0 (M.args ++ [v])).2 = (numFold 1 (M.args ++ [v])).2
          rw [hs0, hs1]
          exact ⟨n0, n1, nm, ne⟩
    · rw [if_neg hd]
      by_cases hc : v.toNat = 59
      · rw [if_pos hc, if_pos (Or.inr hc)]
        have hs0 := numFold_end 0 M.args v
        have hs1 := numFold_end 1 M.args v
        unfold numStep at hs0 hs1
        rw [if_pos hc] at hs0 hs1
        refine { s with n := fun _ => ?_ }
        show S.n0 = (numFold 0 (M.args ++ [v])).1 ∧ S.n1 = (numFold 1 (M.args ++ [v])).1 ∧ min (S.num + 1) 2 = min (numFold 0 (M.args ++ [v])).2 2 ∧ (numFold 0 (M.args ++ [v])).2 = (numFold 1 (M.args ++ [v])).2
        rw [hs0, hs1]
        exact ⟨n0, n1, by show _ = min ((numFold 0 M.args).2 + 1) 2; omega, congrArg (· + 1) ne⟩
      · rw [if_neg hc, if_neg (by omega)]
        have s0 : Sim { S with st := 0 } { M with begun := 0 } := { s with st := rfl, n := fun hb => absurd (show (0 : Nat) = 2 from hb) (by omega) }
        have ok0 : ({ M with begun := 0 } : Ref).Ok := { ok with b := (by show 0 ≤ 2; omega) }
        by_cases hq : 64 ≤ v.toNat ∧ v.toNat ≤ 126
        · rw [if_pos hq]
          have hcm := (s0.cmd ok0 v.toNat).noargs (by rw [command_begun]; show (0 : Nat) ≠ 2; omega)
          rw [show numL ({ M with begun := 0 } : Ref).args 0 = S.n0 from n0.symm, show numL ({ M with begun := 0 } : Ref).args 1 = S.n1 from n1.symm] at hcm
          exact hcm
        · rw [if_neg hq, cmd_none _ _ _ _ hq]
          exact s0.noargs (by show (0 : Nat) ≠ 2; omega)
  rw [if_neg b2, if_neg b2]
  unfold Scr.plain
  by_cases h1 : 32 ≤ v.toNat ∧ v.toNat ≤ 126
  · rw [if_pos h1, if_pos h1]; exact s.letter ok v
  rw [if_neg h1, if_neg h1]
  by_cases h2 : v.toNat = 10
  · rw [if_pos h2, if_pos h2]; exact s.down ok
  rw [if_neg h2, if_neg h2]
  by_cases h3 : v.toNat = 13
  · rw [if_pos h3, if_pos h3]; exact { s with x := rfl }
  rw [if_neg h3, if_neg h3]
  by_cases h4 : v.toNat = 8
  · rw [if_pos h4, if_pos h4]; exact { s with x := (by show S.x - 1 = M.x - 1; rw [s.x]) }
  rw [if_neg h4, if_neg h4]
  by_cases h5 : v.toNat = 9
  · rw [if_pos h5, if_pos h5]; exact { s with x := (by show max (min ((S.x / 8 + 1) * 8) (S.cols - 1)) S.x = max M.x (min (M.x / 8 * 8 + 8) (M.w - 1)); rw [s.x, s.c]; omega) }
  rw [if_neg h5, if_neg h5]
  by_cases h6 : v.toNat = 12
  · rw [if_pos h6, if_pos h6]; exact s.ff ok
  rw [if_neg h6, if_neg h6]
  by_cases h7 : v.toNat = 27
  · rw [if_pos h7, if_pos h7]; exact { s with st := rfl, n := fun hb => absurd (show (1 : Nat) = 2 from hb) (by omega) }
  rw [if_neg h7, if_neg h7]
  exact s
theorem Sim.bytes {S : Scr} {M : Ref} (s : Sim S M) (ok : M.Ok) (l : List UInt8) : Sim (S.bytes l) (M.bytes l) := by
  unfold Scr.bytes Ref.bytes
  induction l generalizing S M with
  | nil => exact s
  | cons c l ih => exact ih (s.byte ok c) (ok.byte c)
theorem sim_new (c r k : Nat) : Sim (newScr c r k) (newRef c r k) := by
  refine { c := rfl, r := rfl, m := rfl, x := rfl, y := rfl, k := rfl, g := ?_, st := rfl, n := fun hb => absurd (show (0 : Nat) = 2 from hb) (by omega) }
  show List.replicate (c * r) 32 = (List.replicate r (List.replicate c 32)).flatten
  rw [List.flatten_replicate_replicate, Nat.mul_comm]
end Go.Proofs.YtiefpodmdpnppaaDoor
