/-
  PLAIN LAW of the lines: lines of letters, each ended by a line feed, stand below each other on the document's screen. No program in it.
-/
import Derived.Test.YtiefpodmdpnppaaDoorPlC
namespace Go.Proofs.YtiefpodmdpnppaaDoor

def pad (w : Nat) (l : List UInt8) : List UInt8 := l ++ List.replicate (w - l.length) 32
def Letters (l : List UInt8) : Prop := ∀ c ∈ l, 33 ≤ c.toNat ∧ c.toNat ≤ 126
theorem pad_len (w : Nat) (l : List UInt8) (h : l.length ≤ w) : (pad w l).length = w := by unfold pad; simp; omega
theorem pad_take (w : Nat) (l : List UInt8) : (pad w l).take l.length = l := by unfold pad; simp
theorem trim_rep (l : List UInt8) (n : Nat) : trimL (l ++ List.replicate n 32) = trimL l := by
  induction n with
  | zero => simp
  | succ n ih => rw [List.replicate_succ', ← List.append_assoc, trimL_blank, ih]
theorem trim_letters (l : List UInt8) (h : Letters l) : trimL l = l := by
  rcases List.eq_nil_or_concat l with rfl | ⟨m, c, rfl⟩
  · rfl
  · rw [List.concat_eq_append]
    refine trimL_other m c ?_
    have := h c (by simp)
    rw [beq_eq_false_iff_ne]
    intro e
    rw [e] at this
    exact absurd this.1 (by decide)
theorem trim_pad (w : Nat) (l : List UInt8) (h : Letters l) : trimL (pad w l) = l := by unfold pad; rw [trim_rep, trim_letters l h]
theorem rbytes_append (M : Ref) (a b : List UInt8) : M.bytes (a ++ b) = (M.bytes a).bytes b := List.foldl_append
theorem spl_pad (w : Nat) (l : List UInt8) (v : UInt8) (h : l.length < w) : spl (pad w l) l.length [v] = pad w (l ++ [v]) := by
  unfold spl pad
  have e : w - l.length = (w - (l.length + 1)) + 1 := by omega
  rw [List.take_left, List.length_append, List.length_singleton, e, List.replicate_succ, List.drop_append]
  simp

theorem line_write (M : Ref) (l : List UInt8) (hl : l.length ≤ M.w) (hL : Letters l) (hx : M.x = 0) (hb : M.begun = 0) (hr : M.rows.getD M.y [] = pad M.w []) (hy : M.y < M.rows.length) :
    M.bytes l = { M with rows := M.rows.set M.y (pad M.w l), x := l.length } := by
  have key : ∀ n, n ≤ l.length → M.bytes (l.take n) = { M with rows := M.rows.set M.y (pad M.w (l.take n)), x := n } := by
    intro n
    induction n with
    | zero =>
      intro _
      rw [List.take_zero]
      have e : M.rows.set M.y (pad M.w []) = M.rows := by
        rw [← hr, List.getD_eq_getElem?_getD, List.getElem?_eq_getElem hy]
        exact List.set_getElem_self hy
      rw [e]
      cases M
      simp only at hx
      subst hx
      rfl
    | succ n ih =>
      intro hn
      rw [List.take_succ_eq_append_getElem (by omega), rbytes_append, ih (by omega)]
      obtain ⟨v, hv⟩ : ∃ v, v = l[n]'(by omega) := ⟨_, rfl⟩
      rw [← hv]
      have hvL : 33 ≤ v.toNat ∧ v.toNat ≤ 126 := hL v (by rw [hv]; exact List.getElem_mem _)
      show Ref.byte _ v = _
      unfold Ref.byte
      simp only [hb]
      rw [if_neg (by decide), if_neg (by decide), if_pos ⟨by omega, hvL.2⟩]
      unfold Ref.letter
      simp only
      rw [if_neg (by omega)]
      unfold Ref.lay
      simp only
      have hg : (M.rows.set M.y (pad M.w (l.take n))).getD M.y [] = pad M.w (l.take n) := by
        rw [List.getD_eq_getElem?_getD, List.getElem?_set_self hy]; rfl
      have hlen : (l.take n).length = n := by rw [List.length_take]; omega
      have hs := spl_pad M.w (l.take n) v (by omega)
      rw [hlen] at hs
      rw [hg, hs, List.set_set]
  have := key l.length (Nat.le_refl _)
  rw [List.take_length] at this
  exact this

structure LinesAt (M : Ref) (w h k : Nat) (L : List (List UInt8)) : Prop where
  ew : M.w = w
  eh : M.h = h
  em : M.most = k
  ex : M.x = 0
  eb : M.begun = 0
  ey : M.y = min L.length (h - 1)
  er : M.rows = ((L.drop (L.length - (h - 1))).map (pad w)) ++ List.replicate (h - min L.length (h - 1)) (pad w [])
  ek : M.kept = ((L.take (L.length - (h - 1))).map (pad w)).drop (L.length - (h - 1) - k)

theorem lines_new (w h k : Nat) : LinesAt (newRef w h k) w h k [] := by
  refine ⟨rfl, rfl, rfl, rfl, rfl, by simp [newRef, newRefI], ?_, by simp [newRef, newRefI]⟩
  simp [newRef, newRefI, pad]

theorem LinesAt.line {M : Ref} {w h k : Nat} {L : List (List UInt8)} (s : LinesAt M w h k L) (hh : 1 ≤ h) (l : List UInt8) (hl : l.length ≤ w) (hL : Letters l) : LinesAt (M.bytes (l ++ [10])) w h k (L ++ [l]) := by
  have hdl : ((L.drop (L.length - (h - 1))).map (pad w)).length = M.y := by rw [s.ey, List.length_map, List.length_drop]; omega
  have e1 : h - min L.length (h - 1) = (h - min L.length (h - 1) - 1) + 1 := by omega
  have hrow : M.rows.getD M.y [] = pad M.w [] := by
    rw [s.er, s.ew, e1, List.replicate_succ, List.getD_eq_getElem?_getD, List.getElem?_append_right (by omega), hdl, Nat.sub_self]; rfl
  have hylt : M.y < M.rows.length := by rw [s.er, List.length_append, hdl, List.length_replicate]; omega
  have hset : M.rows.set M.y (pad w l) = ((L.drop (L.length - (h - 1))).map (pad w)) ++ pad w l :: List.replicate (h - min L.length (h - 1) - 1) (pad w []) := by
    rw [s.er, e1, List.replicate_succ, List.set_append_right _ _ (by omega), hdl, Nat.sub_self]; rfl
  rw [rbytes_append, line_write M l (by rw [s.ew]; exact hl) hL s.ex s.eb hrow hylt, s.ew, hset]
  show LinesAt (Ref.byte _ 10) w h k (L ++ [l])
  unfold Ref.byte
  simp only [s.eb]
  rw [if_neg (by decide), if_neg (by decide), if_neg (by decide), if_pos (by decide)]
  unfold Ref.down
  simp only
  have hlen : (L ++ [l]).length = L.length + 1 := by simp
  by_cases hc : L.length + 1 < h
  · have hy : M.y = L.length := by rw [s.ey]; omega
    rw [if_pos (by rw [s.eh, hy]; exact hc)]
    have z1 : L.length - (h - 1) = 0 := by omega
    have z2 : L.length + 1 - (h - 1) = 0 := by omega
    refine ⟨rfl, s.eh, s.em, rfl, rfl, by rw [hlen]; show M.y + 1 = _; omega, ?_, ?_⟩
    · show _ ++ _ = _
      rw [hlen, z1, z2, show h - min L.length (h - 1) - 1 = h - min (L.length + 1) (h - 1) from by omega]
      simp
    · show M.kept = _
      rw [s.ek, hlen, z1, z2]; simp
  · have hy : M.y = h - 1 := by rw [s.ey]; omega
    rw [if_neg (by rw [s.eh, hy]; omega)]
    obtain ⟨g, hg⟩ : ∃ g, g = L.length - (h - 1) := ⟨_, rfl⟩
    have z2 : (L ++ [l]).length - (h - 1) = g + 1 := by rw [hlen]; omega
    have z3 : h - min L.length (h - 1) - 1 = 0 := by omega
    have z4 : h - min (L ++ [l]).length (h - 1) = 1 := by rw [hlen]; omega
    have hgl : g ≤ L.length := by omega
    have eR : ((L.drop g).map (pad w)) ++ pad w l :: List.replicate 0 (pad w []) = ((L ++ [l]).drop g).map (pad w) := by
      rw [List.drop_append_of_le_length hgl, List.map_append]; rfl
    have hgl2 : g < (L ++ [l]).length := by rw [hlen]; omega
    have eH : (((L ++ [l]).drop g).map (pad w)).headD [] = pad w ((L ++ [l])[g]) := by
      rw [List.drop_eq_getElem_cons hgl2]; rfl
    have eT : (((L ++ [l]).drop g).map (pad w)).tail = ((L ++ [l]).drop (g + 1)).map (pad w) := by
      rw [List.drop_eq_getElem_cons hgl2]; rfl
    have eK : ((L ++ [l]).take (g + 1)).map (pad w) = (L.take g).map (pad w) ++ [pad w ((L ++ [l])[g])] := by
      rw [List.take_succ_eq_append_getElem hgl2, List.take_append_of_le_length hgl, List.map_append]; rfl
    rw [← hg, z3, eR]
    have hkl : M.kept.length = g - (g - k) := by rw [s.ek, ← hg, List.length_drop, List.length_map, List.length_take]; omega
    refine ⟨rfl, s.eh, s.em, rfl, rfl, by rw [hlen]; show M.y = _; omega, ?_, ?_⟩
    · show (((L ++ [l]).drop g).map (pad w)).tail ++ [List.replicate w 32] = _
      rw [eT, z2, z4]; simp [pad]
    · show (if M.most < M.kept.length + 1 then (M.kept ++ [(((L ++ [l]).drop g).map (pad w)).headD []]).drop (M.kept.length + 1 - M.most) else M.kept ++ [(((L ++ [l]).drop g).map (pad w)).headD []]) = _
      rw [z2, eK, eH, s.em, hkl, s.ek, ← hg]
      have hl2 : ((L.take g).map (pad w)).length = g := by rw [List.length_map, List.length_take]; omega
      by_cases hk : k ≤ g
      · rw [if_pos (by omega), show g - (g - k) + 1 - k = 1 from by omega, show g + 1 - k = (g - k) + 1 from by omega, ← List.drop_append_of_le_length (by omega), List.drop_drop]
      · rw [if_neg (by omega), show g - k = 0 from by omega, show g + 1 - k = 0 from by omega]; rfl

/-- all lines, each ended by a line feed -/
def allOf (L : List (List UInt8)) : List UInt8 := L.flatMap fun l => l ++ [10]
theorem allOf_snoc (L : List (List UInt8)) (l : List UInt8) : allOf (L ++ [l]) = allOf L ++ (l ++ [10]) := by unfold allOf; simp
theorem allOf_len (L : List (List UInt8)) (w : Nat) (h : ∀ l ∈ L, l.length ≤ w) : (allOf L).length ≤ L.length * (w + 1) := by
  induction L with
  | nil => simp [allOf]
  | cons l L ih =>
    have h1 := h l (by simp)
    have h2 := ih (fun m hm => h m (by simp [hm]))
    have e : (allOf (l :: L)).length = l.length + 1 + (allOf L).length := by simp [allOf]; omega
    rw [e, List.length_cons, Nat.succ_mul]; omega
theorem lines_all (w h k : Nat) (hh : 1 ≤ h) (L : List (List UInt8)) (hl : ∀ l ∈ L, l.length ≤ w ∧ Letters l) : LinesAt ((newRef w h k).bytes (allOf L)) w h k L := by
  have key : ∀ n, n ≤ L.length → LinesAt ((newRef w h k).bytes (allOf (L.take n))) w h k (L.take n) := by
    intro n
    induction n with
    | zero => intro _; exact lines_new w h k
    | succ n ih =>
      intro hn
      have hm := hl (L[n]'(by omega)) (List.getElem_mem _)
      rw [List.take_succ_eq_append_getElem (by omega), allOf_snoc, rbytes_append]
      exact (ih (by omega)).line hh _ hm.1 hm.2
  have := key L.length (Nat.le_refl _)
  rw [List.take_length] at this
  exact this
/-- the text that the law expects -/
def wantUpto (L : List (List UInt8)) (g n : Nat) : List UInt8 := (List.range n).flatMap fun i => L.getD (g + i) [] ++ [10]
theorem want_succ (L : List (List UInt8)) (g n : Nat) : wantUpto L g (n + 1) = wantUpto L g n ++ L.getD (g + n) [] ++ [10] := by
  unfold wantUpto
  rw [List.range_succ, List.flatMap_append]
  simp
theorem getD_le (L : List (List UInt8)) (w n : Nat) (h : ∀ l ∈ L, l.length ≤ w) : (L.getD n []).length ≤ w := by
  rw [List.getD_eq_getElem?_getD]
  rcases Nat.lt_or_ge n L.length with hn | hn
  · rw [List.getElem?_eq_getElem hn]; exact h _ (List.getElem_mem _)
  · rw [List.getElem?_eq_none hn]; exact Nat.zero_le _
theorem want_len (L : List (List UInt8)) (w g n : Nat) (h : ∀ l ∈ L, l.length ≤ w) : (wantUpto L g n).length ≤ n * (w + 1) := by
  induction n with
  | zero => simp [wantUpto]
  | succ n ih =>
    rw [want_succ, List.length_append, List.length_append, Nat.succ_mul]
    have := getD_le L w (g + n) h
    simp only [List.length_singleton]
    omega
theorem LinesAt.row {M : Ref} {w h k : Nat} {L : List (List UInt8)} (s : LinesAt M w h k L) (hL : ∀ l ∈ L, Letters l) (i : Nat) : i < h → trimL (M.rows.getD i []) = L.getD (L.length - (h - 1) + i) [] := by
  intro hi
  rw [s.er]
  obtain ⟨g, hg⟩ : ∃ g, g = L.length - (h - 1) := ⟨_, rfl⟩
  rw [← hg]
  have hlen : ((L.drop g).map (pad w)).length = L.length - g := by rw [List.length_map, List.length_drop]
  rcases Nat.lt_or_ge (g + i) L.length with h1 | h1
  · rw [List.getD_eq_getElem?_getD, List.getElem?_append_left (by omega), List.getElem?_map, List.getElem?_drop, List.getElem?_eq_getElem h1, List.getD_eq_getElem?_getD, List.getElem?_eq_getElem h1]
    exact trim_pad w _ (hL _ (List.getElem_mem _))
  · rw [List.getD_eq_getElem?_getD, List.getElem?_append_right (by omega), List.getElem?_replicate, if_pos (by omega), List.getD_eq_getElem?_getD, List.getElem?_eq_none h1]
    exact trim_pad w [] (by intro c hc; exact absurd hc (by simp))
theorem LinesAt.text {M : Ref} {w h k : Nat} {L : List (List UInt8)} (s : LinesAt M w h k L) (hL : ∀ l ∈ L, Letters l) : M.text = wantUpto L (L.length - (h - 1)) h := by
  unfold Ref.text
  rw [s.eh]
  have : ∀ n, n ≤ h → M.textUpto n = wantUpto L (L.length - (h - 1)) n := by
    intro n
    induction n with
    | zero => intro _; rfl
    | succ n ih => intro hn; rw [rtext_succ, want_succ, ih (by omega), s.row hL n (by omega)]
  exact this h (Nat.le_refl _)
theorem LinesAt.keptLen {M : Ref} {w h k : Nat} {L : List (List UInt8)} (s : LinesAt M w h k L) : M.kept.length = min (L.length - (h - 1)) k := by
  rw [s.ek, List.length_drop, List.length_map, List.length_take]; omega
theorem LinesAt.back {M : Ref} {w h k : Nat} {L : List (List UInt8)} (s : LinesAt M w h k L) (i : Nat) (h1 : 1 ≤ i) (h2 : i ≤ M.kept.length) : M.kept.getD (M.kept.length - i) [] = pad w (L.getD (L.length - (h - 1) - i) []) ∧ L.length - (h - 1) - i < L.length := by
  have hl := s.keptLen
  refine ⟨?_, by omega⟩
  obtain ⟨g, hg⟩ : ∃ g, g = L.length - (h - 1) := ⟨_, rfl⟩
  rw [hl, s.ek]
  rw [hl] at h2
  rw [← hg] at h2 ⊢
  rw [List.getD_eq_getElem?_getD, List.getElem?_drop, List.getElem?_map, List.getElem?_take_of_lt (by omega), show g - k + (min g k - i) = g - i from by omega, List.getElem?_eq_getElem (by omega), List.getD_eq_getElem?_getD, List.getElem?_eq_getElem (by omega)]
  rfl
end Go.Proofs.YtiefpodmdpnppaaDoor
