/-
  The proof's lemmas, part 4.
-/
import Derived.Test.YtmahbhdjpielmaaGreatYpc
import Derived.ChangeSlices
import Derived.ProofKit
import Derived.OpenShut
namespace Go.Proofs.YtmahbhdjpielmaaGreat
set_option linter.unusedSimpArgs false
set_option linter.unusedVariables false
section
open Go.RowKit Go.Sort
set_option maxRecDepth 10000
def pcT (b o p r n z : Nat) : T := if p = 0 ∨ p < n then .slc b (o + p * z) (r - p) z none else .islc [] 0 none
section
variable {q : Bool} {P : Program} {tab : Tab} {im : List Nat} {ds : List (Option Nat)} {l : List Oper} {E : Env} {H : Hp} {K : Env → Hp → Prop} {d : Nat} {ty : TypeId} {pos : String} {after : Array Edge}
theorem VX.slcP [Dr] {t e b o n z p r : Nat} {x : Operand} {lo hi : Option Operand} {L Hh : Option Int} {i j : TyI} (hT : tab t = some i) (hk : i.k = .sl e) (hj : tab e = some j) (hx : E.opd x = some (.slc b o n z none)) (hz : j.sz = z) (hl : optI lo E.opd = some L) (hh : optI hi E.opd = some Hh)
    (hp : L.getD 0 = (p : Int)) (hr : Hh.getD n = (r : Int)) (h1 : p ≤ r) (h2 : r ≤ n) (k : VX q P tab im ds l ((d, pcT b o p r n z) :: E) H K) : VX q P tab im ds (⟨some d, .slice t x lo hi none, ty, pos, after, none⟩ :: l) E H K := by
  refine VX.meek (t := pcT b o p r n z) ?_ k
  simp only [opM, hx, hl, hh, mSlice, hT, hk, hj, show optI none E.opd = some none from rfl]
  rw [if_pos hz, hp, hr, if_pos ⟨by omega, by omega, by omega⟩]
  unfold pcT
  by_cases h : p = 0 ∨ p < n
  · rw [if_pos h, if_pos (by omega), Int.toNat_natCast, show ((r : Int) - (p : Int)).toNat = r - p from by omega]; rfl
  · rw [if_neg h, if_neg (by omega)]
theorem VX.slcM [Dr] {t e b o n z r m : Nat} {x : Operand} {hi mx : Option Operand} {Hh Mm : Option Int} {i j : TyI} {c : Option Nat} (hT : tab t = some i) (hk : i.k = .sl e) (hj : tab e = some j) (hx : E.opd x = some (.slc b o n z c)) (hz : j.sz = z) (hh : optI hi E.opd = some Hh) (hm : optI mx E.opd = some Mm)
    (hr : Hh = some (r : Int)) (hq : Mm = some (m : Int)) (h1 : r ≤ m) (h2 : m ≤ n) (k : VX q P tab im ds l ((d, .slc b o r z (some m)) :: E) H K) : VX q P tab im ds (⟨some d, .slice t x none hi mx, ty, pos, after, none⟩ :: l) E H K := by
  subst hr hq
  refine VX.meek (t := .slc b o r z (some m)) ?_ k
  simp only [opM, hx, hh, hm, mSlice, hT, hk, hj, show optI none E.opd = some none from rfl]
  rw [if_pos hz]
  simp only [Option.getD_some, Option.getD_none]
  rw [if_pos ⟨by simp, by omega, by omega, by omega, by omega, .inl (by simp)⟩]
  simp
end
theorem Cv.pcT {v : Vw} {b p r n m : Nat} {xs a ys cs : List T} {z : Nat} (h : v.F b cs) (hc : cs = xs ++ a ++ ys) (hx : xs.length = p * z) (ha : a.length = m * z) (hm : m = r - p) (h1 : p ≤ r) (h2 : r ≤ n) (hp : T.pureL a = true) : Cv v (pcT b 0 p r n z) (.islc a m none) := by
  subst hm hc
  unfold Go.Proofs.YtmahbhdjpielmaaGreat.pcT
  split
  · refine .fslc h (fun i t hi => ?_) (CvL.pure hp) (.inr rfl)
    have hl := (List.getElem?_eq_some_iff.1 hi).1
    rw [List.append_assoc, List.getElem?_append_right (by omega), List.getElem?_append_left (by omega), ← hi]
    congr 1; omega
  · rename_i hc
    obtain rfl : r = p := by omega
    rw [Nat.sub_self, Nat.zero_mul] at ha
    obtain rfl := List.length_eq_zero_iff.1 ha
    rw [Nat.sub_self]
    exact .pure rfl
theorem inj4 {bo : Nat} (h : bo = 2 ∨ 4 < bo) : injB [some 0, some 1, some bo, some 3] = true := by
  rcases h with rfl | h
  · rfl
  · obtain ⟨q, rfl⟩ : ∃ q, bo = q + 5 := ⟨bo - 5, by omega⟩
    rfl
def OP.any : OP := ⟨fun _ _ => True, fun _ _ => trivial⟩
theorem clip_t [Dr] (n : Nat) (cs : List T) : CallT Tryz.prog 33 [.slc 0 0 n 4 none] [.c cs] (fun t H' => t = .slc 0 0 n 4 (some n) ∧ H' = [.c cs]) := by
  refine CallT.intro tab_ok Tryz.func33 rfl (by kernel_rfl) (Nat.le_of_ble_eq_true rfl) ?_
  refine VC.reg tab_ok [] rfl ?_
  refine VX.meek rfl ?_
  refine VX.nil ?_
  refine VC.reg tab_ok [] rfl ?_
  iterate 5 refine VX.meek rfl ?_
  refine VX.slcM rfl rfl rfl rfl rfl rfl rfl rfl rfl (Nat.le_refl _) (Nat.le_refl _) ?_
  refine VX.meek rfl ?_
  refine VX.nil ?_
  refine VC.ret ?_
  exact ⟨trivial, _, rfl, rfl, rfl⟩
def OfJ (rec_ : OP) (out new row : List Rect) (tlr : List T) (k : Nat) (H : Hp) : Prop :=
  ∃ bo tl, T.pureL tl = true ∧ (bo = 2 ∨ 4 < bo) ∧ 5 ≤ H.length ∧ bo < H.length ∧ blkH H 0 = .c [NIL] ∧ blkH H 1 = .c [.slc bo 0 (out.length + k) 4 none] ∧ blkH H bo = .c (encL cR (out ++ new.take k) ++ tl) ∧ blkH H 3 = .c (encL cR row ++ tlr) ∧ blkH H 4 = .o rec_
theorem OfJ.look {rec_ : OP} {out new row : List Rect} {tlr : List T} {k : Nat} {H : Hp} (h : OfJ rec_ out new row tlr k H) : lookH H 3 = some (encL cR row ++ tlr) := by
  obtain ⟨bo, tl, h1, h2, h3, h4, h5, h6, h7, h8, h9⟩ := h; exact lookH_c.2 h8
theorem OfJ.push {rec_ : OP} {out new row : List Rect} {tlr : List T} {k : Nat} {H : Hp} (cs : List T) (h : OfJ rec_ out new row tlr k H) : OfJ rec_ out new row tlr k (H ++ [.c cs]) := by
  obtain ⟨bo, tl, h1, h2, h3, h4, h5, h6, h7, h8, h9⟩ := h
  refine ⟨bo, tl, h1, h2, by simp; omega, by simp; omega, ?_, ?_, ?_, ?_, ?_⟩ <;> rw [blkH_push, if_neg (by omega)] <;> assumption
theorem OfJ.next {rec0 rec1 : OP} {out new row : List Rect} {tlr tl cells : List T} {x : Blk} {k bo : Nat} {H : Hp} (ht : T.pureL tl = true) (hb : bo = 2 ∨ 4 < bo) (hl : 6 ≤ H.length) (hbl : bo < H.length) (h0 : blkH H 0 = .c [NIL]) (h3 : blkH H 3 = .c (encL cR row ++ tlr)) (h4 : blkH H 4 = .o rec1)
    (hc : cells = encL cR (out ++ new.take (k + 1)) ++ tl) (hx : x = .c [.slc H.length 0 (out.length + (k + 1)) 4 none]) :
    blkH (setH (setH H bo .d ++ [.c cells]) 1 x) 4 = .o rec1 ∧ OfJ rec0 out new row tlr (k + 1) (setH (setH (setH H bo .d ++ [.c cells]) 1 x) 4 (.o rec0)) := by
  have l1 : (setH H bo .d).length = H.length := setH_length _ _ _
  have l2 : (setH H bo .d ++ [Blk.c cells]).length = H.length + 1 := by rw [List.length_append, l1]; rfl
  have l3 : (setH (setH H bo .d ++ [Blk.c cells]) 1 x).length = H.length + 1 := by rw [setH_length, l2]
  have e : ∀ c, blkH (setH (setH H bo .d ++ [Blk.c cells]) 1 x) c = if c = 1 then x else if c = H.length then Blk.c cells else if c = bo then .d else blkH H c := fun c => by
    rw [blkH_set _ _ _ _ (by omega), blkH_push, l1, blkH_set _ _ _ _ hbl]
  have e2 : ∀ c, blkH (setH (setH (setH H bo .d ++ [Blk.c cells]) 1 x) 4 (.o rec0)) c = if c = 4 then .o rec0 else if c = 1 then x else if c = H.length then .c cells else if c = bo then .d else blkH H c := fun c => by
    rw [blkH_set _ _ _ _ (by omega), e]
  refine ⟨by rw [e, if_neg (by omega), if_neg (by omega), if_neg (by omega)]; exact h4, H.length, tl, ht, .inr (by omega), by rw [setH_length]; omega, by rw [setH_length]; omega, ?_, ?_, ?_, ?_, ?_⟩
  · rw [e2, if_neg (by omega), if_neg (by omega), if_neg (by omega), if_neg (by omega)]; exact h0
  · rw [e2, if_neg (by omega), if_pos rfl]; exact hx
  · rw [e2, if_neg (by omega), if_neg (by omega), if_pos rfl, hc]
  · rw [e2, if_neg (by omega), if_neg (by omega), if_neg (by omega), if_neg (by omega)]; exact h3
  · rw [e2, if_pos rfl]
end
section
theorem comp_le (l : List Int) : (comp l).length ≤ l.length := by
  have h : ∀ (l : List Int) (p : Int), (compGo p l).length ≤ l.length := by
    intro l
    induction l with
    | nil => intro p; simp [compGo]
    | cons x l ih => intro p; unfold compGo; split; · have := ih p; simp; omega
                     · have := ih x; simp; omega
  cases l with
  | nil => simp [comp]
  | cons x l => have := h l x; simp [comp]; omega
theorem ysOf_len (l : List Rect) : (ysOf l).length ≤ 2 * l.length := by
  have h := comp_le (sortI (endsY l)); rw [sortI_len, endsY_len] at h; exact h
theorem ysOf_bnd {all : List Rect} (hr : ∀ r ∈ all, rok r) {j : Nat} (hj : j < (ysOf all).length) : -1048576 ≤ (ysOf all)[j]! ∧ (ysOf all)[j]! ≤ 1048576 := by
  obtain ⟨r, q1, q2⟩ := ysOf_mem.1 (List.mem_iff_getElem?.2 ⟨j, getE hj⟩)
  have := hr r q1; unfold rok at this
  omega
theorem span_bnd {row : List Rect} (hr : ∀ r ∈ row, rok r) (hs : sortX row) : ∀ p ∈ spansF row, -1048576 ≤ p.1 ∧ p.1 < p.2 ∧ p.2 ≤ 1048576 := fun p hp => by
  obtain ⟨s1, s2⟩ := spansF_ok (l := row) (lo := -1048577) (fun r hq => by have := hr r hq; unfold rok at this; omega) hs
  obtain ⟨b1, b2⟩ := spansOk_mem s1 p hp
  have b3 : inS (spansF row) (p.2 - 1) := ⟨p, hp, by omega, by omega⟩
  obtain ⟨r, c1, c2, c3⟩ := (s2 _).1 b3
  have := hr r c1; unfold rok at this
  omega
theorem newR_at {y e : Int} {row : List Rect} {k : Nat} {s : Span} (h : (spansF row)[k]? = some s) : (newR y e row).take (k + 1) = (newR y e row).take k ++ [⟨s.1, y, s.2 - s.1, e - y⟩] ∧ k < (newR y e row).length := by
  have h1 : (newR y e row)[k]? = some ⟨s.1, y, s.2 - s.1, e - y⟩ := by unfold newR Band.rects; rw [List.getElem?_map, h]; rfl
  exact ⟨by rw [List.take_add_one, h1]; rfl, (List.getElem?_eq_some_iff.1 h1).1⟩
theorem MidR.go {all : List Rect} {y : Int} (hr : ∀ r ∈ all, rok r) : ∀ (k next : Nat) (row : List Rect), all.length - next ≤ k → MidR all y next row → ∃ next' row', MidR all y next' row' ∧ (next' < all.length → all[next']!.Y ≠ y)
  | 0, next, row, hk, h => ⟨next, row, h, fun hl => by omega⟩
  | k + 1, next, row, hk, h => by
    by_cases hc : next < all.length ∧ all[next]!.Y = y
    · exact MidR.go hr k (next + 1) _ (by omega) (h.step hr hc.1 hc.2)
    · exact ⟨next, row, h, fun hl he => hc ⟨hl, he⟩⟩
def byX (a b : Rect) : Bool := decide (a.X ≤ b.X)
theorem sortX_merge (l : List Rect) : sortX (l.mergeSort byX) := by
  have h := List.pairwise_mergeSort (le := byX) (fun a b c h1 h2 => by unfold byX at *; simp at *; omega) (fun a b => by unfold byX; simp; omega) l
  have k : ∀ l : List Rect, l.Pairwise (fun a b => byX a b = true) → sortX l := by
    intro l
    induction l with
    | nil => intro _; trivial
    | cons r l ih => intro h; exact ⟨fun s hs => by have := (List.pairwise_cons.1 h).1 s hs; unfold byX at this; simpa using this, ih (List.pairwise_cons.1 h).2⟩
  exact k _ h
def byY (a b : Rect) : Bool := decide (a.Y ≤ b.Y)
theorem sortY_merge (l : List Rect) : sortedY (l.mergeSort byY) := by
  have h := List.pairwise_mergeSort (le := byY) (fun a b c h1 h2 => by unfold byY at *; simp at *; omega) (fun a b => by unfold byY; simp; omega) l
  rw [List.pairwise_iff_getElem] at h
  intro i j hij hj
  have k := h i j (by omega) hj hij
  rw [getElem!_pos (l.mergeSort byY) i (by omega), getElem!_pos (l.mergeSort byY) j hj]
  have k : decide ((l.mergeSort byY)[i].Y ≤ (l.mergeSort byY)[j].Y) = true := k
  exact of_decide_eq_true k
theorem OfR.exists {all : List Rect} (hr : ∀ r ∈ all, rok r) (hs : sortedY all) : ∀ i, (i < (ysOf all).length ∨ i = 0) → ∃ out above next row, OfR all i out above next row
  | 0, _ => ⟨_, _, _, _, OfR.start all⟩
  | i + 1, hi => by
    have hi : i + 1 < (ysOf all).length := by omega
    obtain ⟨out, above, next, row, h⟩ := OfR.exists hr hs i (.inl (by omega))
    obtain ⟨nx, rw_, hm, hst⟩ := MidR.go hr _ _ _ (Nat.le_refl _) h.mid
    have hx := OfR.next h hi hr (hm.perm (List.mergeSort_perm rw_ byX)) (hm.stop hs hst) (sortX_merge rw_)
    cases hal : alikeL (out.drop above) (newR (ysOf all)[i]! (ysOf all)[i + 1]! (rw_.mergeSort byX)) with
    | true => exact ⟨_, _, _, _, hx.1 hal⟩
    | false => exact ⟨_, _, _, _, hx.2 hal⟩
theorem countsB_rok {r : Rect} (h : countsB r = true) : rok r := by
  unfold countsB fitsB at h
  simp only [Bool.and_eq_true, decide_eq_true_eq] at h
  unfold rok; omega
theorem canon_exists (l : List Rect) : ∃ c, Canon c ∧ ∀ x z, inL c x z ↔ inL (l.filter countsB) x z := by
  have hp := List.mergeSort_perm (l.filter countsB) byY
  have hr : ∀ r ∈ (l.filter countsB).mergeSort byY, rok r := fun r h => countsB_rok (List.mem_filter.1 (hp.mem_iff.1 h)).2
  have hs := sortY_merge (l.filter countsB)
  have hin : ∀ x z, inL ((l.filter countsB).mergeSort byY) x z ↔ inL (l.filter countsB) x z := fun x z => by unfold inL; simp only [hp.mem_iff]
  generalize (l.filter countsB).mergeSort byY = all at *
  obtain ⟨out, above, next, row, h⟩ := OfR.exists hr hs ((ysOf all).length - 1) (by omega)
  obtain ⟨h1, h2⟩ := h.done (by omega)
  exact ⟨out, h1, fun x z => (h2 x z).trans (hin x z)⟩
noncomputable def bandOf (l : List Rect) : List Rect := Classical.choose (canon_exists l)
theorem bandOf_canon (l : List Rect) : Canon (bandOf l) := (Classical.choose_spec (canon_exists l)).1
theorem bandOf_in (l : List Rect) (x z : Int) : inL (bandOf l) x z ↔ inL (l.filter countsB) x z := (Classical.choose_spec (canon_exists l)).2 x z
theorem bandOf_eq {l c : List Rect} (h : Canon c) (hi : ∀ x z, inL c x z ↔ inL (l.filter countsB) x z) : c = bandOf l := canon_uniq h (bandOf_canon l) fun x z => (hi x z).trans (bandOf_in l x z).symm
def HghR (out new : List Rect) (above : Nat) (g : Int) (j : Nat) (m : List Rect) : Prop :=
  above ≤ j ∧ j ≤ out.length ∧ m = out.take above ++ ((out.drop above).take (j - above)).map (fun r : Rect => { r with H := r.H + g }) ++ (out.drop j ++ new)
theorem HghR.start (out new : List Rect) (above : Nat) (g : Int) (h : above ≤ out.length) : HghR out new above g above (out ++ new) :=
  ⟨Nat.le_refl _, h, by rw [Nat.sub_self, List.take_zero, List.map_nil, List.append_nil, ← List.append_assoc, List.take_append_drop]⟩
theorem HghR.len {out new m : List Rect} {above j : Nat} {g : Int} (h : HghR out new above g j m) : m.length = (out ++ new).length := by
  obtain ⟨h1, h2, rfl⟩ := h
  simp only [List.length_append, List.length_take, List.length_map, List.length_drop]; omega
theorem HghR.at {out new m : List Rect} {above j : Nat} {g : Int} (h : HghR out new above g j m) (hj : j < out.length) : m[j]! = out[j]! := by
  have hl := h.len
  obtain ⟨h1, h2, rfl⟩ := h
  have e : (out.take above ++ ((out.drop above).take (j - above)).map (fun r : Rect => { r with H := r.H + g })).length = j := by
    simp only [List.length_append, List.length_take, List.length_map, List.length_drop]; omega
  have hm := List.length_append ▸ hl
  rw [getElem!_pos _ j (by rw [hl, List.length_append]; omega), getElem!_pos out j hj, List.getElem_append_right (by omega)]
  simp only [e, Nat.sub_self]
  rw [List.getElem_append_left (by simp; omega)]
  simp
theorem HghR.next {out new m : List Rect} {above j : Nat} {g : Int} (h : HghR out new above g j m) (hj : j < out.length) : HghR out new above g (j + 1) (m.set j { m[j]! with H := m[j]!.H + g }) := by
  have ha := h.at hj
  obtain ⟨h1, h2, rfl⟩ := h
  refine ⟨by omega, by omega, ?_⟩
  have e : (out.take above ++ ((out.drop above).take (j - above)).map (fun r : Rect => { r with H := r.H + g })).length = j := by
    simp only [List.length_append, List.length_take, List.length_map, List.length_drop]; omega
  rw [ha, List.set_append_right _ _ (by omega), e, Nat.sub_self, List.drop_eq_getElem_cons hj, List.cons_append, List.set_cons_zero]
  have e2 : (out.drop above).take (j + 1 - above) = (out.drop above).take (j - above) ++ [out[j]!] := by
    rw [show j + 1 - above = (j - above) + 1 from by omega, take_snoc (by simp; omega)]
    congr 2
    rw [getElem!_pos _ _ (by simp; omega), getElem!_pos out j hj, List.getElem_drop]
    congr 1; omega
  rw [e2, List.map_append]
  simp
theorem HghR.done {out new m : List Rect} {above j : Nat} {g : Int} (h : HghR out new above g j m) (hj : ¬ j < out.length) : j = out.length ∧ m = out.take above ++ (out.drop above).map (fun r : Rect => { r with H := r.H + g }) ++ new := by
  obtain ⟨h1, h2, rfl⟩ := h
  obtain rfl : j = out.length := by omega
  refine ⟨rfl, ?_⟩
  rw [List.take_of_length_le (l := out.drop above) (i := out.length - above) (by simp), List.drop_length, List.nil_append]
end
section
open Go.RowKit Go.Sort
set_option maxRecDepth 10000
set_option maxHeartbeats 4000000
theorem filt_t {l : List Rect} {k : Nat} (hk : k < l.length) (h : countsB l[k]! = true) : (l.take (k + 1)).filter countsB = (l.take k).filter countsB ++ [l[k]!] := by
  rw [take_snoc hk, List.filter_append]; simp only [List.filter_cons, h]; simp
theorem filt_f {l : List Rect} {k : Nat} (hk : k < l.length) (h : countsB l[k]! = false) : (l.take (k + 1)).filter countsB = (l.take k).filter countsB := by
  rw [take_snoc hk, List.filter_append]; simp only [List.filter_cons, h]; simp
theorem app_cells {l : List Rect} {tl xs : List T} {r : Rect} {n : Nat} (hn : n = l.length) (hx : xs = cR.cells r) : ((encL cR l ++ tl).drop 0).take (n * 4) ++ xs = encL cR (l ++ [r]) ++ [] := by
  subst hn hx
  rw [List.append_nil, List.drop_zero, show l.length * 4 = (encL cR l).length from by rw [encL_len, cR_sz], List.take_left, encL_append]
  simp [encL]
theorem of_p [Dr] (l : List Rect) (hl : l.length ≤ 1048576) (hx : ∀ r ∈ l, i64 r.X ∧ i64 r.Y) : CallP Tryz.prog 8 [.islc (encL cR l) l.length none] (regT (bandOf l)) := by
  refine CallP.intro2 au_pu au_pu ?_
  refine CallT.intro tab_ok Tryz.func8 rfl (by kernel_rfl) (Nat.le_of_ble_eq_true rfl) ?_
  refine VC.reg tab_ok [] rfl ?_
  refine VX.new rfl rfl ?_
  refine VX.nil ?_
  refine VC.reg tab_ok [] rfl ?_
  refine VX.meek rfl ?_
  refine VX.nil ?_
  refine VC.seq ?_
  refine VC.reg tab_ok [] rfl ?_
  iterate 3 refine VX.meek rfl ?_
  refine VX.nil ?_
  refine VC.block ?_
  refine VC.loopS2 (σ1 := Nat) (σ2 := List T) (fun k _ => l.length - k) (fun k tl => k ≤ l.length ∧ T.pureL tl = true) (fun k _ => [(20, I64 k), (3, .slc 1 0 ((l.take k).filter countsB).length 4 none)]) (fun k tl => [.c [NIL], .c (encL cR ((l.take k).filter countsB) ++ tl)]) [2, 18, 19] rfl (0) ([]) ?_ ?_ ?_
  · refine ⟨[some 0, none], rfl, by first | trivial | decide, rfl, ?_, ?_⟩ <;> (repeat' first | exact trivial | exact CvB_n | exact CvB_d | refine CvE_app ?_ ?_ | refine CvE_cons rfl ?_ ?_ | refine CvH_cons ?_ ?_ | refine CvB_c rfl ?_ | fail) <;> first | exact au_v | (skip)
  · exact ⟨by omega, rfl⟩
  rintro k tl ⟨hk, htl⟩
  refine VC.reg tab_ok [] rfl ?_
  refine VX.meek rfl ?_
  refine VX.nil ?_
  refine VC.seq ?_
  refine VC.cond rfl (fun hc0 => ?_) (fun hc0 => ?_)
  · (try simp only [au_std] at hc0); have hkl : k < l.length := (by omega); have hxk := hx l[k]! (List.mem_iff_getElem?.2 ⟨k, getE hkl⟩); have hfl : ((l.take k).filter countsB).length ≤ k := Nat.le_trans (List.length_filter_le _ _) (by rw [List.length_take]; omega)
    refine VC.skip ?_
    refine VC.seq ?_
    refine VC.block ?_
    refine VC.reg tab_ok [] rfl ?_
    first | refine VX.idxI rfl rfl rfl rfl rfl rfl (by omega) ?_ | refine VX.idxO0 rfl rfl rfl rfl rfl rfl rfl (by omega) ?_ | refine VX.idxO0 rfl rfl rfl rfl rfl rfl au_z (by omega) ?_ | refine VX.idxO rfl rfl rfl rfl rfl rfl rfl (by omega) ?_ | refine VX.idxI rfl rfl rfl rfl rfl au_z (by omega) ?_ | refine VX.idxO rfl rfl rfl rfl rfl rfl au_z (by omega) ?_ | refine VX.meek rfl ?_
    first | refine VX.meek rfl ?_ | refine VX.loadI rfl rfl au_l ?_ | refine VX.loadP rfl rfl rfl au_l ?_ | refine VX.loadP rfl rfl b1 rfl ?_ | refine VX.loadP rfl rfl b1 au_l ?_ | refine VX.loadP rfl rfl bn rfl ?_ | refine VX.loadP rfl rfl bn au_l ?_
    refine VX.new rfl rfl ?_
    refine VX.store rfl rfl rfl rfl rfl au_sR rfl ?_
    refine VX.nil ?_
    refine VC.reg tab_ok [] rfl ?_
    first | refine VX.meek rfl ?_ | refine VX.loadI rfl rfl au_l ?_ | refine VX.loadP rfl rfl rfl au_l ?_ | refine VX.loadP rfl rfl b1 rfl ?_ | refine VX.loadP rfl rfl b1 au_l ?_ | refine VX.loadP rfl rfl bn rfl ?_ | refine VX.loadP rfl rfl bn au_l ?_
    refine VX.callP0 rfl rfl rfl (counts_p l[k]! hxk.1 hxk.2) ?_
    refine VX.nil ?_
    refine VC.cond rfl (fun hc1 => ?_) (fun hc1 => ?_)
    · (try simp only [au_std] at hc1); have hft := filt_t hkl hc1
      refine VC.regN tab_ok [28] rfl ?_
      refine VX.meek rfl ?_
      first | refine VX.meek rfl ?_ | refine VX.loadI rfl rfl au_l ?_ | refine VX.loadP rfl rfl rfl au_l ?_ | refine VX.loadP rfl rfl b1 rfl ?_ | refine VX.loadP rfl rfl b1 au_l ?_ | refine VX.loadP rfl rfl bn rfl ?_ | refine VX.loadP rfl rfl bn au_l ?_
      refine VX.newI rfl rfl ?_
      first | refine VX.appendNil rfl rfl rfl rfl rfl rfl au_sR au_sR au_sR ?_ | refine VX.append rfl rfl rfl rfl rfl rfl rfl rfl au_sR au_sR au_sR au_sR au_sR ?_
      refine VX.meek rfl ?_
      refine VX.nil ?_
      refine VC.regN tab_ok [] rfl ?_
      first | refine VX.add rfl rfl (by omega) ?_ | refine VX.meek rfl ?_
      refine VX.meek rfl ?_
      refine VX.nil ?_
      refine ⟨k + 1, [], by (try dsimp only); omega, ?_, (by refine ⟨[some 0, some 3], rfl, by first | trivial | decide, rfl, ?_, ?_⟩ <;> (repeat' first | exact trivial | exact CvB_n | exact CvB_d | refine CvE_app ?_ ?_ | refine CvE_cons rfl ?_ ?_ | refine CvH_cons ?_ ?_ | refine CvB_c rfl ?_ | fail) <;> first | exact au_v | (first | exact Cv.slcE rfl (by rw [hft]; simp) (.inl rfl) | (rw [hft]; exact CvL.eq (app_cells rfl rfl) (by simp only [List.append_nil]; exact encL_pure cR _))))⟩
      exact ⟨by omega, by first | rfl | exact htl⟩
    · (try simp only [au_std] at hc1); have hft := filt_f hkl hc1
      refine VC.skip ?_
      refine VC.regN tab_ok [] rfl ?_
      first | refine VX.add rfl rfl (by omega) ?_ | refine VX.meek rfl ?_
      refine VX.meek rfl ?_
      refine VX.nil ?_
      refine ⟨k + 1, tl, by (try dsimp only); omega, ?_, (by refine ⟨[some 0, some 1], rfl, by first | trivial | decide, rfl, ?_, ?_⟩ <;> (repeat' first | exact trivial | exact CvB_n | exact CvB_d | refine CvE_app ?_ ?_ | refine CvE_cons rfl ?_ ?_ | refine CvH_cons ?_ ?_ | refine CvB_c rfl ?_ | fail) <;> first | exact au_v | (first | exact Cv.slcE rfl (by rw [hft]) (.inl rfl) | (rw [hft]; exact CvL.pure (pureL_append (encL_pure cR _) htl))))⟩
      exact ⟨by omega, by first | rfl | exact htl⟩
  · (try simp only [au_std] at hc0); obtain rfl : k = l.length := (by omega); rw [List.take_length]; have hfl : (l.filter countsB).length ≤ l.length := List.length_filter_le _ _
    refine VC.exit ?_
    refine VC.reg tab_ok [] rfl ?_
    refine VX.meek rfl ?_
    refine VX.callT rfl rfl (CallT.frame (sortYX_any (l.filter countsB) tl (by omega) htl) [1] rfl au_ci au_ci ?_)
    rintro _ _ ⟨rfl, all, hperm, hsort, rfl⟩
    refine frK au_co au_co ?_
    refine VX.nil ?_
    have hlen := hperm.length_eq
    have hr : ∀ r ∈ all, rok r := fun r h => countsB_rok (List.mem_filter.1 (hperm.mem_iff.1 h)).2
    have hsY := sortedY_of hsort
    have hys := ysOf_len all
    have hin : ∀ x z, inL all x z ↔ inL (l.filter countsB) x z := fun x z => by unfold inL; simp only [hperm.mem_iff]
    refine VC.view ([(3, .islc (encL cR all) all.length none)]) ([.c [NIL]]) [2] rfl (by refine ⟨[some 0], rfl, by first | trivial | decide, rfl, ?_, ?_⟩ <;> (repeat' first | exact trivial | exact CvB_n | exact CvB_d | refine CvE_app ?_ ?_ | refine CvE_cons rfl ?_ ?_ | refine CvH_cons ?_ ?_ | refine CvB_c rfl ?_ | fail) <;> first | exact au_v | ((rw [hlen]; exact Cv.fslcA ⟨rfl, by simp⟩ (CvL.pure (encL_pure cR _))))) ?_
    refine VC.reg tab_ok [] rfl ?_
    refine VX.meek rfl ?_
    refine VX.callP0 rfl rfl rfl (edges_p all (by omega) hr) ?_
    refine VX.meek rfl ?_
    refine VX.nil ?_
    refine VC.reg tab_ok [] rfl ?_
    refine VX.new rfl rfl ?_
    refine VX.meek rfl ?_
    refine VX.nil ?_
    refine VC.reg tab_ok [] rfl ?_
    refine VX.meek rfl ?_
    refine VX.nil ?_
    refine VC.reg tab_ok [] rfl ?_
    refine VX.meek rfl ?_
    refine VX.nil ?_
    refine VC.seq ?_
    refine VC.reg tab_ok [] rfl ?_
    refine VX.meek rfl ?_
    refine VX.nil ?_
    refine VC.block ?_
    refine VC.loopS7 (σ1 := Nat) (σ2 := List Rect) (σ3 := Nat) (σ4 := Nat) (σ5 := List Rect) (σ6 := List T) (σ7 := List T) (fun i _ _ _ _ _ _ => (ysOf all).length - i) (fun i out above next row tlo tlr => OfR all i out above next row ∧ T.pureL tlo = true ∧ T.pureL tlr = true) (fun i out above next row _ _ => [(11, I64 i), (9, I64 above), (10, I64 next), (8, .slc 3 0 row.length 4 none)]) (fun i out above next row tlo tlr => [.c [NIL], .c [.slc 2 0 out.length 4 none], .c (encL cR out ++ tlo), .c (encL cR row ++ tlr)]) [2, 3, 6, 7] rfl (0) ([]) (0) (0) ([]) ([]) ([]) ?_ ?_ ?_
    · refine ⟨[some 0, some 1, none, none], rfl, by first | trivial | decide, rfl, ?_, ?_⟩ <;> (repeat' first | exact trivial | exact CvB_n | exact CvB_d | refine CvE_app ?_ ?_ | refine CvE_cons rfl ?_ ?_ | refine CvH_cons ?_ ?_ | refine CvB_c rfl ?_ | fail) <;> first | exact au_v | (exact CvL.cons (Cv.nilv rfl) CvL.nil)
    · exact ⟨OfR.start all, rfl, rfl⟩
    rintro i out above next row tlo tlr ⟨hO, hto, htr⟩; have hib : i ≤ (ysOf all).length := by rcases hO.1 with h | ⟨h, _⟩ <;> omega
    refine VC.seq ?_
    refine VC.reg tab_ok [] rfl ?_
    refine VX.meek rfl ?_
    first | refine VX.add rfl rfl (by omega) ?_ | refine VX.meek rfl ?_
    iterate 3 refine VX.meek rfl ?_
    refine VX.nil ?_
    refine VC.cond rfl (fun hc2 => ?_) (fun hc2 => ?_)
    · (try simp only [au_std] at hc2); have hi1 : i + 1 < (ysOf all).length := (by omega); have hyb := fun j hj => ysOf_bnd hr (j := j) hj; have hyi := hyb i (by omega); have hye := hyb (i + 1) hi1; have hlt := ysOf_lt all (i := i) (j := i + 1) (by omega) hi1
      have hrowok : ∀ r ∈ row, rok r := fun r h => hr r (hO.2.2.2.2.2.2.2.1 r h).1
      have hrl : row.length ≤ next ∧ next ≤ all.length := ⟨hO.2.2.2.1, hO.2.2.1⟩
      have hol : out.length ≤ 2199023255552 := Nat.le_trans hO.2.1 (Nat.mul_le_mul (show i ≤ 2097152 by omega) (show all.length ≤ 1048576 by omega))
      have hab : above ≤ out.length := hO.2.2.2.2.2.1
      refine VC.skip ?_
      refine VC.seq ?_
      refine VC.block ?_
      refine VC.drwS tab_ok [] [_, _, _, _, _, _, _, _, _, _, _, _] (_) rfl (by kernel_rfl) (by kernel_rfl) (by kernel_rfl) (seen_refl _) ?_
      refine VS.seg (l1 := [_, _, _, _, _, _, _, _, _]) rfl ?_
      iterate 2 refine VX.meek rfl ?_
      first | refine VX.idxI rfl rfl rfl rfl rfl rfl (by omega) ?_ | refine VX.idxO0 rfl rfl rfl rfl rfl rfl rfl (by omega) ?_ | refine VX.idxO0 rfl rfl rfl rfl rfl rfl au_z (by omega) ?_ | refine VX.idxO rfl rfl rfl rfl rfl rfl rfl (by omega) ?_ | refine VX.idxI rfl rfl rfl rfl rfl au_z (by omega) ?_ | refine VX.idxO rfl rfl rfl rfl rfl rfl au_z (by omega) ?_ | refine VX.meek rfl ?_
      first | refine VX.meek rfl ?_ | refine VX.loadI rfl rfl au_l ?_ | refine VX.loadP rfl rfl rfl au_l ?_ | refine VX.loadP rfl rfl b1 rfl ?_ | refine VX.loadP rfl rfl b1 au_l ?_ | refine VX.loadP rfl rfl bn rfl ?_ | refine VX.loadP rfl rfl bn au_l ?_
      iterate 2 refine VX.meek rfl ?_
      first | refine VX.add rfl rfl (by omega) ?_ | refine VX.meek rfl ?_
      first | refine VX.idxI rfl rfl rfl rfl rfl rfl (by omega) ?_ | refine VX.idxO0 rfl rfl rfl rfl rfl rfl rfl (by omega) ?_ | refine VX.idxO0 rfl rfl rfl rfl rfl rfl au_z (by omega) ?_ | refine VX.idxO rfl rfl rfl rfl rfl rfl rfl (by omega) ?_ | refine VX.idxI rfl rfl rfl rfl rfl au_z (by omega) ?_ | refine VX.idxO rfl rfl rfl rfl rfl rfl au_z (by omega) ?_ | refine VX.meek rfl ?_
      first | refine VX.meek rfl ?_ | refine VX.loadI rfl rfl au_l ?_ | refine VX.loadP rfl rfl rfl au_l ?_ | refine VX.loadP rfl rfl b1 rfl ?_ | refine VX.loadP rfl rfl b1 au_l ?_ | refine VX.loadP rfl rfl bn rfl ?_ | refine VX.loadP rfl rfl bn au_l ?_
      refine VX.nil ?_
      refine VS.hid rfl ?_
      refine VS.seg (l1 := [_]) rfl ?_
      refine VX.new rfl rfl ?_
      refine VX.nil ?_
      refine VS.sto rfl rfl rfl rfl ?_
      refine VS.nil (⟨rfl, Nat.le_of_ble_eq_true rfl, rfl, trivial⟩) ?_
      refine VX.store rfl rfl rfl rfl rfl au_sR rfl ?_
      refine VX.nil ?_
      refine VC.view ([(12, .iptr [I64 (ysOf all)[i]!] 0), (13, .iptr [I64 (ysOf all)[i + 1]!] 0)]) ([.c [NIL], .c [.slc 2 0 out.length 4 none], .c (encL cR out ++ tlo), .c (encL cR row ++ tlr)]) [2, 3, 6, 7, 8, 9, 10, 11] rfl (by refine ⟨[some 0, some 1, some 2, some 3], rfl, by first | trivial | decide, rfl, ?_, ?_⟩ <;> (repeat' first | exact trivial | exact CvB_n | exact CvB_d | refine CvE_app ?_ ?_ | refine CvE_cons rfl ?_ ?_ | refine CvH_cons ?_ ?_ | refine CvB_c rfl ?_ | fail) <;> first | exact au_v | (first | (refine Cv.fptr ⟨rfl, by simp⟩ ?_; exact CvL.pure rfl) | exact CvL.cons (Cv.slc rfl (.inl rfl)) CvL.nil | exact CvL.pure (pureL_append (encL_pure cR _) (by assumption)))) ?_
      refine VC.reg tab_ok [] rfl ?_
      iterate 2 refine VX.meek rfl ?_
      refine VX.callT rfl rfl (CallT.frame (delete_t row tlr (ysOf all)[i]! none hrowok (by omega) htr) [3] rfl au_ci au_ci ?_)
      rintro _ _ ⟨tl', c', htl', rfl, rfl⟩
      refine frK au_co au_co ?_
      refine VX.meek rfl ?_
      refine VX.nil ?_
      have hM := hO.mid
      refine VC.reg tab_ok [] rfl ?_
      iterate 2 refine VX.meek rfl ?_
      refine VX.nil ?_
      refine VC.seq ?_
      refine VC.block ?_
      refine VC.loopS3 (σ1 := Nat) (σ2 := List Rect) (σ3 := List T) (fun nx _ _ => all.length - nx) (fun nx rw tl => MidR all (ysOf all)[i]! nx rw ∧ next ≤ nx ∧ (nx = next → rw = row.filter fun r => !gone (ysOf all)[i]! r) ∧ T.pureL tl = true) (fun nx rw _ => [(10, I64 nx), (8, .slc 3 0 rw.length 4 none)]) (fun _ rw tl => [.c [NIL], .c [.slc 2 0 out.length 4 none], .c (encL cR out ++ tlo), .c (encL cR rw ++ tl)]) [2, 3, 6, 7, 9, 11, 12, 13, 14] rfl (next) ((row.filter fun r => !gone (ysOf all)[i]! r)) (tl') ?_ ?_ ?_
      · refine ⟨[some 0, some 1, some 2, some 3], rfl, by first | trivial | decide, rfl, ?_, ?_⟩ <;> (repeat' first | exact trivial | exact CvB_n | exact CvB_d | refine CvE_app ?_ ?_ | refine CvE_cons rfl ?_ ?_ | refine CvH_cons ?_ ?_ | refine CvB_c rfl ?_ | fail) <;> first | exact au_v | (first | exact CvL.cons (Cv.slc rfl (.inl rfl)) CvL.nil | exact CvL.pure (pureL_append (encL_pure cR _) (by assumption)))
      · exact ⟨hM, Nat.le_refl _, fun _ => rfl, htl'⟩
      rintro nx rw tl2 ⟨hM2, hnx, heq, htl2⟩; have hnl := hM2.1; have hrwl := hM2.2.1
      refine VC.seq ?_
      refine VC.drw tab_ok [] [_, _, _, _, _, _, _, _, _, _, _, _, _] rfl (by kernel_rfl) (by kernel_rfl) ?_
      iterate 5 refine VX.meek rfl ?_
      refine' VX.merge (d := 67) [_, _, _, _, _, _, _, _] rfl ?_ rfl ?_
      rotate_left
      · refine VX.guard rfl rfl (fun hb19_4 => ?_) (fun hb19_4 => ?_)
        · have ghb19_4 := hb19_4
          try simp only [au_std, Bool.not_true, Bool.not_false] at ghb19_4
          refine VX.meek rfl ?_
          refine VX.guardT rfl rfl hb19_4 ?_
          refine VX.meek rfl ?_
          refine VX.guardT rfl rfl hb19_4 ?_
          first | refine VX.idxI rfl rfl rfl rfl rfl rfl (by omega) ?_ | refine VX.idxO0 rfl rfl rfl rfl rfl rfl rfl (by omega) ?_ | refine VX.idxO0 rfl rfl rfl rfl rfl rfl au_z (by omega) ?_ | refine VX.idxO rfl rfl rfl rfl rfl rfl rfl (by omega) ?_ | refine VX.idxI rfl rfl rfl rfl rfl au_z (by omega) ?_ | refine VX.idxO rfl rfl rfl rfl rfl rfl au_z (by omega) ?_ | refine VX.meek rfl ?_
          refine VX.guardT rfl rfl hb19_4 ?_
          refine VX.meek rfl ?_
          refine VX.guardT rfl rfl hb19_4 ?_
          first | refine VX.meek rfl ?_ | refine VX.loadI rfl rfl au_l ?_ | refine VX.loadP rfl rfl rfl au_l ?_ | refine VX.loadP rfl rfl b1 rfl ?_ | refine VX.loadP rfl rfl b1 au_l ?_ | refine VX.loadP rfl rfl bn rfl ?_ | refine VX.loadP rfl rfl bn au_l ?_
          refine VX.guardT rfl rfl hb19_4 ?_
          first | refine VX.meek rfl ?_ | refine VX.loadI rfl rfl au_l ?_ | refine VX.loadP rfl rfl rfl au_l ?_ | refine VX.loadP rfl rfl b1 rfl ?_ | refine VX.loadP rfl rfl b1 au_l ?_ | refine VX.loadP rfl rfl bn rfl ?_ | refine VX.loadP rfl rfl bn au_l ?_
          refine VX.guardT rfl rfl hb19_4 ?_
          refine VX.meek rfl ?_
          refine VX.pickA rfl (fun _ => rfl) ?_
          exact VX.nil ⟨rfl, rfl⟩
        · refine VX.guardF rfl rfl hb19_4 ?_
          refine VX.guardF rfl rfl hb19_4 ?_
          refine VX.guardF rfl rfl hb19_4 ?_
          refine VX.guardF rfl rfl hb19_4 ?_
          refine VX.guardF rfl rfl hb19_4 ?_
          refine VX.guardF rfl rfl hb19_4 ?_
          exact VX.pickA rfl (fun h => absurd (h.symm.trans hb19_4) (by decide)) (VX.nil ⟨rfl, rfl⟩)
      refine VX.nil ?_
      refine VX.nil ?_
      refine VC.cond rfl (fun hc3 => ?_) (fun hc3 => ?_)
      · (try simp only [au_std] at hc3); have hnl2 : nx < all.length := (by omega); have hst := hM2.step hr hnl2 (by omega)
        refine VC.skip ?_
        refine VC.block ?_
        refine VC.reg tab_ok [73] rfl ?_
        iterate 3 refine VX.meek rfl ?_
        first | refine VX.idxI rfl rfl rfl rfl rfl rfl (by omega) ?_ | refine VX.idxO0 rfl rfl rfl rfl rfl rfl rfl (by omega) ?_ | refine VX.idxO0 rfl rfl rfl rfl rfl rfl au_z (by omega) ?_ | refine VX.idxO rfl rfl rfl rfl rfl rfl rfl (by omega) ?_ | refine VX.idxI rfl rfl rfl rfl rfl au_z (by omega) ?_ | refine VX.idxO rfl rfl rfl rfl rfl rfl au_z (by omega) ?_ | refine VX.meek rfl ?_
        first | refine VX.meek rfl ?_ | refine VX.loadI rfl rfl au_l ?_ | refine VX.loadP rfl rfl rfl au_l ?_ | refine VX.loadP rfl rfl b1 rfl ?_ | refine VX.loadP rfl rfl b1 au_l ?_ | refine VX.loadP rfl rfl bn rfl ?_ | refine VX.loadP rfl rfl bn au_l ?_
        refine VX.newI rfl rfl ?_
        first | refine VX.appendNil rfl rfl rfl rfl rfl rfl au_sR au_sR au_sR ?_ | refine VX.append rfl rfl rfl rfl rfl rfl rfl rfl au_sR au_sR au_sR au_sR au_sR ?_
        refine VX.meek rfl ?_
        refine VX.nil ?_
        refine VC.regN tab_ok [] rfl ?_
        refine VX.meek rfl ?_
        first | refine VX.add rfl rfl (by omega) ?_ | refine VX.meek rfl ?_
        refine VX.meek rfl ?_
        refine VX.nil ?_
        refine ⟨nx + 1, rw ++ [all[nx]!], [], by (try dsimp only); omega, ?_, (by refine ⟨[some 0, some 1, some 2, some 4], rfl, by first | trivial | decide, rfl, ?_, ?_⟩ <;> (repeat' first | exact trivial | exact CvB_n | exact CvB_d | refine CvE_app ?_ ?_ | refine CvE_cons rfl ?_ ?_ | refine CvH_cons ?_ ?_ | refine CvB_c rfl ?_ | fail) <;> first | exact au_v | (first | exact CvL.cons (Cv.slc rfl (.inl rfl)) CvL.nil | exact Cv.slcE rfl (by simp) (.inl rfl) | exact CvL.eq (app_cells rfl rfl) (by simp only [List.append_nil]; exact encL_pure cR _) | exact CvL.pure (pureL_append (encL_pure cR _) (by assumption))))⟩
        exact ⟨hst, by omega, fun h => absurd h (by omega), rfl⟩
      · (try simp only [au_std] at hc3); have hstop := hM2.stop hsY (fun h => hc3 (by omega))
        refine VC.exit ?_
        refine VC.seq ?_
        refine VC.reg tab_ok [] rfl ?_
        iterate 3 refine VX.meek rfl ?_
        refine VX.nil ?_
        refine VC.cond rfl (fun hc4 => ?_) (fun hc4 => ?_)
        · (try simp only [au_std] at hc4)
          refine VC.regN tab_ok [] rfl ?_
          refine VX.meek rfl ?_
          refine VX.callT rfl rfl (CallT.frame (sortX_any rw tl2 (by omega) htl2) [3] rfl au_ci au_ci ?_)
          rintro _ _ ⟨rfl, rw', hpx, hsx, rfl⟩
          refine frK au_co au_co ?_
          refine VX.nil ?_
          have hM3 := hM2.perm hpx; have hsX := sortX_of hsx; have hrl' := hpx.length_eq; rw [← hrl']
          refine VC.reg tab_ok [] rfl ?_
          first | refine VX.meek rfl ?_ | refine VX.loadI rfl rfl au_l ?_ | refine VX.loadP rfl rfl rfl au_l ?_ | refine VX.loadP rfl rfl b1 rfl ?_ | refine VX.loadP rfl rfl b1 au_l ?_ | refine VX.loadP rfl rfl bn rfl ?_ | refine VX.loadP rfl rfl bn au_l ?_
          iterate 2 refine VX.meek rfl ?_
          refine VX.nil ?_
          refine VC.seq ?_
          refine VC.reg tab_ok [] rfl ?_
          refine VX.meek rfl ?_
          refine VX.callT rfl rfl (CallT.frame (spans_t rw'.length (encL cR rw' ++ tl2) none) [3] rfl au_ci au_ci ?_)
          rintro _ _ ⟨rfl, rfl⟩
          refine frK au_co au_co ?_
          refine VX.nil ?_
          refine VC.block ?_
          refine VC.range rfl fun L hp ha hb => ?_
          refine (spans1_t (OfJ (recP _ (L.at .ready none) _) out (newR (ysOf all)[i]! (ysOf all)[i + 1]! rw') rw' tl2) 4 3 rw' tl2 none (fun r h => hr r (hM3.2.2.1 r h).1) (by omega) (fun k H h => h.look) (fun k H cs h => h.push cs) ?_ _ ⟨2, tlo, hto, .inl rfl, Nat.le_of_ble_eq_true rfl, Nat.le_of_ble_eq_true rfl, rfl, rfl, by rw [List.take_zero, List.append_nil]; rfl, rfl, rfl⟩).mono ?_
          · intro k H' hJ s hs
            obtain ⟨bo, tlb, g1, g2, g3, g4, g5, g6, g7, g8, g9⟩ := hJ
            refine YieldT.intro (L := L) g9 (by rw [hp]; decide) (by rw [hp]; rfl) ?_
            rw [ha, hb, hp]
            obtain ⟨hT, hkn⟩ := newR_at (y := (ysOf all)[i]!) (e := (ysOf all)[i + 1]!) hs
            have hsb := span_bnd (row := rw') (fun r h => hr r (hM3.2.2.1 r h).1) hsX s (List.mem_of_getElem? hs)
            have hsl := spansF_length rw'; have hnl4 := newR_len (ysOf all)[i]! (ysOf all)[i + 1]! rw'
            have hlk : (out ++ (newR (ysOf all)[i]! (ysOf all)[i + 1]! rw').take k).length = out.length + k := by rw [List.length_append, List.length_take]; omega
            have hlc : (encL cR (out ++ (newR (ysOf all)[i]! (ysOf all)[i + 1]! rw').take k) ++ tlb).length = (out.length + k) * 4 + tlb.length := by rw [List.length_append, encL_len, hlk, cR_sz]
            refine VC.regN tab_ok [] rfl ?_
            refine VX.new rfl rfl ?_
            refine VX.storeE (H2 := H' ++ [.c [I64 s.1, I64 s.2]]) rfl rfl rfl (lookH_new _ _) rfl (Nat.le_of_ble_eq_true rfl) rfl (setH_new _ _ _) ?_
            refine VX.nil ?_
            refine ⟨by rw [blkH_push, if_neg (by omega)]; exact g9, ?_⟩
            have f4 : 4 < (H' ++ [Blk.c [I64 s.1, I64 s.2]]).length := by simp; omega
            have e : ∀ c x, blkH (setH (H' ++ [Blk.c [I64 s.1, I64 s.2]]) 4 x) c = if c = 4 then x else if c = H'.length then Blk.c [I64 s.1, I64 s.2] else blkH H' c := fun c x => by rw [blkH_set _ _ _ _ f4, blkH_push]
            have el : ∀ x, (setH (H' ++ [Blk.c [I64 s.1, I64 s.2]]) 4 x).length = H'.length + 1 := fun x => by rw [setH_length]; simp
            generalize hHB : setH (H' ++ [Blk.c [I64 s.1, I64 s.2]]) 4 _ = HB
            have b0 : blkH HB 0 = .c [NIL] := by rw [← hHB, e, if_neg (by omega), if_neg (by omega)]; exact g5
            have b1 : lookH HB 1 = some [.slc bo 0 (out.length + k) 4 none] := lookH_c.2 (by rw [← hHB, e, if_neg (by omega), if_neg (by omega)]; exact g6)
            have bb : lookH HB bo = some (encL cR (out ++ (newR (ysOf all)[i]! (ysOf all)[i + 1]! rw').take k) ++ tlb) := lookH_c.2 (by rw [← hHB, e, if_neg (by omega), if_neg (by omega)]; exact g7)
            have b3 : blkH HB 3 = .c (encL cR rw' ++ tl2) := by rw [← hHB, e, if_neg (by omega), if_neg (by omega)]; exact g8
            have b4 := (congrArg (fun h => blkH h 4) hHB.symm).trans ((e 4 _).trans (if_pos rfl))
            have bn : lookH HB H'.length = some [I64 s.1, I64 s.2] := lookH_c.2 (by rw [← hHB, e, if_neg (by omega), if_pos rfl])
            have bl : HB.length = H'.length + 1 := by rw [← hHB]; exact el _
            refine VC.block ?_
            refine VC.regN tab_ok [100] rfl ?_
            first | refine VX.meek rfl ?_ | refine VX.loadI rfl rfl au_l ?_ | refine VX.loadP rfl rfl rfl au_l ?_ | refine VX.loadP rfl rfl b1 rfl ?_ | refine VX.loadP rfl rfl b1 au_l ?_ | refine VX.loadP rfl rfl bn rfl ?_ | refine VX.loadP rfl rfl bn au_l ?_
            refine VX.meek rfl ?_
            first | refine VX.meek rfl ?_ | refine VX.loadI rfl rfl au_l ?_ | refine VX.loadP rfl rfl rfl au_l ?_ | refine VX.loadP rfl rfl b1 rfl ?_ | refine VX.loadP rfl rfl b1 au_l ?_ | refine VX.loadP rfl rfl bn rfl ?_ | refine VX.loadP rfl rfl bn au_l ?_
            first | refine VX.meek rfl ?_ | refine VX.loadI rfl rfl au_l ?_ | refine VX.loadP rfl rfl rfl au_l ?_ | refine VX.loadP rfl rfl b1 rfl ?_ | refine VX.loadP rfl rfl b1 au_l ?_ | refine VX.loadP rfl rfl bn rfl ?_ | refine VX.loadP rfl rfl bn au_l ?_
            refine VX.meek rfl ?_
            first | refine VX.meek rfl ?_ | refine VX.loadI rfl rfl au_l ?_ | refine VX.loadP rfl rfl rfl au_l ?_ | refine VX.loadP rfl rfl b1 rfl ?_ | refine VX.loadP rfl rfl b1 au_l ?_ | refine VX.loadP rfl rfl bn rfl ?_ | refine VX.loadP rfl rfl bn au_l ?_
            refine VX.meek rfl ?_
            first | refine VX.meek rfl ?_ | refine VX.loadI rfl rfl au_l ?_ | refine VX.loadP rfl rfl rfl au_l ?_ | refine VX.loadP rfl rfl b1 rfl ?_ | refine VX.loadP rfl rfl b1 au_l ?_ | refine VX.loadP rfl rfl bn rfl ?_ | refine VX.loadP rfl rfl bn au_l ?_
            first | refine VX.sub rfl rfl (by omega) ?_ | refine VX.meek rfl ?_
            first | refine VX.meek rfl ?_ | refine VX.loadI rfl rfl au_l ?_ | refine VX.loadP rfl rfl rfl au_l ?_ | refine VX.loadP rfl rfl b1 rfl ?_ | refine VX.loadP rfl rfl b1 au_l ?_ | refine VX.loadP rfl rfl bn rfl ?_ | refine VX.loadP rfl rfl bn au_l ?_
            first | refine VX.meek rfl ?_ | refine VX.loadI rfl rfl au_l ?_ | refine VX.loadP rfl rfl rfl au_l ?_ | refine VX.loadP rfl rfl b1 rfl ?_ | refine VX.loadP rfl rfl b1 au_l ?_ | refine VX.loadP rfl rfl bn rfl ?_ | refine VX.loadP rfl rfl bn au_l ?_
            first | refine VX.sub rfl rfl (by omega) ?_ | refine VX.meek rfl ?_
            refine VX.meek rfl ?_
            refine VX.newI rfl rfl ?_
            refine VX.append rfl rfl rfl rfl rfl bb rfl rfl (by rw [hlc]; omega) (by dsimp only; omega) (by omega) rfl rfl ?_
            refine VX.storeE (H2 := _) rfl rfl rfl (show lookH _ 1 = some _ from lookH_c.2 (by rw [blkH_push, if_neg (by rw [setH_length]; omega), blkH_set _ _ _ _ (by omega), if_neg (by omega)]; exact lookH_c.1 b1)) rfl (Nat.le_of_ble_eq_true rfl) rfl rfl ?_
            refine VX.nil ?_
            have hcc := app_cells (l := out ++ (newR (ysOf all)[i]! (ysOf all)[i + 1]! rw').take k) (tl := tlb) (n := out.length + k) (xs := [I64 s.1, I64 (ysOf all)[i]!, I64 (s.2 - s.1), I64 ((ysOf all)[i + 1]! - (ysOf all)[i]!)]) (r := ⟨s.1, (ysOf all)[i]!, s.2 - s.1, (ysOf all)[i + 1]! - (ysOf all)[i]!⟩) hlk.symm rfl
            rw [List.append_assoc, ← hT] at hcc
            exact ⟨(OfJ.next (rec0 := OP.any) (tl := []) rfl g2 (by omega) (by omega) b0 b3 b4 hcc rfl).1, rfl, (OfJ.next (tl := []) rfl g2 (by omega) (by omega) b0 b3 b4 hcc rfl).2⟩
          · intro t H' hJ
            obtain ⟨bo, tlb, g1, g2, g3, g4, g5, g6, g7, g8, g9⟩ := hJ
            refine .inl ⟨g9, ?_⟩
            have f4 : 4 < H'.length := by omega
            have e : ∀ c, blkH (setH H' 4 .d) c = if c = 4 then .d else blkH H' c := fun c => blkH_set _ _ _ _ f4
            have hnew : (newR (ysOf all)[i]! (ysOf all)[i + 1]! rw').take (spansF rw').length = newR (ysOf all)[i]! (ysOf all)[i + 1]! rw' := List.take_of_length_le (by rw [newR_len]; exact Nat.le_refl _)
            rw [hnew] at g7
            have hnl : (out ++ newR (ysOf all)[i]! (ysOf all)[i + 1]! rw').length = out.length + (spansF rw').length := by rw [List.length_append, newR_len]
            rw [← hnl] at g6
            have c0 : lookH (setH H' 4 .d) 0 = some [NIL] := lookH_c.2 (by rw [e, if_neg (by omega)]; exact g5)
            have c1 : lookH (setH H' 4 .d) 1 = some [.slc bo 0 (out ++ newR (ysOf all)[i]! (ysOf all)[i + 1]! rw').length 4 none] := lookH_c.2 (by rw [e, if_neg (by omega)]; exact g6)
            have cb : lookH (setH H' 4 .d) bo = some (encL cR (out ++ newR (ysOf all)[i]! (ysOf all)[i + 1]! rw') ++ tlb) := lookH_c.2 (by rw [e, if_neg (by omega)]; exact g7)
            have c3 : lookH (setH H' 4 .d) 3 = some (encL cR rw' ++ tl2) := lookH_c.2 (by rw [e, if_neg (by omega)]; exact g8)
            have hsl := spansF_length rw'
            have hinj := inj4 g2
            refine VC.view [] [.c [NIL], .c [.slc 2 0 (out ++ newR (ysOf all)[i]! (ysOf all)[i + 1]! rw').length 4 none], .c (encL cR (out ++ newR (ysOf all)[i]! (ysOf all)[i + 1]! rw') ++ tlb), .c (encL cR rw' ++ tl2)] [2, 3, 6, 7, 8, 9, 10, 11, 12, 13, 15] rfl ⟨[some 0, some 1, some bo, some 3], hinj, trivial, rfl, ?_, ?_⟩ ?_
            · repeat' first | exact trivial | refine CvE_app ?_ ?_ | refine CvE_cons rfl ?_ ?_ | exact Cv.slc rfl (.inl rfl) | exact Cv.ptr rfl | (refine Cv.pure ?_; first | rfl | (simp only [T.pure, T.pureL, encL_pure, pureL_app, Bool.and_self, *]; done))
            · exact CvH_cons (CvB_c c0 (CvL.pure rfl)) (CvH_cons (CvB_c c1 (CvL.cons (Cv.slc rfl (.inl rfl)) CvL.nil)) (CvH_cons (CvB_c cb (CvL.pure (pureL_append (encL_pure cR _) g1))) (CvH_cons (CvB_c c3 (CvL.pure (pureL_append (encL_pure cR _) htl2))) trivial)))
            refine VC.drw tab_ok [] [_, _, _, _, _, _, _] rfl (by kernel_rfl) (by kernel_rfl) ?_
            first | refine VX.meek rfl ?_ | refine VX.loadI rfl rfl au_l ?_ | refine VX.loadP rfl rfl rfl au_l ?_ | refine VX.loadP rfl rfl b1 rfl ?_ | refine VX.loadP rfl rfl b1 au_l ?_ | refine VX.loadP rfl rfl bn rfl ?_ | refine VX.loadP rfl rfl bn au_l ?_
            iterate 2 refine VX.meek rfl ?_
            refine VX.slcP rfl rfl rfl rfl rfl rfl rfl rfl rfl (by omega) (by rw [hnl]; omega) ?_
            first | refine VX.meek rfl ?_ | refine VX.loadI rfl rfl au_l ?_ | refine VX.loadP rfl rfl rfl au_l ?_ | refine VX.loadP rfl rfl b1 rfl ?_ | refine VX.loadP rfl rfl b1 au_l ?_ | refine VX.loadP rfl rfl bn rfl ?_ | refine VX.loadP rfl rfl bn au_l ?_
            refine VX.meek rfl ?_
            refine VX.slcP rfl rfl rfl rfl rfl rfl rfl rfl rfl (by rw [hnl]; omega) (Nat.le_refl _) ?_
            refine VX.nil ?_
            refine VX.callB rfl rfl (alike_p (out.drop above) (newR (ysOf all)[i]! (ysOf all)[i + 1]! rw') (fun r h => (hO.2.2.2.2.2.2.1 r (List.mem_of_mem_drop h)).1) (by rw [List.length_drop]; omega)) rfl (CvL.cons (Cv.pcT (xs := encL cR (out.take above)) (ys := encL cR (newR (ysOf all)[i]! (ysOf all)[i + 1]! rw') ++ tlb) ⟨rfl, by simp⟩ (by rw [← encL_append, List.take_append_drop, encL_append, List.append_assoc]) (by rw [encL_len, cR_sz, List.length_take, Nat.min_eq_left hab]) (by rw [encL_len, cR_sz]) (by rw [List.length_drop]) hab (by rw [hnl]; omega) (encL_pure cR _)) (CvL.cons (Cv.pcT (xs := encL cR out) (ys := tlb) ⟨rfl, by simp⟩ (by rw [encL_append]) (by rw [encL_len, cR_sz]) (by rw [encL_len, cR_sz]) (by rw [hnl, newR_len]; omega) (by rw [hnl]; omega) (Nat.le_refl _) (encL_pure cR _)) CvL.nil)) ?_
            refine VX.nil ?_
            refine VC.cond rfl (fun hc5 => ?_) (fun hc5 => ?_)
            · have hnxt := (OfR.next hO hi1 hr hM3 hstop hsX).1 hc5
              refine VC.seq ?_
              refine VC.reg tab_ok [] rfl ?_
              iterate 2 refine VX.meek rfl ?_
              refine VX.nil ?_
              refine VC.block ?_
              refine VC.loopS2 (σ1 := Nat) (σ2 := List Rect) (fun j _ => out.length - j) (fun j m => HghR out (newR (ysOf all)[i]! (ysOf all)[i + 1]! rw') above ((ysOf all)[i + 1]! - (ysOf all)[i]!) j m) (fun j _ => [(17, I64 j)]) (fun _ m => [.c [NIL], .c [.slc 2 0 (out ++ newR (ysOf all)[i]! (ysOf all)[i + 1]! rw').length 4 none], .c (encL cR m ++ tlb), .c (encL cR rw' ++ tl2)]) [2, 3, 6, 7, 8, 9, 10, 11, 12, 13, 15] rfl (above) ((out ++ newR (ysOf all)[i]! (ysOf all)[i + 1]! rw')) ?_ ?_ ?_
              · refine ⟨[some 0, some 1, some 2, some 3], rfl, by first | trivial | decide, rfl, ?_, ?_⟩ <;> (repeat' first | exact trivial | exact CvB_n | exact CvB_d | refine CvE_app ?_ ?_ | refine CvE_cons rfl ?_ ?_ | refine CvH_cons ?_ ?_ | refine CvB_c rfl ?_ | fail) <;> first | exact au_v | (first | exact CvL.cons (Cv.slc rfl (.inl rfl)) CvL.nil | exact CvL.pure (pureL_append (encL_pure cR _) (by assumption)))
              · exact HghR.start _ _ _ _ hab
              rintro j m hH; have hml := hH.len
              refine VC.seq ?_
              refine VC.reg tab_ok [] rfl ?_
              iterate 3 refine VX.meek rfl ?_
              refine VX.nil ?_
              refine VC.cond rfl (fun hc6 => ?_) (fun hc6 => ?_)
              · (try simp only [au_std] at hc6); have hj : j < out.length := (by omega); have hmj := hH.at hj; have hrj := (hO.2.2.2.2.2.2.1 out[j]! (List.mem_iff_getElem?.2 ⟨j, getE hj⟩)).1; rw [← hmj] at hrj; unfold rok at hrj; have hjm : j < m.length := (by omega)
                refine VC.skip ?_
                refine VC.seq ?_
                refine VC.block ?_
                refine VC.drwN tab_ok [] [_, _, _, _, _, _, _, _, _, _, _] rfl (by kernel_rfl) (by kernel_rfl) ?_
                first | refine VX.meek rfl ?_ | refine VX.loadI rfl rfl au_l ?_ | refine VX.loadP rfl rfl rfl au_l ?_ | refine VX.loadP rfl rfl b1 rfl ?_ | refine VX.loadP rfl rfl b1 au_l ?_ | refine VX.loadP rfl rfl bn rfl ?_ | refine VX.loadP rfl rfl bn au_l ?_
                refine VX.meek rfl ?_
                first | refine VX.idxI rfl rfl rfl rfl rfl rfl (by omega) ?_ | refine VX.idxO0 rfl rfl rfl rfl rfl rfl rfl (by omega) ?_ | refine VX.idxO0 rfl rfl rfl rfl rfl rfl au_z (by omega) ?_ | refine VX.idxO rfl rfl rfl rfl rfl rfl rfl (by omega) ?_ | refine VX.idxI rfl rfl rfl rfl rfl au_z (by omega) ?_ | refine VX.idxO rfl rfl rfl rfl rfl rfl au_z (by omega) ?_ | refine VX.meek rfl ?_
                refine VX.meek rfl ?_
                first | refine VX.meek rfl ?_ | refine VX.loadI rfl rfl au_l ?_ | refine VX.loadP rfl rfl rfl au_l ?_ | refine VX.loadP rfl rfl b1 rfl ?_ | refine VX.loadP rfl rfl b1 au_l ?_ | refine VX.loadP rfl rfl bn rfl ?_ | refine VX.loadP rfl rfl bn au_l ?_
                first | refine VX.meek rfl ?_ | refine VX.loadI rfl rfl au_l ?_ | refine VX.loadP rfl rfl rfl au_l ?_ | refine VX.loadP rfl rfl b1 rfl ?_ | refine VX.loadP rfl rfl b1 au_l ?_ | refine VX.loadP rfl rfl bn rfl ?_ | refine VX.loadP rfl rfl bn au_l ?_
                first | refine VX.meek rfl ?_ | refine VX.loadI rfl rfl au_l ?_ | refine VX.loadP rfl rfl rfl au_l ?_ | refine VX.loadP rfl rfl b1 rfl ?_ | refine VX.loadP rfl rfl b1 au_l ?_ | refine VX.loadP rfl rfl bn rfl ?_ | refine VX.loadP rfl rfl bn au_l ?_
                first | refine VX.sub rfl rfl (by omega) ?_ | refine VX.meek rfl ?_
                first | refine VX.add rfl rfl (by omega) ?_ | refine VX.meek rfl ?_
                first | refine VX.idxI rfl rfl rfl rfl rfl rfl (by omega) ?_ | refine VX.idxO0 rfl rfl rfl rfl rfl rfl rfl (by omega) ?_ | refine VX.idxO0 rfl rfl rfl rfl rfl rfl au_z (by omega) ?_ | refine VX.idxO rfl rfl rfl rfl rfl rfl rfl (by omega) ?_ | refine VX.idxI rfl rfl rfl rfl rfl au_z (by omega) ?_ | refine VX.idxO rfl rfl rfl rfl rfl rfl au_z (by omega) ?_ | refine VX.meek rfl ?_
                refine VX.meek rfl ?_
                refine VX.nil ?_
                refine VX.store rfl rfl rfl rfl rfl au_sR rfl ?_
                refine VX.nil ?_
                refine VC.regN tab_ok [] rfl ?_
                refine VX.meek rfl ?_
                first | refine VX.add rfl rfl (by omega) ?_ | refine VX.meek rfl ?_
                refine VX.meek rfl ?_
                refine VX.nil ?_
                refine ⟨j + 1, m.set j { m[j]! with H := m[j]!.H + ((ysOf all)[i + 1]! - (ysOf all)[i]!) }, by (try dsimp only); omega, ?_, (by refine ⟨[some 0, some 1, some 2, some 3], rfl, by first | trivial | decide, rfl, ?_, ?_⟩ <;> (repeat' first | exact trivial | exact CvB_n | exact CvB_d | refine CvE_app ?_ ?_ | refine CvE_cons rfl ?_ ?_ | refine CvH_cons ?_ ?_ | refine CvB_c rfl ?_ | fail) <;> first | exact au_v | (first | exact CvL.cons (Cv.slc rfl (.inl rfl)) CvL.nil | exact CvL.eq (encL_putA cR (getE hjm) (Nat.le_of_ble_eq_true rfl) rfl) (pureL_append (encL_pure cR _) g1) | exact CvL.pure (pureL_append (encL_pure cR _) htl2)))⟩
                exact hH.next hj
              · (try simp only [au_std] at hc6); obtain ⟨hje, hme⟩ := hH.done (by omega); have hml2 : out.length = (out.take above ++ (out.drop above).map (fun r : Rect => { r with H := r.H + ((ysOf all)[i + 1]! - (ysOf all)[i]!) })).length := (by simp only [List.length_append, List.length_take, List.length_map, List.length_drop]; omega); have hm2 : encL cR m ++ tlb = encL cR (out.take above ++ (out.drop above).map (fun r : Rect => { r with H := r.H + ((ysOf all)[i + 1]! - (ysOf all)[i]!) })) ++ (encL cR (newR (ysOf all)[i]! (ysOf all)[i + 1]! rw') ++ tlb) := (by rw [hme, encL_append, List.append_assoc])
                refine VC.exit ?_
                refine VC.regN tab_ok [] rfl ?_
                first | refine VX.meek rfl ?_ | refine VX.loadI rfl rfl au_l ?_ | refine VX.loadP rfl rfl rfl au_l ?_ | refine VX.loadP rfl rfl b1 rfl ?_ | refine VX.loadP rfl rfl b1 au_l ?_ | refine VX.loadP rfl rfl bn rfl ?_ | refine VX.loadP rfl rfl bn au_l ?_
                refine VX.meek rfl ?_
                first | refine VX.slcO0 rfl rfl rfl rfl rfl rfl (by first | rfl | exact (Int.toNat_of_nonneg (by omega)).symm) (by omega) ?_ | refine VX.slcI0 rfl rfl rfl rfl rfl (by first | rfl | exact (Int.toNat_of_nonneg (by omega)).symm) (by omega) ?_ | refine VX.meek rfl ?_
                refine VX.store rfl rfl rfl rfl rfl au_sR rfl ?_
                refine VX.nil ?_
                refine VC.regN tab_ok [] rfl ?_
                refine VX.meek rfl ?_
                first | refine VX.add rfl rfl (by omega) ?_ | refine VX.meek rfl ?_
                refine VX.meek rfl ?_
                refine VX.nil ?_
                refine ⟨i + 1, (out.take above ++ (out.drop above).map (fun r : Rect => { r with H := r.H + ((ysOf all)[i + 1]! - (ysOf all)[i]!) })), above, nx, rw', (encL cR (newR (ysOf all)[i]! (ysOf all)[i + 1]! rw') ++ tlb), tl2, by (try dsimp only); omega, ?_, (by refine ⟨[some 0, some 1, some 2, some 3], rfl, by first | trivial | decide, rfl, ?_, ?_⟩ <;> (repeat' first | exact trivial | exact CvB_n | exact CvB_d | refine CvE_app ?_ ?_ | refine CvE_cons rfl ?_ ?_ | refine CvH_cons ?_ ?_ | refine CvB_c rfl ?_ | fail) <;> first | exact au_v | (first | exact CvL.cons (Cv.slcE rfl hml2 (.inl rfl)) CvL.nil | exact CvL.eq hm2 (pureL_append (encL_pure cR _) (pureL_append (encL_pure cR _) g1)) | exact CvL.pure (pureL_append (encL_pure cR _) htl2)))⟩
                exact ⟨hnxt, by first | exact g1 | exact pureL_append (encL_pure cR _) g1, htl2⟩
            · have hnxt := (OfR.next hO hi1 hr hM3 hstop hsX).2 hc5
              refine VC.regN tab_ok [] rfl ?_
              iterate 2 refine VX.meek rfl ?_
              refine VX.nil ?_
              refine VC.regN tab_ok [] rfl ?_
              refine VX.meek rfl ?_
              first | refine VX.add rfl rfl (by omega) ?_ | refine VX.meek rfl ?_
              refine VX.meek rfl ?_
              refine VX.nil ?_
              refine ⟨i + 1, (out ++ newR (ysOf all)[i]! (ysOf all)[i + 1]! rw'), out.length, nx, rw', tlb, tl2, by (try dsimp only); omega, ?_, (by refine ⟨[some 0, some 1, some 2, some 3], rfl, by first | trivial | decide, rfl, ?_, ?_⟩ <;> (repeat' first | exact trivial | exact CvB_n | exact CvB_d | refine CvE_app ?_ ?_ | refine CvE_cons rfl ?_ ?_ | refine CvH_cons ?_ ?_ | refine CvB_c rfl ?_ | fail) <;> first | exact au_v | (first | exact CvL.cons (Cv.slc rfl (.inl rfl)) CvL.nil | exact CvL.pure (pureL_append (encL_pure cR _) g1) | exact CvL.pure (pureL_append (encL_pure cR _) htl2)))⟩
              exact ⟨hnxt, by first | exact g1 | exact pureL_append (encL_pure cR _) g1, htl2⟩
        · (try simp only [au_std] at hc4); have hsX : sortX rw := (by rw [heq (by omega)]; exact sortX_filter hO.2.2.2.2.2.2.2.2.2.2); have hM3 := hM2; obtain ⟨rw', rfl⟩ : ∃ r, r = rw := ⟨_, rfl⟩; have hrl' : rw'.length = rw'.length := rfl
          refine VC.skip ?_
          refine VC.reg tab_ok [] rfl ?_
          first | refine VX.meek rfl ?_ | refine VX.loadI rfl rfl au_l ?_ | refine VX.loadP rfl rfl rfl au_l ?_ | refine VX.loadP rfl rfl b1 rfl ?_ | refine VX.loadP rfl rfl b1 au_l ?_ | refine VX.loadP rfl rfl bn rfl ?_ | refine VX.loadP rfl rfl bn au_l ?_
          iterate 2 refine VX.meek rfl ?_
          refine VX.nil ?_
          refine VC.seq ?_
          refine VC.reg tab_ok [] rfl ?_
          refine VX.meek rfl ?_
          refine VX.callT rfl rfl (CallT.frame (spans_t rw'.length (encL cR rw' ++ tl2) none) [3] rfl au_ci au_ci ?_)
          rintro _ _ ⟨rfl, rfl⟩
          refine frK au_co au_co ?_
          refine VX.nil ?_
          refine VC.block ?_
          refine VC.range rfl fun L hp ha hb => ?_
          refine (spans1_t (OfJ (recP _ (L.at .ready none) _) out (newR (ysOf all)[i]! (ysOf all)[i + 1]! rw') rw' tl2) 4 3 rw' tl2 none (fun r h => hr r (hM3.2.2.1 r h).1) (by omega) (fun k H h => h.look) (fun k H cs h => h.push cs) ?_ _ ⟨2, tlo, hto, .inl rfl, Nat.le_of_ble_eq_true rfl, Nat.le_of_ble_eq_true rfl, rfl, rfl, by rw [List.take_zero, List.append_nil]; rfl, rfl, rfl⟩).mono ?_
          · intro k H' hJ s hs
            obtain ⟨bo, tlb, g1, g2, g3, g4, g5, g6, g7, g8, g9⟩ := hJ
            refine YieldT.intro (L := L) g9 (by rw [hp]; decide) (by rw [hp]; rfl) ?_
            rw [ha, hb, hp]
            obtain ⟨hT, hkn⟩ := newR_at (y := (ysOf all)[i]!) (e := (ysOf all)[i + 1]!) hs
            have hsb := span_bnd (row := rw') (fun r h => hr r (hM3.2.2.1 r h).1) hsX s (List.mem_of_getElem? hs)
            have hsl := spansF_length rw'; have hnl4 := newR_len (ysOf all)[i]! (ysOf all)[i + 1]! rw'
            have hlk : (out ++ (newR (ysOf all)[i]! (ysOf all)[i + 1]! rw').take k).length = out.length + k := by rw [List.length_append, List.length_take]; omega
            have hlc : (encL cR (out ++ (newR (ysOf all)[i]! (ysOf all)[i + 1]! rw').take k) ++ tlb).length = (out.length + k) * 4 + tlb.length := by rw [List.length_append, encL_len, hlk, cR_sz]
            refine VC.regN tab_ok [] rfl ?_
            refine VX.new rfl rfl ?_
            refine VX.storeE (H2 := H' ++ [.c [I64 s.1, I64 s.2]]) rfl rfl rfl (lookH_new _ _) rfl (Nat.le_of_ble_eq_true rfl) rfl (setH_new _ _ _) ?_
            refine VX.nil ?_
            refine ⟨by rw [blkH_push, if_neg (by omega)]; exact g9, ?_⟩
            have f4 : 4 < (H' ++ [Blk.c [I64 s.1, I64 s.2]]).length := by simp; omega
            have e : ∀ c x, blkH (setH (H' ++ [Blk.c [I64 s.1, I64 s.2]]) 4 x) c = if c = 4 then x else if c = H'.length then Blk.c [I64 s.1, I64 s.2] else blkH H' c := fun c x => by rw [blkH_set _ _ _ _ f4, blkH_push]
            have el : ∀ x, (setH (H' ++ [Blk.c [I64 s.1, I64 s.2]]) 4 x).length = H'.length + 1 := fun x => by rw [setH_length]; simp
            generalize hHB : setH (H' ++ [Blk.c [I64 s.1, I64 s.2]]) 4 _ = HB
            have b0 : blkH HB 0 = .c [NIL] := by rw [← hHB, e, if_neg (by omega), if_neg (by omega)]; exact g5
            have b1 : lookH HB 1 = some [.slc bo 0 (out.length + k) 4 none] := lookH_c.2 (by rw [← hHB, e, if_neg (by omega), if_neg (by omega)]; exact g6)
            have bb : lookH HB bo = some (encL cR (out ++ (newR (ysOf all)[i]! (ysOf all)[i + 1]! rw').take k) ++ tlb) := lookH_c.2 (by rw [← hHB, e, if_neg (by omega), if_neg (by omega)]; exact g7)
            have b3 : blkH HB 3 = .c (encL cR rw' ++ tl2) := by rw [← hHB, e, if_neg (by omega), if_neg (by omega)]; exact g8
            have b4 := (congrArg (fun h => blkH h 4) hHB.symm).trans ((e 4 _).trans (if_pos rfl))
            have bn : lookH HB H'.length = some [I64 s.1, I64 s.2] := lookH_c.2 (by rw [← hHB, e, if_neg (by omega), if_pos rfl])
            have bl : HB.length = H'.length + 1 := by rw [← hHB]; exact el _
            refine VC.block ?_
            refine VC.regN tab_ok [100] rfl ?_
            first | refine VX.meek rfl ?_ | refine VX.loadI rfl rfl au_l ?_ | refine VX.loadP rfl rfl rfl au_l ?_ | refine VX.loadP rfl rfl b1 rfl ?_ | refine VX.loadP rfl rfl b1 au_l ?_ | refine VX.loadP rfl rfl bn rfl ?_ | refine VX.loadP rfl rfl bn au_l ?_
            refine VX.meek rfl ?_
            first | refine VX.meek rfl ?_ | refine VX.loadI rfl rfl au_l ?_ | refine VX.loadP rfl rfl rfl au_l ?_ | refine VX.loadP rfl rfl b1 rfl ?_ | refine VX.loadP rfl rfl b1 au_l ?_ | refine VX.loadP rfl rfl bn rfl ?_ | refine VX.loadP rfl rfl bn au_l ?_
            first | refine VX.meek rfl ?_ | refine VX.loadI rfl rfl au_l ?_ | refine VX.loadP rfl rfl rfl au_l ?_ | refine VX.loadP rfl rfl b1 rfl ?_ | refine VX.loadP rfl rfl b1 au_l ?_ | refine VX.loadP rfl rfl bn rfl ?_ | refine VX.loadP rfl rfl bn au_l ?_
            refine VX.meek rfl ?_
            first | refine VX.meek rfl ?_ | refine VX.loadI rfl rfl au_l ?_ | refine VX.loadP rfl rfl rfl au_l ?_ | refine VX.loadP rfl rfl b1 rfl ?_ | refine VX.loadP rfl rfl b1 au_l ?_ | refine VX.loadP rfl rfl bn rfl ?_ | refine VX.loadP rfl rfl bn au_l ?_
            refine VX.meek rfl ?_
            first | refine VX.meek rfl ?_ | refine VX.loadI rfl rfl au_l ?_ | refine VX.loadP rfl rfl rfl au_l ?_ | refine VX.loadP rfl rfl b1 rfl ?_ | refine VX.loadP rfl rfl b1 au_l ?_ | refine VX.loadP rfl rfl bn rfl ?_ | refine VX.loadP rfl rfl bn au_l ?_
            first | refine VX.sub rfl rfl (by omega) ?_ | refine VX.meek rfl ?_
            first | refine VX.meek rfl ?_ | refine VX.loadI rfl rfl au_l ?_ | refine VX.loadP rfl rfl rfl au_l ?_ | refine VX.loadP rfl rfl b1 rfl ?_ | refine VX.loadP rfl rfl b1 au_l ?_ | refine VX.loadP rfl rfl bn rfl ?_ | refine VX.loadP rfl rfl bn au_l ?_
            first | refine VX.meek rfl ?_ | refine VX.loadI rfl rfl au_l ?_ | refine VX.loadP rfl rfl rfl au_l ?_ | refine VX.loadP rfl rfl b1 rfl ?_ | refine VX.loadP rfl rfl b1 au_l ?_ | refine VX.loadP rfl rfl bn rfl ?_ | refine VX.loadP rfl rfl bn au_l ?_
            first | refine VX.sub rfl rfl (by omega) ?_ | refine VX.meek rfl ?_
            refine VX.meek rfl ?_
            refine VX.newI rfl rfl ?_
            refine VX.append rfl rfl rfl rfl rfl bb rfl rfl (by rw [hlc]; omega) (by dsimp only; omega) (by omega) rfl rfl ?_
            refine VX.storeE (H2 := _) rfl rfl rfl (show lookH _ 1 = some _ from lookH_c.2 (by rw [blkH_push, if_neg (by rw [setH_length]; omega), blkH_set _ _ _ _ (by omega), if_neg (by omega)]; exact lookH_c.1 b1)) rfl (Nat.le_of_ble_eq_true rfl) rfl rfl ?_
            refine VX.nil ?_
            have hcc := app_cells (l := out ++ (newR (ysOf all)[i]! (ysOf all)[i + 1]! rw').take k) (tl := tlb) (n := out.length + k) (xs := [I64 s.1, I64 (ysOf all)[i]!, I64 (s.2 - s.1), I64 ((ysOf all)[i + 1]! - (ysOf all)[i]!)]) (r := ⟨s.1, (ysOf all)[i]!, s.2 - s.1, (ysOf all)[i + 1]! - (ysOf all)[i]!⟩) hlk.symm rfl
            rw [List.append_assoc, ← hT] at hcc
            exact ⟨(OfJ.next (rec0 := OP.any) (tl := []) rfl g2 (by omega) (by omega) b0 b3 b4 hcc rfl).1, rfl, (OfJ.next (tl := []) rfl g2 (by omega) (by omega) b0 b3 b4 hcc rfl).2⟩
          · intro t H' hJ
            obtain ⟨bo, tlb, g1, g2, g3, g4, g5, g6, g7, g8, g9⟩ := hJ
            refine .inl ⟨g9, ?_⟩
            have f4 : 4 < H'.length := by omega
            have e : ∀ c, blkH (setH H' 4 .d) c = if c = 4 then .d else blkH H' c := fun c => blkH_set _ _ _ _ f4
            have hnew : (newR (ysOf all)[i]! (ysOf all)[i + 1]! rw').take (spansF rw').length = newR (ysOf all)[i]! (ysOf all)[i + 1]! rw' := List.take_of_length_le (by rw [newR_len]; exact Nat.le_refl _)
            rw [hnew] at g7
            have hnl : (out ++ newR (ysOf all)[i]! (ysOf all)[i + 1]! rw').length = out.length + (spansF rw').length := by rw [List.length_append, newR_len]
            rw [← hnl] at g6
            have c0 : lookH (setH H' 4 .d) 0 = some [NIL] := lookH_c.2 (by rw [e, if_neg (by omega)]; exact g5)
            have c1 : lookH (setH H' 4 .d) 1 = some [.slc bo 0 (out ++ newR (ysOf all)[i]! (ysOf all)[i + 1]! rw').length 4 none] := lookH_c.2 (by rw [e, if_neg (by omega)]; exact g6)
            have cb : lookH (setH H' 4 .d) bo = some (encL cR (out ++ newR (ysOf all)[i]! (ysOf all)[i + 1]! rw') ++ tlb) := lookH_c.2 (by rw [e, if_neg (by omega)]; exact g7)
            have c3 : lookH (setH H' 4 .d) 3 = some (encL cR rw' ++ tl2) := lookH_c.2 (by rw [e, if_neg (by omega)]; exact g8)
            have hsl := spansF_length rw'
            have hinj := inj4 g2
            refine VC.view [] [.c [NIL], .c [.slc 2 0 (out ++ newR (ysOf all)[i]! (ysOf all)[i + 1]! rw').length 4 none], .c (encL cR (out ++ newR (ysOf all)[i]! (ysOf all)[i + 1]! rw') ++ tlb), .c (encL cR rw' ++ tl2)] [2, 3, 6, 7, 8, 9, 10, 11, 12, 13, 15] rfl ⟨[some 0, some 1, some bo, some 3], hinj, trivial, rfl, ?_, ?_⟩ ?_
            · repeat' first | exact trivial | refine CvE_app ?_ ?_ | refine CvE_cons rfl ?_ ?_ | exact Cv.slc rfl (.inl rfl) | exact Cv.ptr rfl | (refine Cv.pure ?_; first | rfl | (simp only [T.pure, T.pureL, encL_pure, pureL_app, Bool.and_self, *]; done))
            · exact CvH_cons (CvB_c c0 (CvL.pure rfl)) (CvH_cons (CvB_c c1 (CvL.cons (Cv.slc rfl (.inl rfl)) CvL.nil)) (CvH_cons (CvB_c cb (CvL.pure (pureL_append (encL_pure cR _) g1))) (CvH_cons (CvB_c c3 (CvL.pure (pureL_append (encL_pure cR _) htl2))) trivial)))
            refine VC.drw tab_ok [] [_, _, _, _, _, _, _] rfl (by kernel_rfl) (by kernel_rfl) ?_
            first | refine VX.meek rfl ?_ | refine VX.loadI rfl rfl au_l ?_ | refine VX.loadP rfl rfl rfl au_l ?_ | refine VX.loadP rfl rfl b1 rfl ?_ | refine VX.loadP rfl rfl b1 au_l ?_ | refine VX.loadP rfl rfl bn rfl ?_ | refine VX.loadP rfl rfl bn au_l ?_
            iterate 2 refine VX.meek rfl ?_
            refine VX.slcP rfl rfl rfl rfl rfl rfl rfl rfl rfl (by omega) (by rw [hnl]; omega) ?_
            first | refine VX.meek rfl ?_ | refine VX.loadI rfl rfl au_l ?_ | refine VX.loadP rfl rfl rfl au_l ?_ | refine VX.loadP rfl rfl b1 rfl ?_ | refine VX.loadP rfl rfl b1 au_l ?_ | refine VX.loadP rfl rfl bn rfl ?_ | refine VX.loadP rfl rfl bn au_l ?_
            refine VX.meek rfl ?_
            refine VX.slcP rfl rfl rfl rfl rfl rfl rfl rfl rfl (by rw [hnl]; omega) (Nat.le_refl _) ?_
            refine VX.nil ?_
            refine VX.callB rfl rfl (alike_p (out.drop above) (newR (ysOf all)[i]! (ysOf all)[i + 1]! rw') (fun r h => (hO.2.2.2.2.2.2.1 r (List.mem_of_mem_drop h)).1) (by rw [List.length_drop]; omega)) rfl (CvL.cons (Cv.pcT (xs := encL cR (out.take above)) (ys := encL cR (newR (ysOf all)[i]! (ysOf all)[i + 1]! rw') ++ tlb) ⟨rfl, by simp⟩ (by rw [← encL_append, List.take_append_drop, encL_append, List.append_assoc]) (by rw [encL_len, cR_sz, List.length_take, Nat.min_eq_left hab]) (by rw [encL_len, cR_sz]) (by rw [List.length_drop]) hab (by rw [hnl]; omega) (encL_pure cR _)) (CvL.cons (Cv.pcT (xs := encL cR out) (ys := tlb) ⟨rfl, by simp⟩ (by rw [encL_append]) (by rw [encL_len, cR_sz]) (by rw [encL_len, cR_sz]) (by rw [hnl, newR_len]; omega) (by rw [hnl]; omega) (Nat.le_refl _) (encL_pure cR _)) CvL.nil)) ?_
            refine VX.nil ?_
            refine VC.cond rfl (fun hc5 => ?_) (fun hc5 => ?_)
            · have hnxt := (OfR.next hO hi1 hr hM3 hstop hsX).1 hc5
              refine VC.seq ?_
              refine VC.reg tab_ok [] rfl ?_
              iterate 2 refine VX.meek rfl ?_
              refine VX.nil ?_
              refine VC.block ?_
              refine VC.loopS2 (σ1 := Nat) (σ2 := List Rect) (fun j _ => out.length - j) (fun j m => HghR out (newR (ysOf all)[i]! (ysOf all)[i + 1]! rw') above ((ysOf all)[i + 1]! - (ysOf all)[i]!) j m) (fun j _ => [(17, I64 j)]) (fun _ m => [.c [NIL], .c [.slc 2 0 (out ++ newR (ysOf all)[i]! (ysOf all)[i + 1]! rw').length 4 none], .c (encL cR m ++ tlb), .c (encL cR rw' ++ tl2)]) [2, 3, 6, 7, 8, 9, 10, 11, 12, 13, 15] rfl (above) ((out ++ newR (ysOf all)[i]! (ysOf all)[i + 1]! rw')) ?_ ?_ ?_
              · refine ⟨[some 0, some 1, some 2, some 3], rfl, by first | trivial | decide, rfl, ?_, ?_⟩ <;> (repeat' first | exact trivial | exact CvB_n | exact CvB_d | refine CvE_app ?_ ?_ | refine CvE_cons rfl ?_ ?_ | refine CvH_cons ?_ ?_ | refine CvB_c rfl ?_ | fail) <;> first | exact au_v | (first | exact CvL.cons (Cv.slc rfl (.inl rfl)) CvL.nil | exact CvL.pure (pureL_append (encL_pure cR _) (by assumption)))
              · exact HghR.start _ _ _ _ hab
              rintro j m hH; have hml := hH.len
              refine VC.seq ?_
              refine VC.reg tab_ok [] rfl ?_
              iterate 3 refine VX.meek rfl ?_
              refine VX.nil ?_
              refine VC.cond rfl (fun hc6 => ?_) (fun hc6 => ?_)
              · (try simp only [au_std] at hc6); have hj : j < out.length := (by omega); have hmj := hH.at hj; have hrj := (hO.2.2.2.2.2.2.1 out[j]! (List.mem_iff_getElem?.2 ⟨j, getE hj⟩)).1; rw [← hmj] at hrj; unfold rok at hrj; have hjm : j < m.length := (by omega)
                refine VC.skip ?_
                refine VC.seq ?_
                refine VC.block ?_
                refine VC.drwN tab_ok [] [_, _, _, _, _, _, _, _, _, _, _] rfl (by kernel_rfl) (by kernel_rfl) ?_
                first | refine VX.meek rfl ?_ | refine VX.loadI rfl rfl au_l ?_ | refine VX.loadP rfl rfl rfl au_l ?_ | refine VX.loadP rfl rfl b1 rfl ?_ | refine VX.loadP rfl rfl b1 au_l ?_ | refine VX.loadP rfl rfl bn rfl ?_ | refine VX.loadP rfl rfl bn au_l ?_
                refine VX.meek rfl ?_
                first | refine VX.idxI rfl rfl rfl rfl rfl rfl (by omega) ?_ | refine VX.idxO0 rfl rfl rfl rfl rfl rfl rfl (by omega) ?_ | refine VX.idxO0 rfl rfl rfl rfl rfl rfl au_z (by omega) ?_ | refine VX.idxO rfl rfl rfl rfl rfl rfl rfl (by omega) ?_ | refine VX.idxI rfl rfl rfl rfl rfl au_z (by omega) ?_ | refine VX.idxO rfl rfl rfl rfl rfl rfl au_z (by omega) ?_ | refine VX.meek rfl ?_
                refine VX.meek rfl ?_
                first | refine VX.meek rfl ?_ | refine VX.loadI rfl rfl au_l ?_ | refine VX.loadP rfl rfl rfl au_l ?_ | refine VX.loadP rfl rfl b1 rfl ?_ | refine VX.loadP rfl rfl b1 au_l ?_ | refine VX.loadP rfl rfl bn rfl ?_ | refine VX.loadP rfl rfl bn au_l ?_
                first | refine VX.meek rfl ?_ | refine VX.loadI rfl rfl au_l ?_ | refine VX.loadP rfl rfl rfl au_l ?_ | refine VX.loadP rfl rfl b1 rfl ?_ | refine VX.loadP rfl rfl b1 au_l ?_ | refine VX.loadP rfl rfl bn rfl ?_ | refine VX.loadP rfl rfl bn au_l ?_
                first | refine VX.meek rfl ?_ | refine VX.loadI rfl rfl au_l ?_ | refine VX.loadP rfl rfl rfl au_l ?_ | refine VX.loadP rfl rfl b1 rfl ?_ | refine VX.loadP rfl rfl b1 au_l ?_ | refine VX.loadP rfl rfl bn rfl ?_ | refine VX.loadP rfl rfl bn au_l ?_
                first | refine VX.sub rfl rfl (by omega) ?_ | refine VX.meek rfl ?_
                first | refine VX.add rfl rfl (by omega) ?_ | refine VX.meek rfl ?_
                first | refine VX.idxI rfl rfl rfl rfl rfl rfl (by omega) ?_ | refine VX.idxO0 rfl rfl rfl rfl rfl rfl rfl (by omega) ?_ | refine VX.idxO0 rfl rfl rfl rfl rfl rfl au_z (by omega) ?_ | refine VX.idxO rfl rfl rfl rfl rfl rfl rfl (by omega) ?_ | refine VX.idxI rfl rfl rfl rfl rfl au_z (by omega) ?_ | refine VX.idxO rfl rfl rfl rfl rfl rfl au_z (by omega) ?_ | refine VX.meek rfl ?_
                refine VX.meek rfl ?_
                refine VX.nil ?_
                refine VX.store rfl rfl rfl rfl rfl au_sR rfl ?_
                refine VX.nil ?_
                refine VC.regN tab_ok [] rfl ?_
                refine VX.meek rfl ?_
                first | refine VX.add rfl rfl (by omega) ?_ | refine VX.meek rfl ?_
                refine VX.meek rfl ?_
                refine VX.nil ?_
                refine ⟨j + 1, m.set j { m[j]! with H := m[j]!.H + ((ysOf all)[i + 1]! - (ysOf all)[i]!) }, by (try dsimp only); omega, ?_, (by refine ⟨[some 0, some 1, some 2, some 3], rfl, by first | trivial | decide, rfl, ?_, ?_⟩ <;> (repeat' first | exact trivial | exact CvB_n | exact CvB_d | refine CvE_app ?_ ?_ | refine CvE_cons rfl ?_ ?_ | refine CvH_cons ?_ ?_ | refine CvB_c rfl ?_ | fail) <;> first | exact au_v | (first | exact CvL.cons (Cv.slc rfl (.inl rfl)) CvL.nil | exact CvL.eq (encL_putA cR (getE hjm) (Nat.le_of_ble_eq_true rfl) rfl) (pureL_append (encL_pure cR _) g1) | exact CvL.pure (pureL_append (encL_pure cR _) htl2)))⟩
                exact hH.next hj
              · (try simp only [au_std] at hc6); obtain ⟨hje, hme⟩ := hH.done (by omega); have hml2 : out.length = (out.take above ++ (out.drop above).map (fun r : Rect => { r with H := r.H + ((ysOf all)[i + 1]! - (ysOf all)[i]!) })).length := (by simp only [List.length_append, List.length_take, List.length_map, List.length_drop]; omega); have hm2 : encL cR m ++ tlb = encL cR (out.take above ++ (out.drop above).map (fun r : Rect => { r with H := r.H + ((ysOf all)[i + 1]! - (ysOf all)[i]!) })) ++ (encL cR (newR (ysOf all)[i]! (ysOf all)[i + 1]! rw') ++ tlb) := (by rw [hme, encL_append, List.append_assoc])
                refine VC.exit ?_
                refine VC.regN tab_ok [] rfl ?_
                first | refine VX.meek rfl ?_ | refine VX.loadI rfl rfl au_l ?_ | refine VX.loadP rfl rfl rfl au_l ?_ | refine VX.loadP rfl rfl b1 rfl ?_ | refine VX.loadP rfl rfl b1 au_l ?_ | refine VX.loadP rfl rfl bn rfl ?_ | refine VX.loadP rfl rfl bn au_l ?_
                refine VX.meek rfl ?_
                first | refine VX.slcO0 rfl rfl rfl rfl rfl rfl (by first | rfl | exact (Int.toNat_of_nonneg (by omega)).symm) (by omega) ?_ | refine VX.slcI0 rfl rfl rfl rfl rfl (by first | rfl | exact (Int.toNat_of_nonneg (by omega)).symm) (by omega) ?_ | refine VX.meek rfl ?_
                refine VX.store rfl rfl rfl rfl rfl au_sR rfl ?_
                refine VX.nil ?_
                refine VC.regN tab_ok [] rfl ?_
                refine VX.meek rfl ?_
                first | refine VX.add rfl rfl (by omega) ?_ | refine VX.meek rfl ?_
                refine VX.meek rfl ?_
                refine VX.nil ?_
                refine ⟨i + 1, (out.take above ++ (out.drop above).map (fun r : Rect => { r with H := r.H + ((ysOf all)[i + 1]! - (ysOf all)[i]!) })), above, nx, rw', (encL cR (newR (ysOf all)[i]! (ysOf all)[i + 1]! rw') ++ tlb), tl2, by (try dsimp only); omega, ?_, (by refine ⟨[some 0, some 1, some 2, some 3], rfl, by first | trivial | decide, rfl, ?_, ?_⟩ <;> (repeat' first | exact trivial | exact CvB_n | exact CvB_d | refine CvE_app ?_ ?_ | refine CvE_cons rfl ?_ ?_ | refine CvH_cons ?_ ?_ | refine CvB_c rfl ?_ | fail) <;> first | exact au_v | (first | exact CvL.cons (Cv.slcE rfl hml2 (.inl rfl)) CvL.nil | exact CvL.eq hm2 (pureL_append (encL_pure cR _) (pureL_append (encL_pure cR _) g1)) | exact CvL.pure (pureL_append (encL_pure cR _) htl2)))⟩
                exact ⟨hnxt, by first | exact g1 | exact pureL_append (encL_pure cR _) g1, htl2⟩
            · have hnxt := (OfR.next hO hi1 hr hM3 hstop hsX).2 hc5
              refine VC.regN tab_ok [] rfl ?_
              iterate 2 refine VX.meek rfl ?_
              refine VX.nil ?_
              refine VC.regN tab_ok [] rfl ?_
              refine VX.meek rfl ?_
              first | refine VX.add rfl rfl (by omega) ?_ | refine VX.meek rfl ?_
              refine VX.meek rfl ?_
              refine VX.nil ?_
              refine ⟨i + 1, (out ++ newR (ysOf all)[i]! (ysOf all)[i + 1]! rw'), out.length, nx, rw', tlb, tl2, by (try dsimp only); omega, ?_, (by refine ⟨[some 0, some 1, some 2, some 3], rfl, by first | trivial | decide, rfl, ?_, ?_⟩ <;> (repeat' first | exact trivial | exact CvB_n | exact CvB_d | refine CvE_app ?_ ?_ | refine CvE_cons rfl ?_ ?_ | refine CvH_cons ?_ ?_ | refine CvB_c rfl ?_ | fail) <;> first | exact au_v | (first | exact CvL.cons (Cv.slc rfl (.inl rfl)) CvL.nil | exact CvL.pure (pureL_append (encL_pure cR _) g1) | exact CvL.pure (pureL_append (encL_pure cR _) htl2)))⟩
              exact ⟨hnxt, by first | exact g1 | exact pureL_append (encL_pure cR _) g1, htl2⟩
    · (try simp only [au_std] at hc2); have hd := hO.done (by omega); have hb : out = bandOf l := bandOf_eq hd.1 (fun x z => (hd.2 x z).trans (hin x z))
      refine VC.exit ?_
      refine VC.reg tab_ok [] rfl ?_
      first | refine VX.meek rfl ?_ | refine VX.loadI rfl rfl au_l ?_ | refine VX.loadP rfl rfl rfl au_l ?_ | refine VX.loadP rfl rfl b1 rfl ?_ | refine VX.loadP rfl rfl b1 au_l ?_ | refine VX.loadP rfl rfl bn rfl ?_ | refine VX.loadP rfl rfl bn au_l ?_
      refine VX.callT rfl rfl (CallT.frame (clip_t out.length (encL cR out ++ tlo)) [2] rfl au_ci au_ci ?_)
      rintro _ _ ⟨rfl, rfl⟩
      refine frK au_co au_co ?_
      refine VX.meek rfl ?_
      refine VX.store rfl rfl rfl rfl rfl au_sR rfl ?_
      refine VX.nil ?_
      refine VC.ret ?_
      refine ⟨trivial, _, rfl, ?_⟩; rw [← hb]; exact Cv.agg (CvL.cons (Cv.fslcA ⟨rfl, by simp⟩ (CvL.pure (encL_pure cR _))) CvL.nil)
end
section
open Go.RowKit Go.Sort
set_option maxRecDepth 10000
theorem CallP.empty [Dr] {P : Program} {f : FuncId} {r : T} (h : ∀ A k, CallP P f [.v (.slice A 0 k)] r) : CallP P f [.islc [] 0 none] r :=
  ⟨rfl, (h none 0).2.1, (h none 0).2.2.1, fun X0 M us hS hr => by
    obtain ⟨u, q, rfl, ⟨A, k, rfl, h2⟩, hq⟩ := hr
    exact (h A k).2.2.2 X0 M _ hS ⟨_, q, rfl, rfl, hq⟩⟩
theorem clone_p [Dr] (l : List Rect) (hl : l.length ≤ 1048576) : CallP Tryz.prog 77 [.islc (encL cR l) l.length none] (.islc (encL cR l) l.length none) := by
  cases l with
  | nil =>
    refine CallP.empty fun A k => ?_
    cases A with
    | none =>
      refine CallP.intro2 au_pu au_pu ?_
      refine CallT.intro tab_ok Tryz.func77 rfl (by kernel_rfl) (Nat.le_of_ble_eq_true rfl) ?_
      refine VC.reg tab_ok [] rfl ?_
      refine VX.meek rfl ?_
      refine VX.nil ?_
      refine VC.seq ?_
      refine VC.reg tab_ok [] rfl ?_
      iterate 2 refine VX.meek rfl ?_
      refine VX.nil ?_
      refine VC.condT rfl ?_
      refine VC.reg tab_ok [] rfl ?_
      refine VX.meek rfl ?_
      refine VX.nil ?_
      refine VC.ret ?_
      exact ⟨trivial, _, rfl, Cv.nil _ (.inl rfl)⟩
    | some a =>
      refine CallP.intro2 au_pu au_pu ?_
      refine CallT.intro tab_ok Tryz.func77 rfl (by kernel_rfl) (Nat.le_of_ble_eq_true rfl) ?_
      refine VC.reg tab_ok [] rfl ?_
      refine VX.meek rfl ?_
      refine VX.nil ?_
      refine VC.seq ?_
      refine VC.reg tab_ok [] rfl ?_
      iterate 2 refine VX.meek rfl ?_
      refine VX.nil ?_
      refine VC.condF rfl ?_
      refine VC.skip ?_
      refine VC.reg tab_ok [] rfl ?_
      refine VX.new rfl rfl ?_
      refine VX.meek rfl ?_
      first | refine VX.appendNil rfl rfl rfl rfl rfl rfl au_sR au_sR au_sR ?_ | refine VX.append rfl rfl rfl rfl rfl rfl rfl rfl au_sR au_sR au_sR au_sR au_sR ?_
      refine VX.meek rfl ?_
      refine VX.nil ?_
      refine VC.ret ?_
      exact ⟨trivial, _, rfl, Cv.fslc0 ⟨rfl, by simp⟩ CvL.nil⟩
  | cons r l =>
    simp only [List.length_cons] at hl
    refine CallP.intro2 au_pu au_pu ?_
    refine CallT.intro tab_ok Tryz.func77 rfl (by kernel_rfl) (Nat.le_of_ble_eq_true rfl) ?_
    refine VC.reg tab_ok [] rfl ?_
    refine VX.meek rfl ?_
    refine VX.nil ?_
    refine VC.seq ?_
    refine VC.reg tab_ok [] rfl ?_
    iterate 2 refine VX.meek rfl ?_
    refine VX.nil ?_
    refine VC.condF rfl ?_
    refine VC.skip ?_
    refine VC.reg tab_ok [] rfl ?_
    refine VX.new rfl rfl ?_
    refine VX.meek rfl ?_
    refine VX.append rfl rfl rfl rfl rfl rfl (src_isl cR (l := r :: l) rfl rfl rfl) rfl (Nat.le_refl _) (by dsimp only [List.length_cons]; omega) (by simp only [List.length_cons]; omega) (by rw [encL_len]; rfl) (encL_cb cR _) ?_
    refine VX.meek rfl ?_
    refine VX.nil ?_
    refine VC.ret ?_
    refine ⟨trivial, _, rfl, ?_⟩; show Cv _ (.slc _ 0 (0 + (r :: l).length) 4 none) _; rw [Nat.zero_add]; exact Cv.fslc0 ⟨rfl, by simp⟩ (CvL.pure (encL_pure cR _))
theorem rects_p [Dr] (l : List Rect) (hl : l.length ≤ 1048576) : CallP Tryz.prog 41 [regT l] (.islc (encL cR l) l.length none) := by
  refine CallP.intro2 au_pu au_pu ?_
  refine CallT.intro tab_ok Tryz.func41 rfl (by kernel_rfl) (Nat.le_of_ble_eq_true rfl) ?_
  refine VC.reg tab_ok [1] rfl ?_
  refine VX.newI rfl rfl ?_
  refine VX.meek rfl ?_
  refine VX.nil ?_
  refine VC.reg tab_ok [] rfl ?_
  refine VX.meek rfl ?_
  first | refine VX.meek rfl ?_ | refine VX.loadI rfl rfl au_l ?_ | refine VX.loadP rfl rfl rfl au_l ?_
  refine VX.callP0 rfl rfl rfl (clone_p l hl) ?_
  refine VX.meek rfl ?_
  refine VX.nil ?_
  refine VC.ret ?_
  exact ⟨trivial, _, rfl, Cv.pure (encL_pure cR _)⟩
end
section
open Go.RowKit Go.Sort
set_option maxRecDepth 10000
set_option maxHeartbeats 4000000
def endsF (f : Rect → Int × Int) (l : List Rect) : List Int := l.flatMap fun r => [(f r).1, (f r).1 + (f r).2]
def cutsOf (f : Rect → Int × Int) (l : List Rect) : List Int := comp (sortI (endsF f l))
theorem endsF_len (f : Rect → Int × Int) (l : List Rect) : (endsF f l).length = 2 * l.length := by
  induction l with
  | nil => rfl
  | cons r l ih => simp only [endsF, List.flatMap_cons, List.length_append, List.length_cons, List.length_nil] at ih ⊢; omega
theorem endsF_app (f : Rect → Int × Int) (a b : List Rect) : endsF f (a ++ b) = endsF f a ++ endsF f b := by unfold endsF; rw [List.flatMap_append]
theorem endsF_snoc (f : Rect → Int × Int) (l : List Rect) (r : Rect) : endsF f (l ++ [r]) = endsF f l ++ [(f r).1, (f r).1 + (f r).2] := by rw [endsF_app]; rfl
theorem flat_at {lists : List (List Rect)} {k : Nat} (h : k < lists.length) : (lists.take (k + 1)).flatten = (lists.take k).flatten ++ lists[k]! := by rw [take_snoc h, List.flatten_append]; simp
theorem flat_le {lists : List (List Rect)} {k : Nat} (h : k < lists.length) : (lists.take k).flatten.length + lists[k]!.length ≤ lists.flatten.length := by
  have e : lists.flatten = (lists.take (k + 1)).flatten ++ (lists.drop (k + 1)).flatten := by rw [← List.flatten_append, List.take_append_drop]
  rw [e, flat_at h, List.length_append, List.length_append]; omega
theorem app_ends {l : List Int} {tl : List T} {x y : Int} {n : Nat} (hn : n = l.length) : ((encL cI l ++ tl).drop 0).take (n * 1) ++ [I64 x, I64 y] = encL cI (l ++ [x, y]) ++ [] := by
  subst hn
  rw [List.append_nil, List.drop_zero, show l.length * 1 = (encL cI l).length from by rw [encL_len, cI_sz], List.take_left, encL_append]
  rfl
theorem cuts_p [Dr] (f : Rect → Int × Int) (g : FuncId) (hg : ∀ r, CallP Tryz.prog g [rectT r] (.tup [I64 (f r).1, I64 (f r).2])) (lists : List (List Rect)) (hl : lists.length ≤ 16) (hn : lists.flatten.length ≤ 2097152) (hr : ∀ r ∈ lists.flatten, -1048576 ≤ (f r).1 ∧ (f r).1 ≤ 1048576 ∧ 0 ≤ (f r).2 ∧ (f r).2 ≤ 2097152) :
    CallP Tryz.prog 84 [.clo g [] [], .islc (encL cLR lists) lists.length none] (.islc (encL cI (cutsOf f lists.flatten)) (cutsOf f lists.flatten).length none) := by
  have hlen := sortI_len (endsF f lists.flatten)
  have hel := endsF_len f lists.flatten
  refine CallP.intro2 au_pu au_pu ?_
  refine CallT.intro tab_ok Tryz.func84 rfl (by kernel_rfl) (Nat.le_of_ble_eq_true rfl) ?_
  refine VC.reg tab_ok [] rfl ?_
  refine VX.meek rfl ?_
  refine VX.nil ?_
  refine VC.reg tab_ok [] rfl ?_
  refine VX.meek rfl ?_
  refine VX.nil ?_
  refine VC.seq ?_
  refine VC.reg tab_ok [] rfl ?_
  iterate 3 refine VX.meek rfl ?_
  refine VX.nil ?_
  refine VC.block ?_
  refine VC.loopS2 (σ1 := Nat) (σ2 := List T) (fun k _ => lists.length - k) (fun k tl => k ≤ lists.length ∧ T.pureL tl = true) (fun k _ => [(14, I64 k), (5, .slc 0 0 (endsF f (lists.take k).flatten).length 1 none)]) (fun k tl => [.c (encL cI (endsF f (lists.take k).flatten) ++ tl)]) [0, 12, 13] rfl (0) ([]) ?_ ?_ ?_
  · refine ⟨[none], rfl, by first | trivial | decide, rfl, ?_, ?_⟩ <;> (repeat' first | exact trivial | exact CvB_n | exact CvB_d | refine CvE_app ?_ ?_ | refine CvE_cons rfl ?_ ?_ | refine CvH_cons ?_ ?_ | refine CvB_c rfl ?_ | fail) <;> first | exact au_v | (skip)
  · exact ⟨by omega, rfl⟩
  rintro k tl ⟨hk, htl⟩
  refine VC.reg tab_ok [] rfl ?_
  refine VX.meek rfl ?_
  refine VX.nil ?_
  refine VC.seq ?_
  refine VC.cond rfl (fun hc0 => ?_) (fun hc0 => ?_)
  · (try simp only [au_std] at hc0); have hkl : k < lists.length := (by omega); have hfl := flat_le hkl; have hfa := flat_at hkl
    refine VC.skip ?_
    refine VC.seq ?_
    refine VC.block ?_
    refine VC.reg tab_ok [] rfl ?_
    first | refine VX.idxI rfl rfl rfl rfl rfl rfl (by omega) ?_ | refine VX.idxO0 rfl rfl rfl rfl rfl rfl rfl (by omega) ?_ | refine VX.idxO0 rfl rfl rfl rfl rfl rfl au_z (by omega) ?_ | refine VX.idxO rfl rfl rfl rfl rfl rfl rfl (by omega) ?_ | refine VX.idxI rfl rfl rfl rfl rfl au_z (by omega) ?_ | refine VX.idxO rfl rfl rfl rfl rfl rfl au_z (by omega) ?_ | refine VX.meek rfl ?_
    first | refine VX.meek rfl ?_ | refine VX.loadI rfl rfl au_l ?_ | refine VX.loadP rfl rfl rfl au_l ?_
    refine VX.meek rfl ?_
    refine VX.nil ?_
    refine VC.reg tab_ok [] rfl ?_
    iterate 3 refine VX.meek rfl ?_
    refine VX.nil ?_
    refine VC.block ?_
    refine VC.loopS2 (σ1 := Nat) (σ2 := List T) (fun j _ => lists[k]!.length - j) (fun j tl => j ≤ lists[k]!.length ∧ T.pureL tl = true) (fun j _ => [(20, I64 j), (5, .slc 0 0 (endsF f ((lists.take k).flatten ++ lists[k]!.take j)).length 1 none)]) (fun j tl => [.c (encL cI (endsF f ((lists.take k).flatten ++ lists[k]!.take j)) ++ tl)]) [0, 12, 13, 14, 18, 19] rfl (0) (tl) ?_ ?_ ?_
    · refine ⟨[some 0], rfl, by first | trivial | decide, rfl, ?_, ?_⟩ <;> (repeat' first | exact trivial | exact CvB_n | exact CvB_d | refine CvE_app ?_ ?_ | refine CvE_cons rfl ?_ ?_ | refine CvH_cons ?_ ?_ | refine CvB_c rfl ?_ | fail) <;> first | exact au_v | (first | exact Cv.slcE rfl (by simp) (.inl rfl) | exact CvL.eq (by simp) (pureL_append (encL_pure cI _) htl))
    · exact ⟨by omega, htl⟩
    rintro j tl2 ⟨hj, htl2⟩
    refine VC.reg tab_ok [] rfl ?_
    refine VX.meek rfl ?_
    refine VX.nil ?_
    refine VC.seq ?_
    refine VC.cond rfl (fun hc1 => ?_) (fun hc1 => ?_)
    · (try simp only [au_std] at hc1); have hjl : j < lists[k]!.length := (by omega); have hrm : lists[k]![j]! ∈ lists.flatten := List.mem_flatten.2 ⟨lists[k]!, List.mem_iff_getElem?.2 ⟨k, getE hkl⟩, List.mem_iff_getElem?.2 ⟨j, getE hjl⟩⟩; have hrr := hr _ hrm; have hsn := take_snoc hjl; have hes := endsF_snoc f ((lists.take k).flatten ++ lists[k]!.take j) lists[k]![j]!; rw [List.append_assoc, ← hsn] at hes; have hle := endsF_len f ((lists.take k).flatten ++ lists[k]!.take j); have hlt : ((lists.take k).flatten ++ lists[k]!.take j).length ≤ 2097152 := (by rw [List.length_append, List.length_take]; omega)
      refine VC.skip ?_
      refine VC.seq ?_
      refine VC.block ?_
      refine VC.reg tab_ok [] rfl ?_
      first | refine VX.idxI rfl rfl rfl rfl rfl rfl (by omega) ?_ | refine VX.idxO0 rfl rfl rfl rfl rfl rfl rfl (by omega) ?_ | refine VX.idxO0 rfl rfl rfl rfl rfl rfl au_z (by omega) ?_ | refine VX.idxO rfl rfl rfl rfl rfl rfl rfl (by omega) ?_ | refine VX.idxI rfl rfl rfl rfl rfl au_z (by omega) ?_ | refine VX.idxO rfl rfl rfl rfl rfl rfl au_z (by omega) ?_ | refine VX.meek rfl ?_
      first | refine VX.meek rfl ?_ | refine VX.loadI rfl rfl au_l ?_ | refine VX.loadP rfl rfl rfl au_l ?_
      refine VX.new rfl rfl ?_
      refine VX.store rfl rfl rfl rfl rfl au_sR rfl ?_
      refine VX.nil ?_
      refine VC.reg tab_ok [] rfl ?_
      refine VX.meek rfl ?_
      first | refine VX.meek rfl ?_ | refine VX.loadI rfl rfl au_l ?_ | refine VX.loadP rfl rfl rfl au_l ?_
      refine VX.callP0 rfl rfl rfl (hg lists[k]![j]!) ?_
      iterate 5 refine VX.meek rfl ?_
      refine VX.nil ?_
      refine VC.regN tab_ok [35] rfl ?_
      iterate 4 refine VX.meek rfl ?_
      first | refine VX.add rfl rfl (by omega) ?_ | refine VX.meek rfl ?_
      refine VX.newI rfl rfl ?_
      first | refine VX.appendNil rfl rfl rfl rfl rfl rfl au_sR au_sR au_sR ?_ | refine VX.append rfl rfl rfl rfl rfl rfl rfl rfl au_sR au_sR au_sR au_sR au_sR ?_
      refine VX.meek rfl ?_
      refine VX.nil ?_
      refine VC.regN tab_ok [] rfl ?_
      first | refine VX.add rfl rfl (by omega) ?_ | refine VX.meek rfl ?_
      refine VX.meek rfl ?_
      refine VX.nil ?_
      refine ⟨j + 1, [], by (try dsimp only); omega, ?_, (by refine ⟨[some 2], rfl, by first | trivial | decide, rfl, ?_, ?_⟩ <;> (repeat' first | exact trivial | exact CvB_n | exact CvB_d | refine CvE_app ?_ ?_ | refine CvE_cons rfl ?_ ?_ | refine CvH_cons ?_ ?_ | refine CvB_c rfl ?_ | fail) <;> first | exact au_v | (first | exact Cv.slcE rfl (by rw [hes, List.length_append]; rfl) (.inl rfl) | (rw [hes]; exact CvL.eq (app_ends rfl) (by rw [List.append_nil]; exact encL_pure cI _))))⟩
      exact ⟨by omega, rfl⟩
    · (try simp only [au_std] at hc1); obtain rfl : j = lists[k]!.length := (by omega); rw [List.take_length]
      refine VC.exit ?_
      refine VC.regN tab_ok [] rfl ?_
      first | refine VX.add rfl rfl (by omega) ?_ | refine VX.meek rfl ?_
      refine VX.meek rfl ?_
      refine VX.nil ?_
      refine ⟨k + 1, tl2, by (try dsimp only); omega, ?_, (by refine ⟨[some 0], rfl, by first | trivial | decide, rfl, ?_, ?_⟩ <;> (repeat' first | exact trivial | exact CvB_n | exact CvB_d | refine CvE_app ?_ ?_ | refine CvE_cons rfl ?_ ?_ | refine CvH_cons ?_ ?_ | refine CvB_c rfl ?_ | fail) <;> first | exact au_v | (first | exact Cv.slcE rfl (by rw [hfa]) (.inl rfl) | (rw [hfa]; exact CvL.pure (pureL_append (encL_pure cI _) htl2))))⟩
      exact ⟨by omega, htl2⟩
  · (try simp only [au_std] at hc0); obtain rfl : k = lists.length := (by omega); rw [List.take_length]
    refine VC.exit ?_
    refine VC.reg tab_ok [] rfl ?_
    refine VX.meek rfl ?_
    refine VX.callT rfl rfl (CallT.frame (sortI_any (endsF f lists.flatten) tl (by omega) htl) [0] rfl au_ci au_ci ?_)
    rintro _ _ ⟨rfl, rfl⟩
    refine frK au_co au_co ?_
    refine VX.nil ?_
    refine VC.reg tab_ok [] rfl ?_
    refine VX.meek rfl ?_
    refine VX.callT rfl rfl (CallT.frame (compact_n (endsF f lists.flatten).length (sortI (endsF f lists.flatten)) tl none hlen (by omega) htl) [0] rfl au_ci au_ci ?_)
    rintro _ _ ⟨tl', c', h1, rfl, rfl⟩
    refine frK au_co au_co ?_
    refine VX.meek rfl ?_
    refine VX.nil ?_
    refine VC.ret ?_
    exact ⟨trivial, _, rfl, Cv.fslcA ⟨rfl, by simp⟩ (CvL.pure (encL_pure cI _))⟩
theorem join1_p [Dr] (r : Rect) : CallP Tryz.prog 85 [rectT r] (.tup [I64 r.Y, I64 r.H]) := by
  refine CallP.intro2 au_pu au_pu ?_
  refine CallT.intro tab_ok Tryz.func85 rfl (by kernel_rfl) (Nat.le_of_ble_eq_true rfl) ?_
  refine VC.reg tab_ok [1] rfl ?_
  refine VX.newI rfl rfl ?_
  iterate 2 refine VX.meek rfl ?_
  refine VX.nil ?_
  refine VC.drw tab_ok [] [_, _, _, _, _, _] rfl (by kernel_rfl) (by kernel_rfl) ?_
  refine VX.meek rfl ?_
  first | refine VX.meek rfl ?_ | refine VX.loadI rfl rfl au_l ?_ | refine VX.loadP rfl rfl rfl au_l ?_
  refine VX.meek rfl ?_
  first | refine VX.meek rfl ?_ | refine VX.loadI rfl rfl au_l ?_ | refine VX.loadP rfl rfl rfl au_l ?_
  iterate 2 refine VX.meek rfl ?_
  refine VX.nil ?_
  refine VX.nil ?_
  refine VC.ret ?_
  exact ⟨trivial, _, rfl, Cv.eq (by first | rfl | (simp [*]; done)) rfl⟩
theorem join2_p [Dr] (r : Rect) : CallP Tryz.prog 87 [rectT r] (.tup [I64 r.X, I64 r.W]) := by
  refine CallP.intro2 au_pu au_pu ?_
  refine CallT.intro tab_ok Tryz.func87 rfl (by kernel_rfl) (Nat.le_of_ble_eq_true rfl) ?_
  refine VC.reg tab_ok [1] rfl ?_
  refine VX.newI rfl rfl ?_
  iterate 2 refine VX.meek rfl ?_
  refine VX.nil ?_
  refine VC.drw tab_ok [] [_, _, _, _, _, _] rfl (by kernel_rfl) (by kernel_rfl) ?_
  refine VX.meek rfl ?_
  first | refine VX.meek rfl ?_ | refine VX.loadI rfl rfl au_l ?_ | refine VX.loadP rfl rfl rfl au_l ?_
  refine VX.meek rfl ?_
  first | refine VX.meek rfl ?_ | refine VX.loadI rfl rfl au_l ?_ | refine VX.loadP rfl rfl rfl au_l ?_
  iterate 2 refine VX.meek rfl ?_
  refine VX.nil ?_
  refine VX.nil ?_
  refine VC.ret ?_
  exact ⟨trivial, _, rfl, Cv.eq (by first | rfl | (simp [*]; done)) rfl⟩
end
section
open Go.RowKit Go.Sort
set_option maxRecDepth 10000
set_option maxHeartbeats 4000000
section
variable {α : Type} (c : Cd α) {q : Bool} {P : Program} {tab : Tab} {im : List Nat} {ds : List (Option Nat)} {l : List Oper} {E : Env} {H : Hp} {K : Env → Hp → Prop} {d : Nat} {ty : TypeId} {pos : String} {after : Array Edge}
theorem VX.slcIR [Dr] {t e p : Nat} {x : Operand} {lo : Option Operand} {L : Option Int} {i j : TyI} {xs : List α} (hT : tab t = some i) (hk : i.k = .sl e) (hj : tab e = some j) (hx : E.opd x = some (.islc (encL c xs) xs.length none)) (hz : j.sz = c.sz) (hl : optI lo E.opd = some L)
    (hp : L.getD 0 = (p : Int)) (h1 : p ≤ xs.length) (k : VX q P tab im ds l ((d, .islc (encL c (xs.drop p)) (xs.drop p).length none) :: E) H K) : VX q P tab im ds (⟨some d, .slice t x lo none none, ty, pos, after, none⟩ :: l) E H K := by
  by_cases h : p = 0 ∨ p < xs.length
  · refine VX.slcI (Hh := none) (p := p) (r := xs.length) hT hk hj hx hl rfl rfl hp rfl h1 (Nat.le_refl _) h ?_
    have e1 : (encL c xs).drop (p * j.sz) = encL c (xs.drop p) := by rw [hz]; exact (encL_drop c xs p)
    have e2 : xs.length - p = (xs.drop p).length := by rw [List.length_drop]
    rw [e1, e2]; exact k
  · refine VX.meek (t := .islc [] 0 none) ?_ ?_
    · simp only [opM, hx, hl, mSlice, hT, hk, hj, show optI none E.opd = some none from rfl]
      rw [hp, show (none : Option Int).getD (xs.length : Int) = (xs.length : Int) from rfl, if_pos ⟨by omega, by omega, by omega⟩, if_neg (by omega)]
    · have : xs.drop p = [] := List.drop_of_length_le (by omega)
      rw [this] at k; exact k
end
theorem tw_len {p : Rect → Bool} : ∀ {m : List Rect} {n : Nat}, n ≤ m.length → (∀ i, i < n → p m[i]! = true) → (n < m.length → p m[n]! = false) → (m.takeWhile p).length = n
  | [], n, h, _, _ => by simp at h; subst h; rfl
  | r :: m, 0, h, h1, h2 => by
    have := h2 (by simp)
    rw [show (r :: m)[0]! = r from rfl] at this
    simp [List.takeWhile_cons, this]
  | r :: m, n + 1, h, h1, h2 => by
    have e : ∀ k, k < m.length → (r :: m)[k + 1]! = m[k]! := fun k hk => by rw [getElem!_pos (r :: m) (k + 1) (by simp; omega), getElem!_pos m k hk]; rfl
    have h0 := h1 0 (by omega)
    rw [show (r :: m)[0]! = r from rfl] at h0
    simp only [List.length_cons] at h h2
    have := tw_len (p := p) (m := m) (n := n) (by omega) (fun i hi => by rw [← e i (by omega)]; exact h1 (i + 1) (by omega)) (fun hn => by rw [← e n hn]; exact h2 (by omega))
    rw [List.takeWhile_cons, if_pos h0, List.length_cons, this]
def rowD (y : Int) (l : List Rect) : List Rect := l.dropWhile fun r => decide (r.Y + r.H ≤ y)
def rowT (y : Int) (l : List Rect) : List Rect := (rowD y l).takeWhile fun r => decide (r.Y ≤ y)
theorem dw_step {p : Rect → Bool} {m : List Rect} (h : 0 < m.length) (hp : p m[0]! = true) : (m.drop 1).dropWhile p = m.dropWhile p := by
  cases m with
  | nil => simp at h
  | cons r m => rw [show (r :: m)[0]! = r from rfl] at hp; simp [List.dropWhile_cons, hp]
theorem dw_stop {p : Rect → Bool} {m : List Rect} (h : 0 < m.length → p m[0]! = false) : m.dropWhile p = m := by
  cases m with
  | nil => rfl
  | cons r m => have := h (by simp); rw [show (r :: m)[0]! = r from rfl] at this; simp [List.dropWhile_cons, this]
theorem row_t [Dr] (y : Int) (l : List Rect) (hr : ∀ r ∈ l, rok r) (hn : l.length ≤ 1048576) : CallT Tryz.prog 86 [.ptr 0 0, I64 y] [.c [.islc (encL cR l) l.length none]]
    (fun t H' => t = .islc (encL cR (rowD y l)) (rowT y l).length none ∧ H' = [.c [.islc (encL cR (rowD y l)) (rowD y l).length none]]) := by
  refine CallT.intro tab_ok Tryz.func86 rfl (by kernel_rfl) (Nat.le_of_ble_eq_true rfl) ?_
  refine VC.reg tab_ok [] rfl ?_
  refine VX.meek rfl ?_
  refine VX.nil ?_
  refine VC.seq ?_
  refine VC.block ?_
  refine VC.loopS (σ := List Rect) (fun m => m.length) (fun m => rowD y m = rowD y l ∧ (∀ r ∈ m, rok r) ∧ m.length ≤ l.length) (fun _ => []) (fun m => [.c [.islc (encL cR m) m.length none]]) [0, 1] rfl (l) ?_ ?_ ?_
  · refine ⟨[some 0], rfl, by first | trivial | decide, rfl, ?_, ?_⟩ <;> (repeat' first | exact trivial | exact CvB_n | exact CvB_d | refine CvE_app ?_ ?_ | refine CvE_cons rfl ?_ ?_ | refine CvH_cons ?_ ?_ | refine CvB_c rfl ?_ | fail) <;> first | exact au_v | (exact CvL.cons (Cv.pure (encL_pure cR _)) CvL.nil)
  · exact ⟨rfl, hr, Nat.le_refl _⟩
  rintro m ⟨hm, hrm, hml⟩; have hr0 : 0 < m.length → rok m[0]! := fun h => hrm _ (List.mem_iff_getElem?.2 ⟨0, getE h⟩)
  refine VC.seq ?_
  refine VC.drw tab_ok [] [_, _, _, _, _, _, _, _, _, _, _, _, _, _, _, _, _, _, _, _, _, _, _, _, _] rfl (by kernel_rfl) (by kernel_rfl) ?_
  iterate 3 refine VX.meek rfl ?_
  first | refine VX.meek rfl ?_ | refine VX.loadI rfl rfl au_l ?_ | refine VX.loadP rfl rfl rfl au_l ?_
  iterate 3 refine VX.meek rfl ?_
  refine' VX.merge (d := 30) [_, _, _, _, _, _, _, _, _, _, _, _, _, _, _, _, _, _] rfl ?_ rfl ?_
  rotate_left
  · refine VX.guard rfl rfl (fun hb1_6 => ?_) (fun hb1_6 => ?_)
    · have ghb1_6 := hb1_6
      try simp only [au_std, Bool.not_true, Bool.not_false] at ghb1_6
      have hq0 := hr0 (by omega); unfold rok at hq0
      refine VX.meek rfl ?_
      refine VX.guardT rfl rfl hb1_6 ?_
      refine VX.meek rfl ?_
      refine VX.guardT rfl rfl hb1_6 ?_
      refine VX.meek rfl ?_
      refine VX.guardT rfl rfl hb1_6 ?_
      first | refine VX.meek rfl ?_ | refine VX.loadI rfl rfl au_l ?_ | refine VX.loadP rfl rfl rfl au_l ?_
      refine VX.guardT rfl rfl hb1_6 ?_
      first | refine VX.idxI (m := 0) rfl rfl rfl rfl rfl rfl (by omega) ?_ | refine VX.idxO (m := 0) rfl rfl rfl rfl rfl rfl rfl (by omega) ?_ | refine VX.meek rfl ?_
      refine VX.guardT rfl rfl hb1_6 ?_
      refine VX.meek rfl ?_
      refine VX.guardT rfl rfl hb1_6 ?_
      first | refine VX.meek rfl ?_ | refine VX.loadI rfl rfl au_l ?_ | refine VX.loadP rfl rfl rfl au_l ?_
      refine VX.guardT rfl rfl hb1_6 ?_
      refine VX.meek rfl ?_
      refine VX.guardT rfl rfl hb1_6 ?_
      refine VX.meek rfl ?_
      refine VX.guardT rfl rfl hb1_6 ?_
      refine VX.meek rfl ?_
      refine VX.guardT rfl rfl hb1_6 ?_
      first | refine VX.meek rfl ?_ | refine VX.loadI rfl rfl au_l ?_ | refine VX.loadP rfl rfl rfl au_l ?_
      refine VX.guardT rfl rfl hb1_6 ?_
      first | refine VX.idxI (m := 0) rfl rfl rfl rfl rfl rfl (by omega) ?_ | refine VX.idxO (m := 0) rfl rfl rfl rfl rfl rfl rfl (by omega) ?_ | refine VX.meek rfl ?_
      refine VX.guardT rfl rfl hb1_6 ?_
      refine VX.meek rfl ?_
      refine VX.guardT rfl rfl hb1_6 ?_
      first | refine VX.meek rfl ?_ | refine VX.loadI rfl rfl au_l ?_ | refine VX.loadP rfl rfl rfl au_l ?_
      refine VX.guardT rfl rfl hb1_6 ?_
      first | refine VX.add rfl rfl (by omega) ?_ | refine VX.meek rfl ?_
      refine VX.guardT rfl rfl hb1_6 ?_
      refine VX.meek rfl ?_
      refine VX.guardT rfl rfl hb1_6 ?_
      refine VX.meek rfl ?_
      refine VX.pickA rfl (fun _ => rfl) ?_
      exact VX.nil ⟨rfl, rfl⟩
    · refine VX.guardF rfl rfl hb1_6 ?_
      refine VX.guardF rfl rfl hb1_6 ?_
      refine VX.guardF rfl rfl hb1_6 ?_
      refine VX.guardF rfl rfl hb1_6 ?_
      refine VX.guardF rfl rfl hb1_6 ?_
      refine VX.guardF rfl rfl hb1_6 ?_
      refine VX.guardF rfl rfl hb1_6 ?_
      refine VX.guardF rfl rfl hb1_6 ?_
      refine VX.guardF rfl rfl hb1_6 ?_
      refine VX.guardF rfl rfl hb1_6 ?_
      refine VX.guardF rfl rfl hb1_6 ?_
      refine VX.guardF rfl rfl hb1_6 ?_
      refine VX.guardF rfl rfl hb1_6 ?_
      refine VX.guardF rfl rfl hb1_6 ?_
      refine VX.guardF rfl rfl hb1_6 ?_
      refine VX.guardF rfl rfl hb1_6 ?_
      exact VX.pickA rfl (fun h => absurd (h.symm.trans hb1_6) (by decide)) (VX.nil ⟨rfl, rfl⟩)
  refine VX.nil ?_
  refine VX.nil ?_
  refine VC.cond rfl (fun hc0 => ?_) (fun hc0 => ?_)
  · (try simp only [au_std] at hc0); have h0 : 0 < m.length := (by omega); have hdl : (m.drop 1).length = m.length - 1 := List.length_drop
    refine VC.skip ?_
    refine VC.block ?_
    refine VC.regN tab_ok [] rfl ?_
    iterate 4 refine VX.meek rfl ?_
    first | refine VX.meek rfl ?_ | refine VX.loadI rfl rfl au_l ?_ | refine VX.loadP rfl rfl rfl au_l ?_
    refine VX.slcIR cR (p := 1) rfl rfl rfl rfl rfl rfl rfl (by omega) ?_
    iterate 2 refine VX.meek rfl ?_
    refine VX.store rfl rfl rfl rfl rfl au_sR rfl ?_
    refine VX.nil ?_
    refine ⟨m.drop 1, by (try dsimp only); omega, ?_, (by refine ⟨[some 0], rfl, by first | trivial | decide, rfl, ?_, ?_⟩ <;> (repeat' first | exact trivial | exact CvB_n | exact CvB_d | refine CvE_app ?_ ?_ | refine CvE_cons rfl ?_ ?_ | refine CvH_cons ?_ ?_ | refine CvB_c rfl ?_ | fail) <;> first | exact au_v | (exact CvL.cons (Cv.pure (encL_pure cR _)) CvL.nil))⟩
    exact ⟨by rw [← hm]; exact dw_step h0 (decide_eq_true (by omega)), fun r h => hrm r (List.mem_of_mem_drop h), by rw [List.length_drop]; omega⟩
  · (try simp only [au_std] at hc0); have hmd : rowD y l = m := (by rw [← hm]; exact dw_stop fun h => by rw [decide_eq_false_iff_not]; have := hc0 (by omega); omega)
    refine VC.exit ?_
    refine VC.reg tab_ok [] rfl ?_
    refine VX.meek rfl ?_
    refine VX.nil ?_
    refine VC.seq ?_
    refine VC.block ?_
    refine VC.loopS (σ := Nat) (fun n => m.length - n) (fun n => n ≤ m.length ∧ ∀ i, i < n → m[i]!.Y ≤ y) (fun n => [(5, I64 n)]) (fun _ => [.c [.islc (encL cR m) m.length none]]) [0, 1] rfl (0) ?_ ?_ ?_
    · refine ⟨[some 0], rfl, by first | trivial | decide, rfl, ?_, ?_⟩ <;> (repeat' first | exact trivial | exact CvB_n | exact CvB_d | refine CvE_app ?_ ?_ | refine CvE_cons rfl ?_ ?_ | refine CvH_cons ?_ ?_ | refine CvB_c rfl ?_ | fail) <;> first | exact au_v | (exact CvL.cons (Cv.pure (encL_pure cR _)) CvL.nil)
    · exact ⟨by omega, fun i hi => by omega⟩
    rintro n ⟨hn1, hn2⟩
    refine VC.seq ?_
    refine VC.reg tab_ok [] rfl ?_
    iterate 4 refine VX.meek rfl ?_
    first | refine VX.meek rfl ?_ | refine VX.loadI rfl rfl au_l ?_ | refine VX.loadP rfl rfl rfl au_l ?_
    iterate 3 refine VX.meek rfl ?_
    refine' VX.merge (d := 57) [_, _, _, _, _, _, _, _, _, _, _] rfl ?_ rfl ?_
    rotate_left
    · refine VX.guard rfl rfl (fun hb4_7 => ?_) (fun hb4_7 => ?_)
      · have ghb4_7 := hb4_7
        try simp only [au_std, Bool.not_true, Bool.not_false] at ghb4_7
        refine VX.meek rfl ?_
        refine VX.guardT rfl rfl hb4_7 ?_
        refine VX.meek rfl ?_
        refine VX.guardT rfl rfl hb4_7 ?_
        refine VX.meek rfl ?_
        refine VX.guardT rfl rfl hb4_7 ?_
        first | refine VX.meek rfl ?_ | refine VX.loadI rfl rfl au_l ?_ | refine VX.loadP rfl rfl rfl au_l ?_
        refine VX.guardT rfl rfl hb4_7 ?_
        refine VX.meek rfl ?_
        refine VX.guardT rfl rfl hb4_7 ?_
        first | refine VX.idxI rfl rfl rfl rfl rfl rfl (by omega) ?_ | refine VX.idxO0 rfl rfl rfl rfl rfl rfl rfl (by omega) ?_ | refine VX.idxO0 rfl rfl rfl rfl rfl rfl au_z (by omega) ?_ | refine VX.idxO rfl rfl rfl rfl rfl rfl rfl (by omega) ?_ | refine VX.idxI rfl rfl rfl rfl rfl au_z (by omega) ?_ | refine VX.idxO rfl rfl rfl rfl rfl rfl au_z (by omega) ?_ | refine VX.meek rfl ?_
        refine VX.guardT rfl rfl hb4_7 ?_
        refine VX.meek rfl ?_
        refine VX.guardT rfl rfl hb4_7 ?_
        first | refine VX.meek rfl ?_ | refine VX.loadI rfl rfl au_l ?_ | refine VX.loadP rfl rfl rfl au_l ?_
        refine VX.guardT rfl rfl hb4_7 ?_
        refine VX.meek rfl ?_
        refine VX.guardT rfl rfl hb4_7 ?_
        refine VX.meek rfl ?_
        refine VX.pickA rfl (fun _ => rfl) ?_
        exact VX.nil ⟨rfl, rfl⟩
      · refine VX.guardF rfl rfl hb4_7 ?_
        refine VX.guardF rfl rfl hb4_7 ?_
        refine VX.guardF rfl rfl hb4_7 ?_
        refine VX.guardF rfl rfl hb4_7 ?_
        refine VX.guardF rfl rfl hb4_7 ?_
        refine VX.guardF rfl rfl hb4_7 ?_
        refine VX.guardF rfl rfl hb4_7 ?_
        refine VX.guardF rfl rfl hb4_7 ?_
        refine VX.guardF rfl rfl hb4_7 ?_
        exact VX.pickA rfl (fun h => absurd (h.symm.trans hb4_7) (by decide)) (VX.nil ⟨rfl, rfl⟩)
    refine VX.nil ?_
    refine VC.cond rfl (fun hc1 => ?_) (fun hc1 => ?_)
    · (try simp only [au_std] at hc1); have hnl : n < m.length := (by omega)
      refine VC.skip ?_
      refine VC.block ?_
      refine VC.regN tab_ok [] rfl ?_
      refine VX.meek rfl ?_
      first | refine VX.add rfl rfl (by omega) ?_ | refine VX.meek rfl ?_
      refine VX.meek rfl ?_
      refine VX.nil ?_
      refine ⟨n + 1, by (try dsimp only); omega, ?_, (by refine ⟨[some 0], rfl, by first | trivial | decide, rfl, ?_, ?_⟩ <;> (repeat' first | exact trivial | exact CvB_n | exact CvB_d | refine CvE_app ?_ ?_ | refine CvE_cons rfl ?_ ?_ | refine CvH_cons ?_ ?_ | refine CvB_c rfl ?_ | fail) <;> first | exact au_v | (exact CvL.cons (Cv.pure (encL_pure cR _)) CvL.nil))⟩
      exact ⟨by omega, fun i hi => by rcases Nat.lt_or_ge i n with h | h; exact hn2 i h; rw [show i = n by omega]; omega⟩
    · (try simp only [au_std] at hc1); have hnt : (rowT y l).length = n := (by unfold rowT; rw [hmd]; exact tw_len hn1 (fun i hi => by simpa using hn2 i hi) (fun h => by rw [decide_eq_false_iff_not]; have := hc1 (by omega); omega))
      refine VC.exit ?_
      refine VC.reg tab_ok [] rfl ?_
      iterate 3 refine VX.meek rfl ?_
      first | refine VX.meek rfl ?_ | refine VX.loadI rfl rfl au_l ?_ | refine VX.loadP rfl rfl rfl au_l ?_
      refine VX.meek rfl ?_
      first | refine VX.slcO0 rfl rfl rfl rfl rfl rfl (by first | rfl | exact (Int.toNat_of_nonneg (by omega)).symm) (by omega) ?_ | refine VX.slcI0 rfl rfl rfl rfl rfl (by first | rfl | exact (Int.toNat_of_nonneg (by omega)).symm) (by omega) ?_ | refine VX.meek rfl ?_
      refine VX.meek rfl ?_
      refine VX.nil ?_
      refine VC.ret ?_
      exact ⟨trivial, _, rfl, by rw [hmd, hnt], by rw [hmd]⟩
def rowX (x : Int) (l : List Rect) : List Rect := l.dropWhile fun r => decide (r.X + r.W ≤ x)
def acrB (x : Int) (l : List Rect) : Bool := decide (0 < (rowX x l).length) && decide ((rowX x l)[0]!.X ≤ x)
theorem across_t [Dr] (x : Int) (l : List Rect) (hr : ∀ r ∈ l, rok r) (hn : l.length ≤ 1048576) : CallT Tryz.prog 88 [.ptr 0 0, I64 x] [.c [.islc (encL cR l) l.length none]]
    (fun t H' => t = BL (acrB x l) ∧ H' = [.c [.islc (encL cR (rowX x l)) (rowX x l).length none]]) := by
  refine CallT.intro tab_ok Tryz.func88 rfl (by kernel_rfl) (Nat.le_of_ble_eq_true rfl) ?_
  refine VC.reg tab_ok [] rfl ?_
  refine VX.meek rfl ?_
  refine VX.nil ?_
  refine VC.seq ?_
  refine VC.block ?_
  refine VC.loopS (σ := List Rect) (fun m => m.length) (fun m => rowX x m = rowX x l ∧ (∀ r ∈ m, rok r) ∧ m.length ≤ l.length) (fun _ => []) (fun m => [.c [.islc (encL cR m) m.length none]]) [0, 1] rfl (l) ?_ ?_ ?_
  · refine ⟨[some 0], rfl, by first | trivial | decide, rfl, ?_, ?_⟩ <;> (repeat' first | exact trivial | exact CvB_n | exact CvB_d | refine CvE_app ?_ ?_ | refine CvE_cons rfl ?_ ?_ | refine CvH_cons ?_ ?_ | refine CvB_c rfl ?_ | fail) <;> first | exact au_v | (exact CvL.cons (Cv.pure (encL_pure cR _)) CvL.nil)
  · exact ⟨rfl, hr, Nat.le_refl _⟩
  rintro m ⟨hm, hrm, hml⟩; have hr0 : 0 < m.length → rok m[0]! := fun h => hrm _ (List.mem_iff_getElem?.2 ⟨0, getE h⟩)
  refine VC.seq ?_
  refine VC.drw tab_ok [] [_, _, _, _, _, _, _, _, _, _, _, _, _, _, _, _, _, _, _, _, _, _] rfl (by kernel_rfl) (by kernel_rfl) ?_
  iterate 2 refine VX.meek rfl ?_
  first | refine VX.meek rfl ?_ | refine VX.loadI rfl rfl au_l ?_ | refine VX.loadP rfl rfl rfl au_l ?_
  iterate 3 refine VX.meek rfl ?_
  refine' VX.merge (d := 26) [_, _, _, _, _, _, _, _, _, _, _, _, _, _, _, _] rfl ?_ rfl ?_
  rotate_left
  · refine VX.guard rfl rfl (fun hb1_5 => ?_) (fun hb1_5 => ?_)
    · have ghb1_5 := hb1_5
      try simp only [au_std, Bool.not_true, Bool.not_false] at ghb1_5
      have hq0 := hr0 (by omega); unfold rok at hq0
      refine VX.meek rfl ?_
      refine VX.guardT rfl rfl hb1_5 ?_
      refine VX.meek rfl ?_
      refine VX.guardT rfl rfl hb1_5 ?_
      first | refine VX.meek rfl ?_ | refine VX.loadI rfl rfl au_l ?_ | refine VX.loadP rfl rfl rfl au_l ?_
      refine VX.guardT rfl rfl hb1_5 ?_
      first | refine VX.idxI (m := 0) rfl rfl rfl rfl rfl rfl (by omega) ?_ | refine VX.idxO (m := 0) rfl rfl rfl rfl rfl rfl rfl (by omega) ?_ | refine VX.meek rfl ?_
      refine VX.guardT rfl rfl hb1_5 ?_
      refine VX.meek rfl ?_
      refine VX.guardT rfl rfl hb1_5 ?_
      first | refine VX.meek rfl ?_ | refine VX.loadI rfl rfl au_l ?_ | refine VX.loadP rfl rfl rfl au_l ?_
      refine VX.guardT rfl rfl hb1_5 ?_
      refine VX.meek rfl ?_
      refine VX.guardT rfl rfl hb1_5 ?_
      refine VX.meek rfl ?_
      refine VX.guardT rfl rfl hb1_5 ?_
      first | refine VX.meek rfl ?_ | refine VX.loadI rfl rfl au_l ?_ | refine VX.loadP rfl rfl rfl au_l ?_
      refine VX.guardT rfl rfl hb1_5 ?_
      first | refine VX.idxI (m := 0) rfl rfl rfl rfl rfl rfl (by omega) ?_ | refine VX.idxO (m := 0) rfl rfl rfl rfl rfl rfl rfl (by omega) ?_ | refine VX.meek rfl ?_
      refine VX.guardT rfl rfl hb1_5 ?_
      refine VX.meek rfl ?_
      refine VX.guardT rfl rfl hb1_5 ?_
      first | refine VX.meek rfl ?_ | refine VX.loadI rfl rfl au_l ?_ | refine VX.loadP rfl rfl rfl au_l ?_
      refine VX.guardT rfl rfl hb1_5 ?_
      first | refine VX.add rfl rfl (by omega) ?_ | refine VX.meek rfl ?_
      refine VX.guardT rfl rfl hb1_5 ?_
      refine VX.meek rfl ?_
      refine VX.guardT rfl rfl hb1_5 ?_
      refine VX.meek rfl ?_
      refine VX.pickA rfl (fun _ => rfl) ?_
      exact VX.nil ⟨rfl, rfl⟩
    · refine VX.guardF rfl rfl hb1_5 ?_
      refine VX.guardF rfl rfl hb1_5 ?_
      refine VX.guardF rfl rfl hb1_5 ?_
      refine VX.guardF rfl rfl hb1_5 ?_
      refine VX.guardF rfl rfl hb1_5 ?_
      refine VX.guardF rfl rfl hb1_5 ?_
      refine VX.guardF rfl rfl hb1_5 ?_
      refine VX.guardF rfl rfl hb1_5 ?_
      refine VX.guardF rfl rfl hb1_5 ?_
      refine VX.guardF rfl rfl hb1_5 ?_
      refine VX.guardF rfl rfl hb1_5 ?_
      refine VX.guardF rfl rfl hb1_5 ?_
      refine VX.guardF rfl rfl hb1_5 ?_
      refine VX.guardF rfl rfl hb1_5 ?_
      exact VX.pickA rfl (fun h => absurd (h.symm.trans hb1_5) (by decide)) (VX.nil ⟨rfl, rfl⟩)
  refine VX.nil ?_
  refine VX.nil ?_
  refine VC.cond rfl (fun hc0 => ?_) (fun hc0 => ?_)
  · (try simp only [au_std] at hc0); have h0 : 0 < m.length := (by omega); have hdl : (m.drop 1).length = m.length - 1 := List.length_drop
    refine VC.skip ?_
    refine VC.block ?_
    refine VC.regN tab_ok [] rfl ?_
    iterate 3 refine VX.meek rfl ?_
    first | refine VX.meek rfl ?_ | refine VX.loadI rfl rfl au_l ?_ | refine VX.loadP rfl rfl rfl au_l ?_
    refine VX.slcIR cR (p := 1) rfl rfl rfl rfl rfl rfl rfl (by omega) ?_
    refine VX.meek rfl ?_
    refine VX.store rfl rfl rfl rfl rfl au_sR rfl ?_
    refine VX.nil ?_
    refine ⟨m.drop 1, by (try dsimp only); omega, ?_, (by refine ⟨[some 0], rfl, by first | trivial | decide, rfl, ?_, ?_⟩ <;> (repeat' first | exact trivial | exact CvB_n | exact CvB_d | refine CvE_app ?_ ?_ | refine CvE_cons rfl ?_ ?_ | refine CvH_cons ?_ ?_ | refine CvB_c rfl ?_ | fail) <;> first | exact au_v | (exact CvL.cons (Cv.pure (encL_pure cR _)) CvL.nil))⟩
    exact ⟨by rw [← hm]; exact dw_step h0 (decide_eq_true (by omega)), fun r h => hrm r (List.mem_of_mem_drop h), by rw [List.length_drop]; omega⟩
  · (try simp only [au_std] at hc0); have hmd : rowX x l = m := (by rw [← hm]; exact dw_stop fun h => by rw [decide_eq_false_iff_not]; have := hc0 (by omega); omega)
    refine VC.exit ?_
    refine VC.reg tab_ok [] rfl ?_
    iterate 2 refine VX.meek rfl ?_
    first | refine VX.meek rfl ?_ | refine VX.loadI rfl rfl au_l ?_ | refine VX.loadP rfl rfl rfl au_l ?_
    iterate 3 refine VX.meek rfl ?_
    refine' VX.merge (d := 47) [_, _, _, _, _, _, _, _, _] rfl ?_ rfl ?_
    rotate_left
    · refine VX.guard rfl rfl (fun hb3_5 => ?_) (fun hb3_5 => ?_)
      · have ghb3_5 := hb3_5
        try simp only [au_std, Bool.not_true, Bool.not_false] at ghb3_5
        refine VX.meek rfl ?_
        refine VX.guardT rfl rfl hb3_5 ?_
        refine VX.meek rfl ?_
        refine VX.guardT rfl rfl hb3_5 ?_
        first | refine VX.meek rfl ?_ | refine VX.loadI rfl rfl au_l ?_ | refine VX.loadP rfl rfl rfl au_l ?_
        refine VX.guardT rfl rfl hb3_5 ?_
        first | refine VX.idxI (m := 0) rfl rfl rfl rfl rfl rfl (by omega) ?_ | refine VX.idxO (m := 0) rfl rfl rfl rfl rfl rfl rfl (by omega) ?_ | refine VX.meek rfl ?_
        refine VX.guardT rfl rfl hb3_5 ?_
        refine VX.meek rfl ?_
        refine VX.guardT rfl rfl hb3_5 ?_
        first | refine VX.meek rfl ?_ | refine VX.loadI rfl rfl au_l ?_ | refine VX.loadP rfl rfl rfl au_l ?_
        refine VX.guardT rfl rfl hb3_5 ?_
        refine VX.meek rfl ?_
        refine VX.guardT rfl rfl hb3_5 ?_
        refine VX.meek rfl ?_
        refine VX.pickA rfl (fun _ => rfl) ?_
        exact VX.nil ⟨rfl, rfl⟩
      · refine VX.guardF rfl rfl hb3_5 ?_
        refine VX.guardF rfl rfl hb3_5 ?_
        refine VX.guardF rfl rfl hb3_5 ?_
        refine VX.guardF rfl rfl hb3_5 ?_
        refine VX.guardF rfl rfl hb3_5 ?_
        refine VX.guardF rfl rfl hb3_5 ?_
        refine VX.guardF rfl rfl hb3_5 ?_
        exact VX.pickA rfl (fun h => absurd (h.symm.trans hb3_5) (by decide)) (VX.nil ⟨rfl, rfl⟩)
    refine VX.meek rfl ?_
    refine VX.nil ?_
    refine VC.ret ?_
    refine ⟨trivial, _, rfl, ?_, by rw [hmd]⟩; unfold acrB; rw [hmd, show decide (0 < m.length) = decide ((m.length : Int) > 0) from decide_eq_decide.2 (by omega)]
end
section
theorem cuts_mem {f : Rect → Int × Int} {l : List Rect} {y : Int} : y ∈ cutsOf f l ↔ ∃ r ∈ l, y = (f r).1 ∨ y = (f r).1 + (f r).2 := by
  unfold cutsOf
  rw [comp_mem]; unfold sortI; rw [List.mem_mergeSort]
  simp [endsF]
theorem cuts_len (f : Rect → Int × Int) (l : List Rect) : (cutsOf f l).length ≤ 2 * l.length := by
  have h := comp_le (sortI (endsF f l)); rw [sortI_len, endsF_len] at h; exact h
theorem cuts_lt (f : Rect → Int × Int) (l : List Rect) {i j : Nat} (h : i < j) (hj : j < (cutsOf f l).length) : (cutsOf f l)[i]! < (cutsOf f l)[j]! := by
  have := comp_lt (sortI_le (endsF f l))
  rw [List.pairwise_iff_getElem] at this
  have k := this i j (by unfold cutsOf at hj; omega) hj h
  rw [getElem!_pos (cutsOf f l) i (by omega), getElem!_pos (cutsOf f l) j hj]; exact k
theorem cuts_at {f : Rect → Int × Int} {l : List Rect} {y : Int} (h : ∃ r ∈ l, y = (f r).1 ∨ y = (f r).1 + (f r).2) : ∃ j, j < (cutsOf f l).length ∧ (cutsOf f l)[j]! = y := by
  obtain ⟨j, hj⟩ := List.mem_iff_getElem?.1 (cuts_mem.2 h)
  obtain ⟨h1, h2⟩ := List.getElem?_eq_some_iff.1 hj
  exact ⟨j, h1, by rw [getElem!_pos (cutsOf f l) j h1]; exact h2⟩
theorem cuts_gap {f : Rect → Int × Int} {l : List Rect} {y : Int} {i : Nat} (h : ∃ r ∈ l, y = (f r).1 ∨ y = (f r).1 + (f r).2) (hi : i + 1 < (cutsOf f l).length) : y ≤ (cutsOf f l)[i]! ∨ (cutsOf f l)[i + 1]! ≤ y := by
  obtain ⟨j, h1, h2⟩ := cuts_at h
  by_cases hj : j ≤ i
  · refine .inl ?_
    rcases Nat.lt_or_ge j i with h | h
    · have := cuts_lt f l h (by omega); omega
    · have : j = i := by omega
      subst this; omega
  · refine .inr ?_
    rcases Nat.lt_or_ge (i + 1) j with h | h
    · have := cuts_lt f l h h1; omega
    · have : j = i + 1 := by omega
      subst this; omega
theorem cuts_find {f : Rect → Int × Int} {l : List Rect} {r : Rect} {v : Int} (hr : r ∈ l) (h1 : (f r).1 ≤ v) (h2 : v < (f r).1 + (f r).2) : ∃ i, i + 1 < (cutsOf f l).length ∧ (cutsOf f l)[i]! ≤ v ∧ v < (cutsOf f l)[i + 1]! := by
  obtain ⟨i, hi, ei⟩ := cuts_at (f := f) (l := l) ⟨r, hr, .inl rfl⟩
  obtain ⟨j, hj, ej⟩ := cuts_at (f := f) (l := l) ⟨r, hr, .inr rfl⟩
  have go : ∀ (n i : Nat), j - i ≤ n → (cutsOf f l)[i]! ≤ v → i < j → ∃ i, i + 1 < (cutsOf f l).length ∧ (cutsOf f l)[i]! ≤ v ∧ v < (cutsOf f l)[i + 1]! := by
    intro n
    induction n with
    | zero => intro i hn _ hij; omega
    | succ n ih =>
      intro i hn hv hij
      by_cases hc : v < (cutsOf f l)[i + 1]!
      · exact ⟨i, by omega, hv, hc⟩
      · have hlt : i + 1 < j := by
          rcases Nat.lt_or_ge (i + 1) j with h | h
          · exact h
          · have : i + 1 = j := by omega
            rw [this, ej] at hc; omega
        exact ih (i + 1) (by omega) (by omega) hlt
  refine go _ i (Nat.le_refl _) (by omega) ?_
  rcases Nat.lt_or_ge i j with h | h
  · exact h
  · rcases Nat.lt_or_ge j i with h' | h'
    · have := cuts_lt f l h' hi; omega
    · have : i = j := by omega
      subst this; omega
theorem acr_spans {y e : Int} : ∀ {s : List Span} {lo : Int}, spansOk lo s → ∀ x, acrB x (Band.rects ⟨y, e, s⟩) = true ↔ inS s x
  | [], lo, _, x => by simp [Band.rects, acrB, rowX, inS]
  | p :: s, lo, ⟨h1, h2, h3⟩, x => by
    have ih := acr_spans (y := y) (e := e) h3 x
    unfold acrB rowX Band.rects at ih ⊢
    simp only [List.map_cons, List.dropWhile_cons] at ih ⊢
    rw [inS_cons]
    by_cases hc : p.1 + (p.2 - p.1) ≤ x
    · rw [if_pos (by simpa using hc), ih]
      constructor
      · exact .inr
      · rintro (h | h)
        · omega
        · exact h
    · rw [if_neg (by simpa using hc)]
      simp only [List.length_cons, Nat.zero_lt_succ, decide_true, Bool.true_and, decide_eq_true_eq]
      show p.1 ≤ x ↔ _
      constructor
      · intro h; exact .inl ⟨h, by omega⟩
      · rintro (h | h)
        · exact h.1
        · have := spansOk_lo h3 x h; omega
theorem rect_band {b : Band} {r : Rect} (h : r ∈ b.rects) : r.Y = b.y ∧ r.Y + r.H = b.e := by
  unfold Band.rects at h
  obtain ⟨p, _, rfl⟩ := List.mem_map.1 h
  exact ⟨rfl, by show b.y + (b.e - b.y) = b.e; omega⟩
theorem bands_from : ∀ {bs : List Band} {b : Band}, bandsOk (b :: bs) → ∀ c ∈ bs, b.e ≤ c.y
  | [], _, _, c, h => by cases h
  | d :: bs, b, ⟨h1, h2, h3⟩, c, h => by
    rcases List.mem_cons.1 h with rfl | h
    · exact h2.1
    · have := bands_from h3 c h
      have := h3.1.1
      have := h2.1
      omega
theorem mem_rects {bs : List Band} {r : Rect} : r ∈ rectsOf bs ↔ ∃ b ∈ bs, r ∈ b.rects := by unfold rectsOf; rw [List.mem_flatMap]
theorem dw_all {p : Rect → Bool} {a b : List Rect} (h : ∀ r ∈ a, p r = true) : (a ++ b).dropWhile p = b.dropWhile p := by
  induction a with
  | nil => rfl
  | cons r a ih => rw [List.cons_append, List.dropWhile_cons, if_pos (h r List.mem_cons_self), ih fun r hr => h r (List.mem_cons_of_mem _ hr)]
theorem tw_all {p : Rect → Bool} {a b : List Rect} (h : ∀ r ∈ a, p r = true) : (a ++ b).takeWhile p = a ++ b.takeWhile p := by
  induction a with
  | nil => rfl
  | cons r a ih => rw [List.cons_append, List.takeWhile_cons, if_pos (h r List.mem_cons_self), ih fun r hr => h r (List.mem_cons_of_mem _ hr), List.cons_append]
theorem dw_no {p : Rect → Bool} {a : List Rect} (h : ∀ r ∈ a, p r = false) : a.dropWhile p = a := by
  cases a with
  | nil => rfl
  | cons r a => rw [List.dropWhile_cons, if_neg (by rw [h r List.mem_cons_self]; simp)]
theorem tw_no {p : Rect → Bool} {a : List Rect} (h : ∀ r ∈ a, p r = false) : a.takeWhile p = [] := by
  cases a with
  | nil => rfl
  | cons r a => rw [List.takeWhile_cons, if_neg (by rw [h r List.mem_cons_self]; simp)]
theorem rowT_bands (y : Int) : ∀ {bs : List Band}, bandsOk bs → (∃ b ∈ bs, b.y ≤ y ∧ y < b.e ∧ rowT y (rectsOf bs) = b.rects ∧ spansOk (-1048577) b.s ∧ ∀ c ∈ bs, c.y ≤ y → y < c.e → c = b) ∨ (rowT y (rectsOf bs) = [] ∧ ∀ b ∈ bs, ¬ (b.y ≤ y ∧ y < b.e))
  | [], _ => .inr ⟨rfl, by simp⟩
  | b :: bs, h => by
    have hf := bands_from h
    have hsplit : rectsOf (b :: bs) = b.rects ++ rectsOf bs := rfl
    have htl : ∀ r ∈ rectsOf bs, ∃ c ∈ bs, r.Y = c.y ∧ r.Y + r.H = c.e := fun r hr => by
      obtain ⟨c, h1, h2⟩ := mem_rects.1 hr; exact ⟨c, h1, rect_band h2⟩
    have hbs : ∀ c ∈ bs, c.y < c.e := by
      have : ∀ {l : List Band}, bandsOk l → ∀ c ∈ l, c.y < c.e := by
        intro l
        induction l with
        | nil => intro _ c hc; cases hc
        | cons d l ih => intro hl c hc; rcases List.mem_cons.1 hc with rfl | hc; exact hl.1.1; exact ih hl.2.2 c hc
      exact this h.2.2
    by_cases he : b.e ≤ y
    · have hd : rowT y (rectsOf (b :: bs)) = rowT y (rectsOf bs) := by
        unfold rowT rowD
        rw [hsplit, dw_all fun r hr => decide_eq_true (by have := rect_band hr; omega)]
      rw [hd]
      rcases rowT_bands y h.2.2 with ⟨c, h1, h2, h3, h4, h5, h6⟩ | ⟨h1, h2⟩
      · refine .inl ⟨c, List.mem_cons_of_mem _ h1, h2, h3, h4, h5, fun d hd h7 h8 => ?_⟩
        rcases List.mem_cons.1 hd with rfl | hd
        · omega
        · exact h6 d hd h7 h8
      · refine .inr ⟨h1, fun c hc => ?_⟩
        rcases List.mem_cons.1 hc with rfl | hc
        · omega
        · exact h2 c hc
    · have hD : rowD y (rectsOf (b :: bs)) = b.rects ++ rectsOf bs := by
        unfold rowD
        rw [hsplit]
        refine dw_no fun r hr => ?_
        rw [decide_eq_false_iff_not]
        rcases List.mem_append.1 hr with hr | hr
        · have := rect_band hr; omega
        · obtain ⟨c, h1, h2, h3⟩ := htl r hr
          have := hf c h1; have := hbs c h1; omega
      have htn : (rectsOf bs).takeWhile (fun r => decide (r.Y ≤ y)) = [] := tw_no fun r hr => by
        rw [decide_eq_false_iff_not]
        obtain ⟨c, h1, h2, h3⟩ := htl r hr
        have := hf c h1; omega
      by_cases hy : b.y ≤ y
      · refine .inl ⟨b, List.mem_cons_self, hy, by omega, ?_, h.1.2.2, fun c hc h7 h8 => ?_⟩
        · unfold rowT
          rw [hD, tw_all fun r hr => decide_eq_true (by have := rect_band hr; omega), htn, List.append_nil]
        · rcases List.mem_cons.1 hc with rfl | hc
          · rfl
          · have := hf c hc; omega
      · refine .inr ⟨?_, fun c hc => ?_⟩
        · unfold rowT
          rw [hD]
          refine tw_no fun r hr => ?_
          rw [decide_eq_false_iff_not]
          rcases List.mem_append.1 hr with hr | hr
          · have := rect_band hr; omega
          · obtain ⟨c, h1, h2, h3⟩ := htl r hr
            have := hf c h1; have := h.1.1; omega
        · rcases List.mem_cons.1 hc with rfl | hc
          · omega
          · have := hf c hc; have := h.1.1; omega
theorem acr_in {a : List Rect} (h : Canon a) (x y : Int) : acrB x (rowT y a) = true ↔ inL a x y := by
  obtain ⟨bs, h1, rfl⟩ := h
  rw [inL_rectsOf]
  rcases rowT_bands y h1 with ⟨b, k1, k2, k3, k4, k5, k6⟩ | ⟨k1, k2⟩
  · rw [k4, acr_spans k5]
    constructor
    · intro hs; exact ⟨b, k1, k2, k3, hs⟩
    · rintro ⟨c, c1, c2, c3, c4⟩; rw [← k6 c c1 c2 c3]; exact c4
  · rw [k1]
    constructor
    · intro hs; simp [acrB, rowX] at hs
    · rintro ⟨c, c1, c2, c3, c4⟩; exact absurd ⟨c2, c3⟩ (k2 c c1)
theorem rowT_mem {a : List Rect} (h : Canon a) {y : Int} {r : Rect} : r ∈ rowT y a ↔ r ∈ a ∧ r.Y ≤ y ∧ y < r.Y + r.H := by
  obtain ⟨bs, h1, rfl⟩ := h
  rcases rowT_bands y h1 with ⟨b, k1, k2, k3, k4, k5, k6⟩ | ⟨k1, k2⟩
  · rw [k4]
    constructor
    · intro hr; have := rect_band hr; exact ⟨mem_rects.2 ⟨b, k1, hr⟩, by omega, by omega⟩
    · rintro ⟨hr, h2, h3⟩
      obtain ⟨c, c1, c2⟩ := mem_rects.1 hr
      have := rect_band c2
      rw [← k6 c c1 (by omega) (by omega)]; exact c2
  · rw [k1]
    constructor
    · intro hr; cases hr
    · rintro ⟨hr, h2, h3⟩
      obtain ⟨c, c1, c2⟩ := mem_rects.1 hr
      have := rect_band c2
      exact absurd ⟨by omega, by omega⟩ (k2 c c1)
end
section
abbrev fY (r : Rect) : Int × Int := (r.Y, r.H)
abbrev fX (r : Rect) : Int × Int := (r.X, r.W)
def ysJ (a b : List Rect) : List Int := cutsOf fY [a, b].flatten
def xsJ (p q : List Rect) : List Int := cutsOf fX [p, q].flatten
def cellJ (k : Bool → Bool → Bool) (y h : Int) (p q : List Rect) (j : Nat) : List Rect := if k (acrB (xsJ p q)[j]! p) (acrB (xsJ p q)[j]! q) = true then [⟨(xsJ p q)[j]!, y, (xsJ p q)[j + 1]! - (xsJ p q)[j]!, h⟩] else []
def rowJ (k : Bool → Bool → Bool) (y h : Int) (p q : List Rect) (n : Nat) : List Rect := (List.range n).flatMap (cellJ k y h p q)
def outJ (k : Bool → Bool → Bool) (a b : List Rect) (n : Nat) : List Rect := (List.range n).flatMap fun i => rowJ k (ysJ a b)[i]! ((ysJ a b)[i + 1]! - (ysJ a b)[i]!) (rowT (ysJ a b)[i]! a) (rowT (ysJ a b)[i]! b) ((xsJ (rowT (ysJ a b)[i]! a) (rowT (ysJ a b)[i]! b)).length - 1)
def joinL (k : Bool → Bool → Bool) (a b : List Rect) : List Rect := outJ k a b ((ysJ a b).length - 1)
theorem rowJ_succ (k : Bool → Bool → Bool) (y h : Int) (p q : List Rect) (n : Nat) : rowJ k y h p q (n + 1) = rowJ k y h p q n ++ cellJ k y h p q n := by unfold rowJ; rw [List.range_succ, List.flatMap_append]; simp
theorem outJ_succ (k : Bool → Bool → Bool) (a b : List Rect) (n : Nat) : outJ k a b (n + 1) = outJ k a b n ++ rowJ k (ysJ a b)[n]! ((ysJ a b)[n + 1]! - (ysJ a b)[n]!) (rowT (ysJ a b)[n]! a) (rowT (ysJ a b)[n]! b) ((xsJ (rowT (ysJ a b)[n]! a) (rowT (ysJ a b)[n]! b)).length - 1) := by unfold outJ; rw [List.range_succ, List.flatMap_append]; simp
theorem rowJ_len (k : Bool → Bool → Bool) (y h : Int) (p q : List Rect) : ∀ n, (rowJ k y h p q n).length ≤ n
  | 0 => by simp [rowJ]
  | n + 1 => by
    rw [rowJ_succ, List.length_append]
    have := rowJ_len k y h p q n
    have : (cellJ k y h p q n).length ≤ 1 := by unfold cellJ; split <;> simp
    omega
theorem rowT_len (y : Int) (a : List Rect) : (rowT y a).length ≤ a.length := by
  unfold rowT rowD
  exact Nat.le_trans (List.takeWhile_sublist _).length_le (List.dropWhile_sublist _).length_le
theorem fl2 (a b : List Rect) : [a, b].flatten = a ++ b := by simp
theorem xsJ_len (p q : List Rect) : (xsJ p q).length ≤ 2 * (p.length + q.length) := by
  have := cuts_len fX [p, q].flatten
  rw [fl2, List.length_append] at this
  unfold xsJ; rw [fl2]; exact this
theorem ysJ_len (p q : List Rect) : (ysJ p q).length ≤ 2 * (p.length + q.length) := by
  have := cuts_len fY [p, q].flatten
  rw [fl2, List.length_append] at this
  unfold ysJ; rw [fl2]; exact this
theorem dw_mono {p p' : Rect → Bool} (h : ∀ r, p' r = true → p r = true) : ∀ l : List Rect, (l.dropWhile p').dropWhile p = l.dropWhile p
  | [] => rfl
  | r :: l => by
    rw [List.dropWhile_cons]
    split
    · rename_i hc
      rw [dw_mono h l, List.dropWhile_cons, if_pos (h r hc)]
    · rfl
theorem rowD_mono {y y' : Int} (h : y' ≤ y) (l : List Rect) : rowD y (rowD y' l) = rowD y l := dw_mono (fun r hr => by have := of_decide_eq_true hr; exact decide_eq_true (by omega)) l
theorem rowX_mono {y y' : Int} (h : y' ≤ y) (l : List Rect) : rowX y (rowX y' l) = rowX y l := dw_mono (fun r hr => by have := of_decide_eq_true hr; exact decide_eq_true (by omega)) l
theorem same_in {a b c : List Rect} (hc : Canon c) (hsub : ∀ r ∈ c, r ∈ [a, b].flatten) {i : Nat} (hi : i + 1 < (ysJ a b).length) (hrow : ∀ r ∈ rowT (ysJ a b)[i]! c, r ∈ [rowT (ysJ a b)[i]! a, rowT (ysJ a b)[i]! b].flatten) {j : Nat} (hj : j + 1 < (xsJ (rowT (ysJ a b)[i]! a) (rowT (ysJ a b)[i]! b)).length) {x z : Int}
    (h1 : (ysJ a b)[i]! ≤ z) (h2 : z < (ysJ a b)[i + 1]!) (h3 : (xsJ (rowT (ysJ a b)[i]! a) (rowT (ysJ a b)[i]! b))[j]! ≤ x) (h4 : x < (xsJ (rowT (ysJ a b)[i]! a) (rowT (ysJ a b)[i]! b))[j + 1]!) :
    inL c (xsJ (rowT (ysJ a b)[i]! a) (rowT (ysJ a b)[i]! b))[j]! (ysJ a b)[i]! ↔ inL c x z := by
  have gy : ∀ r ∈ c, (r.Y ≤ (ysJ a b)[i]! ∨ (ysJ a b)[i + 1]! ≤ r.Y) ∧ (r.Y + r.H ≤ (ysJ a b)[i]! ∨ (ysJ a b)[i + 1]! ≤ r.Y + r.H) := fun r hr =>
    ⟨cuts_gap (f := fY) ⟨r, hsub r hr, .inl rfl⟩ hi, cuts_gap (f := fY) ⟨r, hsub r hr, .inr rfl⟩ hi⟩
  have gx : ∀ r ∈ rowT (ysJ a b)[i]! c, (r.X ≤ (xsJ (rowT (ysJ a b)[i]! a) (rowT (ysJ a b)[i]! b))[j]! ∨ (xsJ (rowT (ysJ a b)[i]! a) (rowT (ysJ a b)[i]! b))[j + 1]! ≤ r.X) ∧ (r.X + r.W ≤ (xsJ (rowT (ysJ a b)[i]! a) (rowT (ysJ a b)[i]! b))[j]! ∨ (xsJ (rowT (ysJ a b)[i]! a) (rowT (ysJ a b)[i]! b))[j + 1]! ≤ r.X + r.W) := fun r hr =>
    ⟨cuts_gap (f := fX) ⟨r, hrow r hr, .inl rfl⟩ hj, cuts_gap (f := fX) ⟨r, hrow r hr, .inr rfl⟩ hj⟩
  constructor
  · rintro ⟨r, hr, k1, k2, k3, k4⟩
    have g1 := gy r hr
    have g2 := gx r ((rowT_mem hc).2 ⟨hr, k3, k4⟩)
    exact ⟨r, hr, by omega, by omega, by omega, by omega⟩
  · rintro ⟨r, hr, k1, k2, k3, k4⟩
    have g1 := gy r hr
    have g2 := gx r ((rowT_mem hc).2 ⟨hr, by omega, by omega⟩)
    exact ⟨r, hr, by omega, by omega, by omega, by omega⟩
theorem join_mem {k : Bool → Bool → Bool} {a b : List Rect} {r : Rect} : r ∈ joinL k a b ↔ ∃ i j, i + 1 < (ysJ a b).length ∧ j + 1 < (xsJ (rowT (ysJ a b)[i]! a) (rowT (ysJ a b)[i]! b)).length ∧
    k (acrB (xsJ (rowT (ysJ a b)[i]! a) (rowT (ysJ a b)[i]! b))[j]! (rowT (ysJ a b)[i]! a)) (acrB (xsJ (rowT (ysJ a b)[i]! a) (rowT (ysJ a b)[i]! b))[j]! (rowT (ysJ a b)[i]! b)) = true ∧
    r = ⟨(xsJ (rowT (ysJ a b)[i]! a) (rowT (ysJ a b)[i]! b))[j]!, (ysJ a b)[i]!, (xsJ (rowT (ysJ a b)[i]! a) (rowT (ysJ a b)[i]! b))[j + 1]! - (xsJ (rowT (ysJ a b)[i]! a) (rowT (ysJ a b)[i]! b))[j]!, (ysJ a b)[i + 1]! - (ysJ a b)[i]!⟩ := by
  unfold joinL outJ rowJ
  simp only [List.mem_flatMap, List.mem_range]
  constructor
  · rintro ⟨i, hi, j, hj, hr⟩
    unfold cellJ at hr
    split at hr
    · rename_i hk
      rw [List.mem_singleton] at hr
      exact ⟨i, j, by omega, by omega, hk, hr⟩
    · cases hr
  · rintro ⟨i, j, hi, hj, hk, hr⟩
    refine ⟨i, by omega, j, by omega, ?_⟩
    unfold cellJ
    rw [if_pos hk, hr]; exact List.mem_singleton.2 rfl
theorem add_lt {A B v : Int} (h : v < B) : v < A + (B - A) := by omega
theorem join_in {k : Bool → Bool → Bool} (hk : k false false = false) {a b : List Rect} (ha : Canon a) (hb : Canon b) (x z : Int) : inL (joinL k a b) x z ↔ k (decide (inL a x z)) (decide (inL b x z)) = true := by
  have sa : ∀ {i j : Nat}, i + 1 < (ysJ a b).length → j + 1 < (xsJ (rowT (ysJ a b)[i]! a) (rowT (ysJ a b)[i]! b)).length → (ysJ a b)[i]! ≤ z → z < (ysJ a b)[i + 1]! → (xsJ (rowT (ysJ a b)[i]! a) (rowT (ysJ a b)[i]! b))[j]! ≤ x → x < (xsJ (rowT (ysJ a b)[i]! a) (rowT (ysJ a b)[i]! b))[j + 1]! →
      acrB (xsJ (rowT (ysJ a b)[i]! a) (rowT (ysJ a b)[i]! b))[j]! (rowT (ysJ a b)[i]! a) = decide (inL a x z) ∧ acrB (xsJ (rowT (ysJ a b)[i]! a) (rowT (ysJ a b)[i]! b))[j]! (rowT (ysJ a b)[i]! b) = decide (inL b x z) := fun hi hj h1 h2 h3 h4 => by
    constructor
    · rw [Bool.eq_iff_iff, acr_in ha, decide_eq_true_eq]
      exact same_in ha (fun r hr => by rw [fl2]; exact List.mem_append.2 (.inl hr)) hi (fun r hr => by rw [fl2]; exact List.mem_append.2 (.inl hr)) hj h1 h2 h3 h4
    · rw [Bool.eq_iff_iff, acr_in hb, decide_eq_true_eq]
      exact same_in hb (fun r hr => by rw [fl2]; exact List.mem_append.2 (.inr hr)) hi (fun r hr => by rw [fl2]; exact List.mem_append.2 (.inr hr)) hj h1 h2 h3 h4
  constructor
  · rintro ⟨r, hr, k1, k2, k3, k4⟩
    obtain ⟨i, j, hi, hj, hkk, rfl⟩ := join_mem.1 hr
    simp only at k1 k2 k3 k4
    obtain ⟨e1, e2⟩ := sa hi hj k3 (by omega) k1 (by omega)
    rw [← e1, ← e2]; exact hkk
  · intro hkk
    have hex : ∃ c r, (c = a ∨ c = b) ∧ Canon c ∧ r ∈ c ∧ r.has x z := by
      by_cases h1 : inL a x z
      · obtain ⟨r, q1, q2⟩ := h1; exact ⟨a, r, .inl rfl, ha, q1, q2⟩
      · by_cases h2 : inL b x z
        · obtain ⟨r, q1, q2⟩ := h2; exact ⟨b, r, .inr rfl, hb, q1, q2⟩
        · rw [decide_eq_false h1, decide_eq_false h2, hk] at hkk; cases hkk
    obtain ⟨c, r, hcc, hC, hr, k1, k2, k3, k4⟩ := hex
    have hm : r ∈ [a, b].flatten := by rw [fl2]; rcases hcc with rfl | rfl; exact List.mem_append.2 (.inl hr); exact List.mem_append.2 (.inr hr)
    obtain ⟨i, hi, i1, i2⟩ := cuts_find (f := fY) hm k3 k4
    have g := cuts_gap (f := fY) (y := r.Y) ⟨r, hm, .inl rfl⟩ hi
    have hrow : r ∈ [rowT (ysJ a b)[i]! a, rowT (ysJ a b)[i]! b].flatten := by
      have : r ∈ rowT (ysJ a b)[i]! c := (rowT_mem hC).2 ⟨hr, by unfold ysJ; omega, by unfold ysJ; omega⟩
      rw [fl2]; rcases hcc with rfl | rfl; exact List.mem_append.2 (.inl this); exact List.mem_append.2 (.inr this)
    obtain ⟨j, hj, j1, j2⟩ := cuts_find (f := fX) hrow k1 k2
    obtain ⟨e1, e2⟩ := sa (i := i) (j := j) hi hj i1 i2 j1 j2
    refine ⟨_, join_mem.2 ⟨i, j, hi, hj, by rw [e1, e2]; exact hkk, rfl⟩, j1, ?_, i1, ?_⟩
    · exact add_lt j2
    · exact add_lt i2
theorem fl_rok {a b : List Rect} (ha : ∀ r ∈ a, rok r) (hb : ∀ r ∈ b, rok r) : ∀ r ∈ [a, b].flatten, rok r := fun r hr => by rw [fl2] at hr; exact (List.mem_append.1 hr).elim (ha r) (hb r)
theorem ysJ_bnd {a b : List Rect} (ha : ∀ r ∈ a, rok r) (hb : ∀ r ∈ b, rok r) {i : Nat} (hi : i < (ysJ a b).length) : -1048576 ≤ (ysJ a b)[i]! ∧ (ysJ a b)[i]! ≤ 1048576 := by
  obtain ⟨r, q1, q2⟩ := cuts_mem.1 (List.mem_iff_getElem?.2 ⟨i, getE hi⟩)
  have := fl_rok ha hb r q1; unfold rok at this
  unfold ysJ; simp only [fY] at q2 ⊢; omega
theorem xsJ_bnd {a b : List Rect} (ha : ∀ r ∈ a, rok r) (hb : ∀ r ∈ b, rok r) {i : Nat} (hi : i < (xsJ a b).length) : -1048576 ≤ (xsJ a b)[i]! ∧ (xsJ a b)[i]! ≤ 1048576 := by
  obtain ⟨r, q1, q2⟩ := cuts_mem.1 (List.mem_iff_getElem?.2 ⟨i, getE hi⟩)
  have := fl_rok ha hb r q1; unfold rok at this
  unfold xsJ; simp only [fX] at q2 ⊢; omega
theorem rowT_sub {y : Int} {a : List Rect} {r : Rect} (h : r ∈ rowT y a) : r ∈ a := by
  unfold rowT rowD at h
  exact (List.dropWhile_sublist _).subset ((List.takeWhile_sublist _).subset h)
theorem join_counts {k : Bool → Bool → Bool} {a b : List Rect} (ha : ∀ r ∈ a, rok r) (hb : ∀ r ∈ b, rok r) {r : Rect} (h : r ∈ joinL k a b) : countsB r = true := by
  obtain ⟨i, j, hi, hj, -, rfl⟩ := join_mem.1 h
  have y1 := ysJ_bnd ha hb (i := i) (by omega)
  have y2 := ysJ_bnd ha hb (i := i + 1) hi
  have hra : ∀ r ∈ rowT (ysJ a b)[i]! a, rok r := fun r h => ha r (rowT_sub h)
  have hrb : ∀ r ∈ rowT (ysJ a b)[i]! b, rok r := fun r h => hb r (rowT_sub h)
  have x1 := xsJ_bnd hra hrb (i := j) (by omega)
  have x2 := xsJ_bnd hra hrb (i := j + 1) hj
  have y3 : (ysJ a b)[i]! < (ysJ a b)[i + 1]! := cuts_lt fY [a, b].flatten (Nat.lt_succ_self i) hi
  have x3 : (xsJ (rowT (ysJ a b)[i]! a) (rowT (ysJ a b)[i]! b))[j]! < (xsJ (rowT (ysJ a b)[i]! a) (rowT (ysJ a b)[i]! b))[j + 1]! := cuts_lt fX _ (Nat.lt_succ_self j) hj
  unfold countsB fitsB
  simp only [Bool.and_eq_true, decide_eq_true_eq]
  omega
theorem join_eq {k : Bool → Bool → Bool} (hk : k false false = false) {a b c : List Rect} (ha : Canon a) (hb : Canon b) (har : ∀ r ∈ a, rok r) (hbr : ∀ r ∈ b, rok r) (hc : Canon c) (hi : ∀ x z, inL c x z ↔ k (decide (inL a x z)) (decide (inL b x z)) = true) : bandOf (joinL k a b) = c := by
  refine (bandOf_eq hc fun x z => ?_).symm
  rw [hi, ← join_in hk ha hb]
  have : (joinL k a b).filter countsB = joinL k a b := List.filter_eq_self.2 fun r hr => join_counts har hbr hr
  rw [this]
end
section
theorem bandsOk_mem : ∀ {bs : List Band}, bandsOk bs → ∀ b ∈ bs, bandOk b
  | [], _, b, h => by cases h
  | c :: bs, ⟨h1, h2, h3⟩, b, h => by
    rcases List.mem_cons.1 h with rfl | h
    · exact h1
    · exact bandsOk_mem h3 b h
theorem canon_rok {c : List Rect} (hc : Canon c) (h : ∀ x z, inL c x z → -1048576 ≤ x ∧ x < 1048576 ∧ -1048576 ≤ z ∧ z < 1048576) : ∀ r ∈ c, rok r := by
  obtain ⟨bs, h1, rfl⟩ := hc
  intro r hr
  obtain ⟨b, hb, hrb⟩ := mem_rects.1 hr
  have hbo := bandsOk_mem h1 b hb
  have hrr := hrb
  unfold Band.rects at hrb
  obtain ⟨p, hp, rfl⟩ := List.mem_map.1 hrb
  have hs := spansOk_mem hbo.2.2 p hp
  have hy := hbo.1
  have k1 := h p.1 b.y ⟨_, hr, Int.le_refl _, by show p.1 < p.1 + (p.2 - p.1); omega, Int.le_refl _, by show b.y < b.y + (b.e - b.y); omega⟩
  have k2 := h (p.2 - 1) (b.e - 1) ⟨_, hr, by show p.1 ≤ p.2 - 1; omega, by show p.2 - 1 < p.1 + (p.2 - p.1); omega, by show b.y ≤ b.e - 1; omega, by show b.e - 1 < b.y + (b.e - b.y); omega⟩
  unfold rok
  dsimp only
  omega
theorem inL_bnd {l : List Rect} (h : ∀ r ∈ l, rok r) {x z : Int} (hi : inL l x z) : -1048576 ≤ x ∧ x < 1048576 ∧ -1048576 ≤ z ∧ z < 1048576 := by
  obtain ⟨r, hr, k1, k2, k3, k4⟩ := hi
  have := h r hr; unfold rok at this
  omega
theorem bandOf_rok (l : List Rect) : ∀ r ∈ bandOf l, rok r :=
  canon_rok (bandOf_canon l) fun x z hi => inL_bnd (fun r hr => countsB_rok (List.mem_filter.1 hr).2) ((bandOf_in l x z).1 hi)
theorem canon_nil : Canon [] := ⟨[], trivial, rfl⟩
theorem canon_one {r : Rect} (h : rok r) : Canon [r] := by
  unfold rok at h
  refine ⟨[⟨r.Y, r.Y + r.H, [(r.X, r.X + r.W)]⟩], ⟨⟨by show r.Y < r.Y + r.H; omega, by simp, by show -1048577 < r.X; omega, by show r.X < r.X + r.W; omega, trivial⟩, trivial, trivial⟩, ?_⟩
  simp only [rectsOf, Band.rects, List.flatMap_cons, List.flatMap_nil, List.map_cons, List.map_nil, List.append_nil]
  congr 1
  rw [show r.X + r.W - r.X = r.W from by omega, show r.Y + r.H - r.Y = r.H from by omega]
theorem bandOf_one (r : Rect) : bandOf [r] = if countsB r = true then [r] else [] := by
  split
  · rename_i h
    exact (bandOf_eq (canon_one (countsB_rok h)) fun x z => by simp only [List.filter_cons, h, if_true, List.filter_nil]).symm
  · rename_i h
    exact (bandOf_eq canon_nil fun x z => by rw [List.filter_cons, if_neg h, List.filter_nil]).symm
end
section
def Gr (c : List Rect) (xs ys : List Int) : Prop := (∀ x y, x ∉ xs → (inL c (x - 1) y ↔ inL c x y)) ∧ ∀ x y, y ∉ ys → (inL c x (y - 1) ↔ inL c x y)
theorem gr_cons {r : Rect} {l : List Rect} {xs ys : List Int} (h : Gr l xs ys) : Gr (r :: l) (r.X :: (r.X + r.W) :: xs) (r.Y :: (r.Y + r.H) :: ys) := by
  constructor
  · intro x y hx
    simp only [List.mem_cons, not_or] at hx
    rw [inL_cons, inL_cons, h.1 x y hx.2.2]
    unfold Rect.has
    have h1 := hx.1
    have h2 := hx.2.1
    constructor
    · rintro (k | k)
      · exact .inl ⟨by omega, by omega, k.2.2⟩
      · exact .inr k
    · rintro (k | k)
      · exact .inl ⟨by omega, by omega, k.2.2⟩
      · exact .inr k
  · intro x y hx
    simp only [List.mem_cons, not_or] at hx
    rw [inL_cons, inL_cons, h.2 x y hx.2.2]
    unfold Rect.has
    have h1 := hx.1
    have h2 := hx.2.1
    constructor
    · rintro (k | k)
      · exact .inl ⟨k.1, k.2.1, by omega, by omega⟩
      · exact .inr k
    · rintro (k | k)
      · exact .inl ⟨k.1, k.2.1, by omega, by omega⟩
      · exact .inr k
theorem gr_list : ∀ l : List Rect, ∃ xs ys, xs.length ≤ 2 * l.length ∧ ys.length ≤ 2 * l.length ∧ Gr l xs ys
  | [] => ⟨[], [], by simp, by simp, fun x y _ => ⟨fun h => absurd h inL_nil, fun h => absurd h inL_nil⟩, fun x y _ => ⟨fun h => absurd h inL_nil, fun h => absurd h inL_nil⟩⟩
  | r :: l => by
    obtain ⟨xs, ys, h1, h2, h3⟩ := gr_list l
    exact ⟨_, _, by simp only [List.length_cons]; omega, by simp only [List.length_cons]; omega, gr_cons h3⟩
theorem gr_op {k : Bool → Bool → Bool} {a b c : List Rect} {xs ys xs' ys' : List Int} (ha : Gr a xs ys) (hb : Gr b xs' ys') (hc : ∀ x z, inL c x z ↔ k (decide (inL a x z)) (decide (inL b x z)) = true) : Gr c (xs ++ xs') (ys ++ ys') := by
  constructor
  · intro x y hx
    simp only [List.mem_append, not_or] at hx
    rw [hc, hc]; simp only [ha.1 x y hx.1, hb.1 x y hx.2]
  · intro x y hx
    simp only [List.mem_append, not_or] at hx
    rw [hc, hc]; simp only [ha.2 x y hx.1, hb.2 x y hx.2]
theorem spans_ends : ∀ {s : List Span} {lo : Int}, spansOk lo s → ∀ p ∈ s, ¬ inS s (p.1 - 1) ∧ ¬ inS s p.2
  | [], _, _, p, h => by cases h
  | q :: s, lo, ⟨h1, h2, h3⟩, p, h => by
    rcases List.mem_cons.1 h with rfl | h
    · refine ⟨fun k => ?_, fun k => ?_⟩
      · rcases inS_cons.1 k with k | k
        · omega
        · have := spansOk_lo h3 _ k; omega
      · rcases inS_cons.1 k with k | k
        · omega
        · have := spansOk_lo h3 _ k; omega
    · obtain ⟨e1, e2⟩ := spans_ends h3 p h
      have := spansOk_mem h3 p h
      refine ⟨fun k => ?_, fun k => ?_⟩
      · rcases inS_cons.1 k with k | k
        · omega
        · exact e1 k
      · rcases inS_cons.1 k with k | k
        · omega
        · exact e2 k
theorem inB_at : ∀ {bs : List Band}, bandsOk bs → ∀ b ∈ bs, ∀ y, b.y ≤ y → y < b.e → ∀ x, inB bs x y ↔ inS b.s x
  | [], _, b, h, _, _, _, _ => by cases h
  | c :: bs, h, b, hb, y, h1, h2, x => by
    have hf := bands_from h
    rw [inB_cons]
    rcases List.mem_cons.1 hb with rfl | hb
    · constructor
      · rintro (k | ⟨d, hd, k1, k2, k3⟩)
        · exact k.2.2
        · have := hf d hd; omega
      · intro k; exact .inl ⟨h1, h2, k⟩
    · have := hf b hb
      rw [inB_at h.2.2 b hb y h1 h2 x]
      constructor
      · rintro (k | k)
        · omega
        · exact k
      · exact .inr
theorem bands_end : ∀ {bs : List Band}, bandsOk bs → ∀ b ∈ bs, ∀ {s : List Span} {lo : Int}, spansOk lo s → (∀ x, inB bs x b.e ↔ inS s x) → s ≠ b.s
  | [], _, b, h, _, _, _, _ => by cases h
  | c :: bs, h, b, hb, s, lo, hs, hrow => by
    rcases List.mem_cons.1 hb with rfl | hb
    · exact band_end h hs hrow
    · refine bands_end h.2.2 b hb hs fun x => ?_
      rw [← hrow x, inB_cons]
      have h1 := bands_from h b hb
      have h2 := (bandsOk_mem h.2.2 b hb).1
      constructor
      · exact .inr
      · rintro (k | k)
        · omega
        · exact k
theorem canon_lines {bs : List Band} (hb : bandsOk bs) {xs ys : List Int} (hg : Gr (rectsOf bs) xs ys) : ∀ b ∈ bs, b.y ∈ ys ∧ b.e ∈ ys ∧ ∀ p ∈ b.s, p.1 ∈ xs ∧ p.2 ∈ xs := by
  intro b hm
  have hbo := bandsOk_mem hb b hm
  obtain ⟨x0, hx0⟩ := spans_some hbo
  refine ⟨?_, ?_, fun p hp => ⟨?_, ?_⟩⟩
  · refine Classical.byContradiction fun hn => ?_
    have h := fun x => hg.2 x b.y hn
    simp only [inL_rectsOf] at h
    obtain ⟨c, hc, k1, k2, k3⟩ := (h x0).2 ((inB_at hb b hm b.y (Int.le_refl _) hbo.1 x0).2 hx0)
    have hce : c.e = b.y := by
      rcases Int.lt_trichotomy c.e b.y with q | q | q
      · omega
      · exact q
      · have e1 := inB_at hb c hc b.y (by omega) q
       
        have e2 := inB_at hb c hc (b.y - 1) k1 k2
        exfalso
        have : ∀ {bs : List Band}, bandsOk bs → ∀ b ∈ bs, ∀ c ∈ bs, c.y ≤ b.y - 1 → b.y < c.e → False := by
          intro bs
          induction bs with
          | nil => intro _ b h; cases h
          | cons d bs ih =>
            intro hh b hb c hc g1 g2
            have hf := bands_from hh
            rcases List.mem_cons.1 hb with rfl | hb'
            · rcases List.mem_cons.1 hc with rfl | hc
              · omega
              · have := hf c hc; have := hh.1.1; omega
            · skip
              rcases List.mem_cons.1 hc with rfl | hc
              · have := hf b hb'; omega
              · exact ih hh.2.2 b hb' c hc g1 g2
        exact this hb b hm c hc k1 q
    have hco := bandsOk_mem hb c hc
    refine bands_end hb c hc hbo.2.2 (fun x => by rw [hce]; exact inB_at hb b hm b.y (Int.le_refl _) hbo.1 x) ?_
    refine spans_uniq hbo.2.2 hco.2.2 fun x => ?_
    rw [← inB_at hb b hm b.y (Int.le_refl _) hbo.1 x, ← h x, inB_at hb c hc (b.y - 1) k1 k2 x]
  · refine Classical.byContradiction fun hn => ?_
    have h := fun x => hg.2 x b.e hn
    simp only [inL_rectsOf] at h
    exact bands_end hb b hm hbo.2.2 (fun x => by rw [← h x]; exact inB_at hb b hm (b.e - 1) (by have := hbo.1; omega) (by omega) x) rfl
  · refine Classical.byContradiction fun hn => ?_
    have h := hg.1 p.1 b.y hn
    simp only [inL_rectsOf, inB_at hb b hm b.y (Int.le_refl _) hbo.1] at h
    exact (spans_ends hbo.2.2 p hp).1 (h.2 ⟨p, hp, Int.le_refl _, (spansOk_mem hbo.2.2 p hp).2⟩)
  · refine Classical.byContradiction fun hn => ?_
    have h := hg.1 p.2 b.y hn
    simp only [inL_rectsOf, inB_at hb b hm b.y (Int.le_refl _) hbo.1] at h
    have := (spansOk_mem hbo.2.2 p hp).2
    exact (spans_ends hbo.2.2 p hp).2 (h.1 ⟨p, hp, by omega, by omega⟩)
theorem rise_len : ∀ (l xs : List Int), l.Pairwise (· < ·) → (∀ v ∈ l, v ∈ xs) → l.length ≤ xs.length
  | [], _, _, _ => by simp
  | v :: t, xs, h, hm => by
    have hv := hm v List.mem_cons_self
    rw [List.pairwise_cons] at h
    have := rise_len t (xs.erase v) h.2 fun u hu => (List.mem_erase_of_ne (by have := h.1 u hu; omega)).2 (hm u (List.mem_cons_of_mem _ hu))
    rw [List.length_erase_of_mem hv] at this
    have := List.length_pos_of_mem hv
    simp only [List.length_cons]; omega
theorem spans_rise : ∀ {s : List Span} {lo : Int}, spansOk lo s → (s.map (·.1)).Pairwise (· < ·)
  | [], _, _ => List.Pairwise.nil
  | p :: s, lo, ⟨h1, h2, h3⟩ => by
    rw [List.map_cons, List.pairwise_cons]
    refine ⟨fun v hv => ?_, spans_rise h3⟩
    obtain ⟨q, hq, rfl⟩ := List.mem_map.1 hv
    have := spansOk_mem h3 q hq
    omega
theorem bands_rise : ∀ {bs : List Band}, bandsOk bs → (bs.map (·.y)).Pairwise (· < ·)
  | [], _ => List.Pairwise.nil
  | b :: bs, h => by
    rw [List.map_cons, List.pairwise_cons]
    refine ⟨fun v hv => ?_, bands_rise h.2.2⟩
    obtain ⟨c, hc, rfl⟩ := List.mem_map.1 hv
    have := bands_from h c hc
    have := h.1.1
    omega
theorem band_len {bs : List Band} (hb : bandsOk bs) {xs ys : List Int} (hg : Gr (rectsOf bs) xs ys) {b : Band} (h : b ∈ bs) : b.rects.length ≤ xs.length := by
  have k := rise_len (b.s.map (·.1)) xs (spans_rise (bandsOk_mem hb b h).2.2) fun v hv => by
    obtain ⟨p, hp, rfl⟩ := List.mem_map.1 hv
    exact ((canon_lines hb hg b h).2.2 p hp).1
  unfold Band.rects
  rw [List.length_map] at k ⊢
  exact k
theorem flat_len : ∀ (bs : List Band) (m : Nat), (∀ b ∈ bs, b.rects.length ≤ m) → (rectsOf bs).length ≤ bs.length * m
  | [], m, _ => by simp [rectsOf]
  | b :: bs, m, h => by
    have h1 := h b List.mem_cons_self
    have h2 := flat_len bs m fun c hc => h c (List.mem_cons_of_mem _ hc)
    rw [show rectsOf (b :: bs) = b.rects ++ rectsOf bs from rfl, List.length_append, List.length_cons, Nat.add_mul]
    omega
theorem canon_len {c : List Rect} (hc : Canon c) {xs ys : List Int} (hg : Gr c xs ys) : c.length ≤ ys.length * xs.length := by
  obtain ⟨bs, hb, rfl⟩ := hc
  have h1 := flat_len bs xs.length fun b h => band_len hb hg h
  have h2 := rise_len (bs.map (·.y)) ys (bands_rise hb) fun v hv => by
    obtain ⟨b, hbm, rfl⟩ := List.mem_map.1 hv
    exact (canon_lines hb hg b hbm).1
  rw [List.length_map] at h2
  exact Nat.le_trans h1 (Nat.mul_le_mul_right _ h2)
theorem rowT_few {c : List Rect} (hc : Canon c) {xs ys : List Int} (hg : Gr c xs ys) (y : Int) : (rowT y c).length ≤ xs.length := by
  obtain ⟨bs, hb, rfl⟩ := hc
  rcases rowT_bands y hb with ⟨b, h1, h2, h3, h4, -⟩ | ⟨h, -⟩
  · rw [h4]; exact band_len hb hg h1
  · rw [h]; simp
theorem canon_y {c : List Rect} (hc : Canon c) {xs ys : List Int} (hg : Gr c xs ys) {r : Rect} (h : r ∈ c) : r.Y ∈ ys ∧ r.Y + r.H ∈ ys := by
  obtain ⟨bs, hb, rfl⟩ := hc
  obtain ⟨b, h1, h2⟩ := mem_rects.1 h
  have := rect_band h2
  have k := canon_lines hb hg b h1
  rw [this.2, this.1]
  exact ⟨k.1, k.2.1⟩
theorem ysJ_few {a b : List Rect} (ha : Canon a) (hb : Canon b) {xs ys xs' ys' : List Int} (hga : Gr a xs ys) (hgb : Gr b xs' ys') : (ysJ a b).length ≤ ys.length + ys'.length := by
  rw [← List.length_append]
  refine rise_len _ _ ?_ fun v hv => ?_
  · rw [List.pairwise_iff_getElem]
    intro i j hi hj hij
    have hj2 : j < (cutsOf fY [a, b].flatten).length := hj
    have := cuts_lt fY [a, b].flatten hij hj2
    rw [getElem!_pos _ i (by omega), getElem!_pos _ j hj2] at this
    exact this
  · unfold ysJ at hv
    rw [fl2] at hv
    obtain ⟨r, hr, hv⟩ := cuts_mem.1 hv
    rcases List.mem_append.1 hr with hr | hr
    · have := canon_y ha hga hr
      refine List.mem_append.2 (.inl ?_)
      rcases hv with rfl | rfl
      · exact this.1
      · exact this.2
    · have := canon_y hb hgb hr
      refine List.mem_append.2 (.inr ?_)
      rcases hv with rfl | rfl
      · exact this.1
      · exact this.2
structure Reg (n : Nat) (c : List Rect) : Prop where
  canon : Canon c
  ok : ∀ r ∈ c, rok r
  few : ∃ xs ys, xs.length ≤ n ∧ ys.length ≤ n ∧ Gr c xs ys
theorem Reg.mono {n m : Nat} {c : List Rect} (h : Reg n c) (k : n ≤ m) : Reg m c := ⟨h.1, h.2, let ⟨xs, ys, h1, h2, h3⟩ := h.3; ⟨xs, ys, by omega, by omega, h3⟩⟩
theorem Reg.len {n : Nat} {c : List Rect} (h : Reg n c) : c.length ≤ n * n := by
  obtain ⟨xs, ys, h1, h2, h3⟩ := h.3
  exact Nat.le_trans (canon_len h.1 h3) (Nat.mul_le_mul h2 h1)
theorem Reg.row {n : Nat} {c : List Rect} (h : Reg n c) (y : Int) : (rowT y c).length ≤ n := by
  obtain ⟨xs, ys, h1, h2, h3⟩ := h.3
  exact Nat.le_trans (rowT_few h.1 h3 y) h1
theorem Reg.ys {n m : Nat} {a b : List Rect} (h : Reg n a) (k : Reg m b) : (ysJ a b).length ≤ n + m := by
  obtain ⟨xs, ys, h1, h2, h3⟩ := h.3
  obtain ⟨xs', ys', k1, k2, k3⟩ := k.3
  have := ysJ_few h.1 k.1 h3 k3
  omega
theorem gr_congr {a b : List Rect} {xs ys : List Int} (h : Gr a xs ys) (k : ∀ x z, inL b x z ↔ inL a x z) : Gr b xs ys := ⟨fun x y hx => by rw [k, k]; exact h.1 x y hx, fun x y hx => by rw [k, k]; exact h.2 x y hx⟩
theorem Reg.of (l : List Rect) : Reg (2 * l.length) (bandOf l) := ⟨bandOf_canon l, bandOf_rok l, by
  obtain ⟨xs, ys, h1, h2, h3⟩ := gr_list (l.filter countsB)
  have := List.length_filter_le countsB l
  exact ⟨xs, ys, by omega, by omega, gr_congr h3 (bandOf_in l)⟩⟩
theorem Reg.nil : Reg 0 [] := ⟨canon_nil, by simp, [], [], by simp, by simp, fun x y _ => ⟨fun h => absurd h inL_nil, fun h => absurd h inL_nil⟩, fun x y _ => ⟨fun h => absurd h inL_nil, fun h => absurd h inL_nil⟩⟩
theorem box_len {c : List Rect} (hc : Canon c) (w h : Nat) (hb : ∀ x y, inL c x y → 0 ≤ x ∧ x < w ∧ 0 ≤ y ∧ y < h) : c.length ≤ (h + 1) * (w + 1) := by
  have hm : ∀ (n : Nat) (x : Int), x ∉ (List.range (n + 1)).map (fun i : Nat => (i : Int)) → x < 0 ∨ n < x := fun n x hx => by
    by_cases h0 : 0 ≤ x ∧ x ≤ n
    · exact absurd (List.mem_map.2 ⟨x.toNat, List.mem_range.2 (by omega), Int.toNat_of_nonneg h0.1⟩) hx
    · omega
  have := canon_len hc (xs := (List.range (w + 1)).map (fun i : Nat => (i : Int))) (ys := (List.range (h + 1)).map (fun i : Nat => (i : Int))) ⟨fun x y hx => by
    have := hm w x hx
    constructor
    · intro k; have := hb _ _ k; omega
    · intro k; have := hb _ _ k; omega, fun x y hy => by
    have := hm h y hy
    constructor
    · intro k; have := hb _ _ k; omega
    · intro k; have := hb _ _ k; omega⟩
  simpa using this
theorem outJ_lenM (k : Bool → Bool → Bool) (a b : List Rect) (m : Nat) (hm : ∀ y, (rowT y a).length + (rowT y b).length ≤ m) : ∀ n, (outJ k a b n).length ≤ n * (2 * m)
  | 0 => by simp [outJ]
  | n + 1 => by
    rw [outJ_succ, List.length_append, Nat.add_mul]
    have h1 := outJ_lenM k a b m hm n
    have h2 := rowJ_len k (ysJ a b)[n]! ((ysJ a b)[n + 1]! - (ysJ a b)[n]!) (rowT (ysJ a b)[n]! a) (rowT (ysJ a b)[n]! b) ((xsJ (rowT (ysJ a b)[n]! a) (rowT (ysJ a b)[n]! b)).length - 1)
    have h3 := xsJ_len (rowT (ysJ a b)[n]! a) (rowT (ysJ a b)[n]! b)
    have h4 := hm (ysJ a b)[n]!
    omega
end
section
open Classical in
noncomputable def paintL (w : Nat) (V : Int → Int → Prop) (f : Int → Int → Int → Int) (px : List Int) : List Int :=
  (List.range px.length).map fun i => if V (i % w : Nat) (i / w : Nat) then f (i % w : Nat) (i / w : Nat) px[i]! else px[i]!
theorem paintL_len (w : Nat) (V : Int → Int → Prop) (f : Int → Int → Int → Int) (px : List Int) : (paintL w V f px).length = px.length := by unfold paintL; rw [List.length_map, List.length_range]
theorem place_at {w : Nat} {x y : Int} (hx : 0 ≤ x ∧ x < w) (hy : 0 ≤ y) : ((y * w + x).toNat % w : Nat) = x.toNat ∧ ((y * w + x).toNat / w : Nat) = y.toNat := by
  obtain ⟨a, rfl⟩ := Int.eq_ofNat_of_zero_le hx.1
  obtain ⟨b, rfl⟩ := Int.eq_ofNat_of_zero_le hy
  have h : a < w := by omega
  rw [show ((b : Int) * w + a).toNat = b * w + a from by rw [show ((b : Int) * w + a) = ((b * w + a : Nat) : Int) from by simp]; rfl]
  simp only [Int.toNat_natCast]
  constructor
  · rw [Nat.mul_comm, Nat.mul_add_mod, Nat.mod_eq_of_lt h]
  · rw [Nat.mul_comm, Nat.mul_add_div (by omega), Nat.div_eq_of_lt h, Nat.add_zero]
open Classical in
theorem paintL_get {w : Nat} {V : Int → Int → Prop} {f : Int → Int → Int → Int} {px : List Int} {i : Nat} (h : i < px.length) : (paintL w V f px)[i]! = if V (i % w : Nat) (i / w : Nat) then f (i % w : Nat) (i / w : Nat) px[i]! else px[i]! := by
  rw [getElem!_pos (paintL w V f px) i (by rw [paintL_len]; exact h)]
  unfold paintL
  rw [List.getElem_map, List.getElem_range]
open Classical in
theorem paintL_at {w : Nat} {V : Int → Int → Prop} {f : Int → Int → Int → Int} {px : List Int} {x y : Int} (hx : 0 ≤ x ∧ x < w) (hy : 0 ≤ y) (h : (y * w + x).toNat < px.length) :
    (paintL w V f px)[(y * w + x).toNat]! = if V x y then f x y px[(y * w + x).toNat]! else px[(y * w + x).toNat]! := by
  obtain ⟨e1, e2⟩ := place_at hx hy
  rw [paintL_get h, e1, e2, Int.toNat_of_nonneg hx.1, Int.toNat_of_nonneg hy]
theorem paintL_not {w : Nat} {V : Int → Int → Prop} {f : Int → Int → Int → Int} {px : List Int} {x y : Int} (hx : 0 ≤ x ∧ x < w) (hy : 0 ≤ y) (h : (y * w + x).toNat < px.length) (hV : ¬ V x y) :
    (paintL w V f px)[(y * w + x).toNat]! = px[(y * w + x).toNat]! := by rw [paintL_at hx hy h, if_neg hV]
theorem paintL_yes {w : Nat} {V : Int → Int → Prop} {f : Int → Int → Int → Int} {px : List Int} {x y : Int} (hx : 0 ≤ x ∧ x < w) (hy : 0 ≤ y) (h : (y * w + x).toNat < px.length) (hV : V x y) :
    (paintL w V f px)[(y * w + x).toNat]! = f x y px[(y * w + x).toNat]! := by rw [paintL_at hx hy h, if_pos hV]
theorem listI_ext {a b : List Int} (h : a.length = b.length) (k : ∀ i, i < a.length → a[i]! = b[i]!) : a = b := by
  refine List.ext_getElem h fun i h1 h2 => ?_
  have := k i h1
  rw [getElem!_pos a i h1, getElem!_pos b i h2] at this
  exact this
theorem place_of {w i : Nat} {n : Nat} (hw : 0 < w) (h : i < n) : 0 ≤ ((i % w : Nat) : Int) ∧ ((i % w : Nat) : Int) < w ∧ 0 ≤ ((i / w : Nat) : Int) ∧ (((i / w : Nat) : Int) * w + ((i % w : Nat) : Int)).toNat = i := by
  have := Nat.mod_lt i hw
  refine ⟨Int.natCast_nonneg _, Int.ofNat_lt.2 this, Int.natCast_nonneg _, ?_⟩
  rw [show (((i / w : Nat) : Int) * w + ((i % w : Nat) : Int)) = ((i / w * w + i % w : Nat) : Int) from by simp, Int.toNat_natCast, Nat.mul_comm, Nat.div_add_mod]
theorem px_ext {w h : Nat} {a b : List Int} (ha : a.length = w * h) (hb : b.length = w * h) (k : ∀ x y : Int, 0 ≤ x → x < w → 0 ≤ y → y < h → a[(y * w + x).toNat]! = b[(y * w + x).toNat]!) : a = b := by
  refine listI_ext (by omega) fun i hi => ?_
  have hw : 0 < w := by rcases Nat.eq_zero_or_pos w with h | h; rw [h, Nat.zero_mul] at ha; omega; exact h
  obtain ⟨h1, h2, h3, h4⟩ := place_of hw hi
  have h5 : i / w < h := Nat.div_lt_of_lt_mul (by omega)
  have := k _ _ h1 h2 h3 (by omega)
  rw [h4] at this
  exact this
theorem place_lt {w h : Nat} {x y : Int} (hx : 0 ≤ x) (hx2 : x < w) (hy : 0 ≤ y) (hy2 : y < h) : (y * w + x).toNat < w * h ∧ 0 ≤ y * w + x := by
  obtain ⟨a, rfl⟩ := Int.eq_ofNat_of_zero_le hx
  obtain ⟨b, rfl⟩ := Int.eq_ofNat_of_zero_le hy
  have h1 : a < w := by omega
  have h2 : b + 1 ≤ h := by omega
  rw [show ((b : Int) * w + a) = ((b * w + a : Nat) : Int) from by simp, Int.toNat_natCast]
  have := Nat.mul_le_mul_right w h2
  rw [Nat.add_mul, Nat.one_mul] at this
  rw [Nat.mul_comm w h]
  omega
theorem place_ne {w : Nat} {x y a b : Int} (hx : 0 ≤ x ∧ x < w) (hy : 0 ≤ y) (ha : 0 ≤ a ∧ a < w) (hb : 0 ≤ b) (h : (y * w + x).toNat = (b * w + a).toNat) : a = x ∧ b = y := by
  obtain ⟨e1, e2⟩ := place_at hx hy
  obtain ⟨e3, e4⟩ := place_at ha hb
  rw [h] at e1 e2
  omega
theorem paint_put {w h : Nat} {V : Int → Int → Prop} {f : Int → Int → Int → Int} {px : List Int} {x y v : Int} (hl : px.length = w * h) (hx : 0 ≤ x) (hx2 : x < w) (hy : 0 ≤ y) (hy2 : y < h) (hv : v = f x y px[(y * w + x).toNat]!) {V' : Int → Int → Prop} (hV : ∀ a b : Int, 0 ≤ a → a < w → 0 ≤ b → b < h → (V' a b ↔ V a b ∨ (a = x ∧ b = y))) :
    (paintL w V f px).set (y * w + x).toNat v = paintL w V' f px := by
  have hp := (place_lt hx hx2 hy hy2).1
  refine px_ext (h := h) (by rw [List.length_set, paintL_len, hl]) (by rw [paintL_len, hl]) fun a b ha ha2 hb hb2 => ?_
  have hq := (place_lt ha ha2 hb hb2).1
  rw [getElem!_pos _ _ (by rw [List.length_set, paintL_len]; omega), List.getElem_set]
  split
  · rename_i e
    obtain ⟨rfl, rfl⟩ := place_ne ⟨hx, hx2⟩ hy ⟨ha, ha2⟩ hb e
    rw [paintL_yes ⟨ha, ha2⟩ hb (by omega) ((hV a b ha ha2 hb hb2).2 (.inr ⟨rfl, rfl⟩)), hv]
  · rename_i e
    rw [← getElem!_pos (paintL w V f px) _ (by rw [paintL_len]; omega)]
    rw [paintL_at ⟨ha, ha2⟩ hb (by omega), paintL_at ⟨ha, ha2⟩ hb (by omega)]
    have : V' a b ↔ V a b := by
      rw [hV a b ha ha2 hb hb2]
      constructor
      · rintro (k | ⟨rfl, rfl⟩)
        · exact k
        · exact absurd rfl e
      · exact .inl
    by_cases hc : V a b
    · rw [if_pos hc, if_pos (this.2 hc)]
    · rw [if_neg hc, if_neg (fun q => hc (this.1 q))]
theorem paint_congr {w h : Nat} {V V' : Int → Int → Prop} {f g : Int → Int → Int → Int} {px : List Int} (hl : px.length = w * h) (hV : ∀ a b : Int, 0 ≤ a → a < w → 0 ≤ b → b < h → (V' a b ↔ V a b)) (hf : ∀ a b : Int, 0 ≤ a → a < w → 0 ≤ b → b < h → V a b → g a b px[(b * w + a).toNat]! = f a b px[(b * w + a).toNat]!) : paintL w V f px = paintL w V' g px := by
  refine px_ext (h := h) (by rw [paintL_len, hl]) (by rw [paintL_len, hl]) fun a b ha ha2 hb hb2 => ?_
  have hq := (place_lt ha ha2 hb hb2).1
  rw [paintL_at ⟨ha, ha2⟩ hb (by omega), paintL_at ⟨ha, ha2⟩ hb (by omega)]
  have := hV a b ha ha2 hb hb2
  by_cases hc : V a b
  · rw [if_pos hc, if_pos (this.2 hc)]; exact (hf a b ha ha2 hb hb2 hc).symm
  · rw [if_neg hc, if_neg (fun q => hc (this.1 q))]
theorem paint_none {w h : Nat} {V : Int → Int → Prop} {f : Int → Int → Int → Int} {px : List Int} (hl : px.length = w * h) (hV : ∀ a b : Int, 0 ≤ a → a < w → 0 ≤ b → b < h → ¬ V a b) : paintL w V f px = px := by
  refine px_ext (h := h) (by rw [paintL_len, hl]) hl fun a b ha ha2 hb hb2 => ?_
  have hq := (place_lt ha ha2 hb hb2).1
  exact paintL_not ⟨ha, ha2⟩ hb (by omega) (hV a b ha ha2 hb hb2)
theorem inL_take {l : List Rect} {k : Nat} (hk : k < l.length) {x y : Int} : inL (l.take (k + 1)) x y ↔ inL (l.take k) x y ∨ l[k]!.has x y := by
  rw [List.take_succ_eq_append_getElem hk, inL_append, getElem!_pos l k hk, inL_cons]
  constructor
  · rintro (h | h | h)
    · exact .inl h
    · exact .inr h
    · exact absurd h inL_nil
  · rintro (h | h)
    · exact .inl h
    · exact .inr (.inl h)
end
section
open Go.RowKit Go.Sort
set_option maxRecDepth 10000
abbrev gT (w h : Nat) (px : List Int) : T := .agg [I64 w, I64 h, .islc (encL cU px) px.length none]
def flF (p : Int) : Int → Int → Int → Int := fun _ _ _ => p
def rowV (V : Int → Int → Prop) (y fr to : Int) (a b : Int) : Prop := V a b ∨ (b = y ∧ fr ≤ a ∧ a < to)
section
variable {q : Bool} {P : Program} {tab : Tab} {im : List Nat} {ds : List (Option Nat)} {l : List Oper} {E : Env} {H : Hp} {K : Env → Hp → Prop} {d : Nat} {ty : TypeId} {pos : String} {after : Array Edge}
theorem VX.max2 [Dr] {x y : Operand} {t1 t2 : TypeId} {a b : Int} (hx : E.opd x = some (I64 a)) (hy : E.opd y = some (I64 b)) (k : VX q P tab im ds l ((d, I64 (max a b)) :: E) H K) : VX q P tab im ds (⟨some d, .call ⟨.builtin .max, #[x, y], #[t1, t2]⟩, ty, pos, after, none⟩ :: l) E H K := by
  refine VX.meek (t := I64 (max a b)) ?_ k
  have e : (if b > a then b else a) = max a b := by rw [Int.max_def]; split <;> split <;> omega
  simp only [opM, optL, hx, hy, mMins, mMin, Bool.false_eq_true, if_false, e]
theorem VX.min2 [Dr] {x y : Operand} {t1 t2 : TypeId} {a b : Int} (hx : E.opd x = some (I64 a)) (hy : E.opd y = some (I64 b)) (k : VX q P tab im ds l ((d, I64 (min a b)) :: E) H K) : VX q P tab im ds (⟨some d, .call ⟨.builtin .min, #[x, y], #[t1, t2]⟩, ty, pos, after, none⟩ :: l) E H K := by
  refine VX.meek (t := I64 (min a b)) ?_ k
  have e : (if b < a then b else a) = min a b := by rw [Int.min_def]; split <;> split <;> omega
  simp only [opM, optL, hx, hy, mMins, mMin, if_true, e]
end
theorem cells_put {s : List Int} {m : Nat} {v : Int} (h : m < s.length) : putL (encL cU s) (m * 1) [U8 v] = encL cU (s.set m v) := by
  have := encL_put cU s m 0 s[m]! v [U8 v] (getE h) (Nat.le_refl _) rfl
  rw [cU_sz, Nat.add_zero] at this
  exact this
theorem cv_g {v : Vw} {w h : Nat} {a b : T} (k : Cv v a b) : CvL v [I64 w, I64 h, a] [I64 w, I64 h, b] := .cons (.pure rfl) (.cons (.pure rfl) (.cons k .nil))
theorem fill1_t [Dr] (w h : Nat) (px : List Int) (V : Int → Int → Prop) (p y fr to : Int) (c : Option Nat) (hw : w ≤ 128) (hh : h ≤ 128) (hl : px.length = w * h) (hy : 0 ≤ y) (hy2 : y < h) (hf : 0 ≤ fr) (hft : fr ≤ to) (ht : to ≤ w) :
    CallT Tryz.prog 60 [I64 y, I64 fr, I64 to, .iptr [U8 p] 0, .ptr 0 0] [.c [I64 w, I64 h, .slc 1 0 px.length 1 c], .c (encL cU (paintL w V (flF p) px))]
      (fun t H' => t = .tup [] ∧ H' = [.c [I64 w, I64 h, .slc 1 0 px.length 1 c], .c (encL cU (paintL w (rowV V y fr to) (flF p) px))]) := by
  refine CallT.intro tab_ok Tryz.func60 rfl (by kernel_rfl) (Nat.le_of_ble_eq_true rfl) ?_
  refine VC.reg tab_ok [] rfl ?_
  iterate 2 refine VX.meek rfl ?_
  refine VX.nil ?_
  refine VC.block ?_
  refine VC.loopS (σ := Nat) (fun k => (to - fr).toNat - k) (fun k => k ≤ (to - fr).toNat) (fun k => [(8, I64 (fr + k)), (4, .ptr 0 0)]) (fun k => [.c [I64 w, I64 h, .slc 1 0 px.length 1 c], .c (encL cU (paintL w (rowV V y fr (fr + k)) (flF p) px))]) [0, 2, 3] rfl (0) ?_ ?_ ?_
  · refine ⟨[some 0, some 1], rfl, by first | trivial | decide, rfl, ?_, ?_⟩ <;> (repeat' first | exact trivial | exact CvB_n | exact CvB_d | refine CvE_app ?_ ?_ | refine CvE_cons rfl ?_ ?_ | refine CvH_cons ?_ ?_ | refine CvB_c rfl ?_ | fail) <;> first | exact au_v | (first | exact cv_g (Cv.slc rfl (.inl rfl)) | exact Cv.eq (congrArg I64 (by simp)) rfl | exact CvL.eq (congrArg (encL cU) (paint_congr hl (fun a b _ _ _ _ => by unfold rowV; constructor; (rintro (h | h); exact h; exfalso; omega); exact .inl) (fun _ _ _ _ _ _ _ => rfl))) (encL_pure cU _))
  · (try dsimp only); omega
  rintro k hk
  refine VC.seq ?_
  refine VC.reg tab_ok [] rfl ?_
  iterate 3 refine VX.meek rfl ?_
  refine VX.nil ?_
  refine VC.cond rfl (fun hc0 => ?_) (fun hc0 => ?_)
  · (try simp only [au_std] at hc0); have hin := in_place (x := fr + k) hw hh (by omega) (by omega) hy hy2; have hpl := paintL_len w (rowV V y fr (fr + k)) (flF p) px
    refine VC.skip ?_
    refine VC.seq ?_
    refine VC.block ?_
    refine VC.regN tab_ok [] rfl ?_
    refine VX.meek rfl ?_
    first | refine VX.meek rfl ?_ | refine VX.loadI rfl rfl au_l ?_ | refine VX.loadP rfl rfl rfl au_l ?_
    iterate 2 refine VX.meek rfl ?_
    first | refine VX.meek rfl ?_ | refine VX.loadI rfl rfl au_l ?_ | refine VX.loadP rfl rfl rfl au_l ?_
    first | refine VX.mul rfl rfl (by omega) ?_ | refine VX.meek rfl ?_
    refine VX.meek rfl ?_
    first | refine VX.add rfl rfl (by omega) ?_ | refine VX.meek rfl ?_
    first | refine VX.meek rfl ?_ | refine VX.loadI rfl rfl au_l ?_ | refine VX.loadP rfl rfl rfl au_l ?_
    first | refine VX.idxI rfl rfl rfl rfl rfl rfl (by omega) ?_ | refine VX.idxO0 rfl rfl rfl rfl rfl rfl rfl (by omega) ?_ | refine VX.idxO0 rfl rfl rfl rfl rfl rfl au_z (by omega) ?_ | refine VX.idxO rfl rfl rfl rfl rfl rfl rfl (by omega) ?_ | refine VX.idxI rfl rfl rfl rfl rfl au_z (by omega) ?_ | refine VX.idxO rfl rfl rfl rfl rfl rfl au_z (by omega) ?_ | refine VX.meek rfl ?_
    refine VX.store rfl rfl rfl rfl rfl (by rw [encL_len, cU_sz]; dsimp only; omega) rfl ?_
    refine VX.nil ?_
    refine VC.regN tab_ok [] rfl ?_
    refine VX.meek rfl ?_
    first | refine VX.add rfl rfl (by omega) ?_ | refine VX.meek rfl ?_
    refine VX.meek rfl ?_
    refine VX.nil ?_
    refine ⟨k + 1, by (try dsimp only); omega, ?_, (by refine ⟨[some 0, some 1], rfl, by first | trivial | decide, rfl, ?_, ?_⟩ <;> (repeat' first | exact trivial | exact CvB_n | exact CvB_d | refine CvE_app ?_ ?_ | refine CvE_cons rfl ?_ ?_ | refine CvH_cons ?_ ?_ | refine CvB_c rfl ?_ | fail) <;> first | exact au_v | (first | exact cv_g (Cv.slc rfl (.inl rfl)) | exact Cv.eq (congrArg I64 (by omega)) rfl | exact CvL.eq ((cells_put (by omega)).trans (congrArg (encL cU) (paint_put hl (by omega) (by omega) hy hy2 rfl (fun a b _ _ _ _ => by unfold rowV; by_cases hV : V a b; simp [hV]; simp only [hV, false_or, iff_false]; omega)))) (encL_pure cU _)))⟩
    (try dsimp only); omega
  · (try simp only [au_std] at hc0); have e : fr + k = to := (by omega); rw [e]
    refine VC.exit ?_
    exact ⟨trivial, _, rfl, rfl, rfl⟩
theorem gspans_t [Dr] (w h : Nat) (px : List Int) (l : List Rect) (p : Int) (c : Option Nat) (hw : w ≤ 128) (hh : h ≤ 128) (hl : px.length = w * h) (hr : ∀ r ∈ l, rok r) (hn : l.length ≤ 1048576) :
    CallT Tryz.prog 59 [.agg [I64 w, I64 h, .slc 1 0 px.length 1 c], regT l, .clo 60 [] [.iptr [U8 p] 0, .ptr 0 0]] [.c [I64 w, I64 h, .slc 1 0 px.length 1 c], .c (encL cU px)]
      (fun t H' => t = .tup [] ∧ H' = [.c [I64 w, I64 h, .slc 1 0 px.length 1 c], .c (encL cU (paintL w (inL l) (flF p) px))]) := by
  refine CallT.intro tab_ok Tryz.func59 rfl (by kernel_rfl) (Nat.le_of_ble_eq_true rfl) ?_
  refine VC.reg tab_ok [3, 4] rfl ?_
  refine VX.newI rfl rfl ?_
  refine VX.newI rfl rfl ?_
  refine VX.nil ?_
  refine VC.scope ?_
  refine VC.seq ?_
  refine VC.label ?_
  refine VC.reg tab_ok [] rfl ?_
  first | refine VX.meek rfl ?_ | refine VX.loadI rfl rfl au_l ?_ | refine VX.loadP rfl rfl rfl au_l ?_
  refine VX.callP0 rfl rfl rfl (rects_p l hn) ?_
  iterate 2 refine VX.meek rfl ?_
  refine VX.nil ?_
  refine VC.block ?_
  refine VC.loopS (σ := Nat) (fun k => l.length - k) (fun k => k ≤ l.length) (fun k => [(14, I64 k), (2, .clo 60 [] [.iptr [U8 p] 0, .ptr 0 0]), (3, .iptr [I64 w, I64 h, .slc 1 0 px.length 1 none] 0)]) (fun k => [.c [I64 w, I64 h, .slc 1 0 px.length 1 c], .c (encL cU (paintL w (inL (l.take k)) (flF p) px))]) [12, 13] rfl (0) ?_ ?_ ?_
  · refine ⟨[some 0, some 1], rfl, by first | trivial | decide, rfl, ?_, ?_⟩ <;> (repeat' first | exact trivial | exact CvB_n | exact CvB_d | refine CvE_app ?_ ?_ | refine CvE_cons rfl ?_ ?_ | refine CvH_cons ?_ ?_ | refine CvB_c rfl ?_ | fail) <;> first | exact au_v | (first | exact cv_g (Cv.slc rfl (.inl rfl)) | exact Cv.iptr (cv_g (Cv.slc rfl (.inr rfl))) | exact Cv.clo CvL.nil (CvL.cons (Cv.pure rfl) (CvL.cons (Cv.ptr rfl) CvL.nil)) | exact CvL.eq (congrArg (encL cU) (paint_none hl (fun a b _ _ _ _ => by rw [List.take_zero]; exact inL_nil)).symm) (encL_pure cU _))
  · (try dsimp only); omega
  rintro k hk
  refine VC.reg tab_ok [] rfl ?_
  refine VX.meek rfl ?_
  refine VX.nil ?_
  refine VC.seq ?_
  refine VC.cond rfl (fun hc0 => ?_) (fun hc0 => ?_)
  · (try simp only [au_std] at hc0); have hkl : k < l.length := (by omega); have hrk := hr l[k]! (List.mem_iff_getElem?.2 ⟨k, getE hkl⟩); unfold rok at hrk
    refine VC.skip ?_
    refine VC.seq ?_
    refine VC.block ?_
    refine VC.reg tab_ok [] rfl ?_
    first | refine VX.idxI rfl rfl rfl rfl rfl rfl (by omega) ?_ | refine VX.idxO0 rfl rfl rfl rfl rfl rfl rfl (by omega) ?_ | refine VX.idxO0 rfl rfl rfl rfl rfl rfl au_z (by omega) ?_ | refine VX.idxO rfl rfl rfl rfl rfl rfl rfl (by omega) ?_ | refine VX.idxI rfl rfl rfl rfl rfl au_z (by omega) ?_ | refine VX.idxO rfl rfl rfl rfl rfl rfl au_z (by omega) ?_ | refine VX.meek rfl ?_
    first | refine VX.meek rfl ?_ | refine VX.loadI rfl rfl au_l ?_ | refine VX.loadP rfl rfl rfl au_l ?_
    refine VX.new rfl rfl ?_
    refine VX.store rfl rfl rfl rfl rfl au_sR rfl ?_
    refine VX.nil ?_
    refine VC.drw tab_ok [] [_, _, _, _, _, _, _, _, _, _, _, _, _] rfl (by kernel_rfl) (by kernel_rfl) ?_
    refine VX.meek rfl ?_
    first | refine VX.meek rfl ?_ | refine VX.loadI rfl rfl au_l ?_ | refine VX.loadP rfl rfl rfl au_l ?_
    refine VX.max2 rfl rfl ?_
    refine VX.meek rfl ?_
    first | refine VX.meek rfl ?_ | refine VX.loadI rfl rfl au_l ?_ | refine VX.loadP rfl rfl rfl au_l ?_
    refine VX.meek rfl ?_
    first | refine VX.meek rfl ?_ | refine VX.loadI rfl rfl au_l ?_ | refine VX.loadP rfl rfl rfl au_l ?_
    first | refine VX.add rfl rfl (by omega) ?_ | refine VX.meek rfl ?_
    refine VX.meek rfl ?_
    first | refine VX.meek rfl ?_ | refine VX.loadI rfl rfl au_l ?_ | refine VX.loadP rfl rfl rfl au_l ?_
    refine VX.min2 rfl rfl ?_
    iterate 2 refine VX.meek rfl ?_
    refine VX.nil ?_
    refine VX.nil ?_
    generalize hfr : max l[k]!.X 0 = fr; generalize hto : min (l[k]!.X + l[k]!.W) (w : Int) = to
    refine VC.seq ?_
    refine VC.reg tab_ok [] rfl ?_
    iterate 3 refine VX.meek rfl ?_
    refine VX.nil ?_
    refine VC.cond rfl (fun hc1 => ?_) (fun hc1 => ?_)
    · (try simp only [au_std] at hc1)
      refine VC.exit ?_
      refine VC.regN tab_ok [] rfl ?_
      first | refine VX.add rfl rfl (by omega) ?_ | refine VX.meek rfl ?_
      refine VX.meek rfl ?_
      refine VX.nil ?_
      refine ⟨k + 1, by (try dsimp only); omega, ?_, (by refine ⟨[some 0, some 1], rfl, by first | trivial | decide, rfl, ?_, ?_⟩ <;> (repeat' first | exact trivial | exact CvB_n | exact CvB_d | refine CvE_app ?_ ?_ | refine CvE_cons rfl ?_ ?_ | refine CvH_cons ?_ ?_ | refine CvB_c rfl ?_ | fail) <;> first | exact au_v | (first | exact cv_g (Cv.slc rfl (.inl rfl)) | exact Cv.iptr (cv_g (Cv.slc rfl (.inr rfl))) | exact Cv.clo CvL.nil (CvL.cons (Cv.pure rfl) (CvL.cons (Cv.ptr rfl) CvL.nil)) | exact CvL.eq (congrArg (encL cU) (paint_congr hl (fun a b _ _ _ _ => by rw [inL_take hkl]; unfold Rect.has; by_cases hV : inL (l.take k) a b; simp [hV]; simp only [hV, false_or, iff_false]; omega) (fun _ _ _ _ _ _ _ => rfl))) (encL_pure cU _)))⟩
      (try dsimp only); omega
    · (try simp only [au_std] at hc1)
      refine VC.skip ?_
      refine VC.reg tab_ok [] rfl ?_
      refine VX.meek rfl ?_
      first | refine VX.meek rfl ?_ | refine VX.loadI rfl rfl au_l ?_ | refine VX.loadP rfl rfl rfl au_l ?_
      refine VX.max2 rfl rfl ?_
      refine VX.meek rfl ?_
      refine VX.nil ?_
      generalize hy0 : max l[k]!.Y 0 = y0
      refine VC.block ?_
      refine VC.loopS (σ := Nat) (fun j => (h - y0).toNat + 1 - j) (fun j => y0 + j ≤ h ∨ j = 0) (fun j => [(10, I64 (y0 + j)), (2, .clo 60 [] [.iptr [U8 p] 0, .ptr 0 0]), (3, .iptr [I64 w, I64 h, .slc 1 0 px.length 1 none] 0), (7, .ptr 2 0)]) (fun j => [.c [I64 w, I64 h, .slc 1 0 px.length 1 c], .c (encL cU (paintL w (fun a b => inL (l.take k) a b ∨ (l[k]!.has a b ∧ b < y0 + j)) (flF p) px)), .c [I64 l[k]!.X, I64 l[k]!.Y, I64 l[k]!.W, I64 l[k]!.H]]) [8, 9, 12, 13, 14] rfl (0) ?_ ?_ ?_
      · refine ⟨[some 0, some 1, some 2], rfl, by first | trivial | decide, rfl, ?_, ?_⟩ <;> (repeat' first | exact trivial | exact CvB_n | exact CvB_d | refine CvE_app ?_ ?_ | refine CvE_cons rfl ?_ ?_ | refine CvH_cons ?_ ?_ | refine CvB_c rfl ?_ | fail) <;> first | exact au_v | (first | exact cv_g (Cv.slc rfl (.inl rfl)) | exact Cv.iptr (cv_g (Cv.slc rfl (.inr rfl))) | exact Cv.clo CvL.nil (CvL.cons (Cv.pure rfl) (CvL.cons (Cv.ptr rfl) CvL.nil)) | exact Cv.eq (congrArg I64 (by simp)) rfl | exact CvL.eq (congrArg (encL cU) (paint_congr hl (fun a b _ _ _ _ => by unfold Rect.has; by_cases hV : inL (l.take k) a b; simp [hV]; simp only [hV, false_or, iff_false]; omega) (fun _ _ _ _ _ _ _ => rfl))) (encL_pure cU _))
      · (try dsimp only); omega
      rintro j hj
      refine VC.seq ?_
      refine VC.reg tab_ok [] rfl ?_
      iterate 2 refine VX.meek rfl ?_
      first | refine VX.meek rfl ?_ | refine VX.loadI rfl rfl au_l ?_ | refine VX.loadP rfl rfl rfl au_l ?_
      refine VX.meek rfl ?_
      first | refine VX.meek rfl ?_ | refine VX.loadI rfl rfl au_l ?_ | refine VX.loadP rfl rfl rfl au_l ?_
      first | refine VX.add rfl rfl (by omega) ?_ | refine VX.meek rfl ?_
      refine VX.meek rfl ?_
      refine VX.nil ?_
      refine VC.cond rfl (fun hc2 => ?_) (fun hc2 => ?_)
      · (try simp only [au_std] at hc2)
        refine VC.skip ?_
        refine VC.seq ?_
        refine VC.block ?_
        refine VC.seq ?_
        refine VC.reg tab_ok [] rfl ?_
        iterate 2 refine VX.meek rfl ?_
        first | refine VX.meek rfl ?_ | refine VX.loadI rfl rfl au_l ?_ | refine VX.loadP rfl rfl rfl au_l ?_
        refine VX.meek rfl ?_
        refine VX.nil ?_
        refine VC.cond rfl (fun hc3 => ?_) (fun hc3 => ?_)
        · (try simp only [au_std] at hc3)
          refine VC.exit ?_
          refine VC.regN tab_ok [] rfl ?_
          first | refine VX.add rfl rfl (by omega) ?_ | refine VX.meek rfl ?_
          refine VX.meek rfl ?_
          refine VX.nil ?_
          refine ⟨k + 1, by (try dsimp only); omega, ?_, (by refine ⟨[some 0, some 1], rfl, by first | trivial | decide, rfl, ?_, ?_⟩ <;> (repeat' first | exact trivial | exact CvB_n | exact CvB_d | refine CvE_app ?_ ?_ | refine CvE_cons rfl ?_ ?_ | refine CvH_cons ?_ ?_ | refine CvB_c rfl ?_ | fail) <;> first | exact au_v | (first | exact cv_g (Cv.slc rfl (.inl rfl)) | exact Cv.iptr (cv_g (Cv.slc rfl (.inr rfl))) | exact Cv.clo CvL.nil (CvL.cons (Cv.pure rfl) (CvL.cons (Cv.ptr rfl) CvL.nil)) | exact CvL.eq (congrArg (encL cU) (paint_congr hl (fun a b _ _ _ _ => by rw [inL_take hkl]; unfold Rect.has; by_cases hV : inL (l.take k) a b; simp [hV]; simp only [hV, false_or, iff_false]; omega) (fun _ _ _ _ _ _ _ => rfl))) (encL_pure cU _)))⟩
          (try dsimp only); omega
        · (try simp only [au_std] at hc3); have hft : fr < to := (by omega); have hrow : (paintL w (rowV (fun a b => inL (l.take k) a b ∨ (l[k]!.has a b ∧ b < y0 + j)) (y0 + j) fr to) (flF p) px) = paintL w (fun a b => inL (l.take k) a b ∨ (l[k]!.has a b ∧ b < y0 + (j + 1 : Nat))) (flF p) px := paint_congr hl (fun a b _ _ _ _ => by unfold rowV Rect.has; by_cases hV : inL (l.take k) a b; simp [hV]; simp only [hV, false_or, iff_false]; omega) (fun _ _ _ _ _ _ _ => rfl)
          refine VC.skip ?_
          refine VC.regN tab_ok [] rfl ?_
          iterate 4 refine VX.meek rfl ?_
          refine VX.callT rfl rfl (CallT.frame (fill1_t w h px (fun a b => inL (l.take k) a b ∨ (l[k]!.has a b ∧ b < y0 + j)) p (y0 + j) fr to c hw hh hl (by omega) (by omega) (by omega) (by omega) (by omega)) [0, 1] rfl au_ci au_ci ?_)
          rintro _ _ ⟨rfl, rfl⟩
          refine frK au_co au_co ?_
          refine VX.nil ?_
          refine VC.regN tab_ok [] rfl ?_
          refine VX.meek rfl ?_
          first | refine VX.add rfl rfl (by omega) ?_ | refine VX.meek rfl ?_
          refine VX.meek rfl ?_
          refine VX.nil ?_
          refine ⟨j + 1, by (try dsimp only); omega, ?_, (by refine ⟨[some 0, some 1, some 2], rfl, by first | trivial | decide, rfl, ?_, ?_⟩ <;> (repeat' first | exact trivial | exact CvB_n | exact CvB_d | refine CvE_app ?_ ?_ | refine CvE_cons rfl ?_ ?_ | refine CvH_cons ?_ ?_ | refine CvB_c rfl ?_ | fail) <;> first | exact au_v | (first | exact cv_g (Cv.slc rfl (.inl rfl)) | exact Cv.iptr (cv_g (Cv.slc rfl (.inr rfl))) | exact Cv.clo CvL.nil (CvL.cons (Cv.pure rfl) (CvL.cons (Cv.ptr rfl) CvL.nil)) | exact Cv.eq (congrArg I64 (by omega)) rfl | exact CvL.eq (congrArg (encL cU) hrow) (encL_pure cU _)))⟩
          (try dsimp only); omega
      · (try simp only [au_std] at hc2)
        refine VC.exit ?_
        refine VC.regN tab_ok [] rfl ?_
        first | refine VX.add rfl rfl (by omega) ?_ | refine VX.meek rfl ?_
        refine VX.meek rfl ?_
        refine VX.nil ?_
        refine ⟨k + 1, by (try dsimp only); omega, ?_, (by refine ⟨[some 0, some 1], rfl, by first | trivial | decide, rfl, ?_, ?_⟩ <;> (repeat' first | exact trivial | exact CvB_n | exact CvB_d | refine CvE_app ?_ ?_ | refine CvE_cons rfl ?_ ?_ | refine CvH_cons ?_ ?_ | refine CvB_c rfl ?_ | fail) <;> first | exact au_v | (first | exact cv_g (Cv.slc rfl (.inl rfl)) | exact Cv.iptr (cv_g (Cv.slc rfl (.inr rfl))) | exact Cv.clo CvL.nil (CvL.cons (Cv.pure rfl) (CvL.cons (Cv.ptr rfl) CvL.nil)) | exact CvL.eq (congrArg (encL cU) (paint_congr hl (fun a b _ _ _ _ => by rw [inL_take hkl]; unfold Rect.has; by_cases hV : inL (l.take k) a b; simp [hV]; simp only [hV, false_or, iff_false]; omega) (fun _ _ _ _ _ _ _ => rfl))) (encL_pure cU _)))⟩
        (try dsimp only); omega
  · (try simp only [au_std] at hc0); obtain rfl : k = l.length := (by omega); rw [List.take_length]
    refine VC.exit ?_
    exact ⟨trivial, _, rfl, rfl, rfl⟩
theorem fill_p [Dr] (w h : Nat) (px : List Int) (l : List Rect) (p : Int) (hw : w ≤ 128) (hh : h ≤ 128) (hl : px.length = w * h) (hb : ∀ v ∈ px, 0 ≤ v ∧ v < 256) (hr : ∀ r ∈ l, rok r) (hn : l.length ≤ 1048576) :
    CallP Tryz.prog 20 [gT w h px, regT l, U8 p] (gT w h (paintL w (inL l) (flF p) px)) := by
  have hpl := paintL_len w (inL l) (flF p) px
  refine CallP.intro2 au_pu au_pu ?_
  refine CallT.intro tab_ok Tryz.func20 rfl (by kernel_rfl) (Nat.le_of_ble_eq_true rfl) ?_
  refine VC.reg tab_ok [3, 4, 5] rfl ?_
  refine VX.newI rfl rfl ?_
  refine VX.newI rfl rfl ?_
  refine VX.newI rfl rfl ?_
  refine VX.new rfl rfl ?_
  refine VX.nil ?_
  refine VC.reg tab_ok [] rfl ?_
  first | refine VX.meek rfl ?_ | refine VX.loadI rfl rfl au_l ?_ | refine VX.loadP rfl rfl rfl au_l ?_
  refine VX.callT rfl rfl (CallT.frame (twin_t ⟨w, h, px⟩ ⟨hw, hh, hl, hb⟩) [] rfl au_ci au_ci ?_)
  rintro _ _ ⟨rfl, rfl⟩
  refine frK au_co au_co ?_
  refine VX.new rfl rfl ?_
  refine VX.store rfl rfl rfl rfl rfl au_sR rfl ?_
  refine VX.nil ?_
  refine VC.reg tab_ok [] rfl ?_
  first | refine VX.meek rfl ?_ | refine VX.loadI rfl rfl au_l ?_ | refine VX.loadP rfl rfl rfl au_l ?_
  first | refine VX.meek rfl ?_ | refine VX.loadI rfl rfl au_l ?_ | refine VX.loadP rfl rfl rfl au_l ?_
  refine VX.meek rfl ?_
  refine VX.callT rfl rfl (CallT.frame (gspans_t w h px l p (some px.length) hw hh hl hr hn) [3, 2] rfl au_ci au_ci ?_)
  rintro _ _ ⟨rfl, rfl⟩
  refine frK au_co au_co ?_
  refine VX.nil ?_
  refine VC.reg tab_ok [] rfl ?_
  first | refine VX.meek rfl ?_ | refine VX.loadI rfl rfl au_l ?_ | refine VX.loadP rfl rfl rfl au_l ?_
  refine VX.store rfl rfl rfl rfl rfl au_sR rfl ?_
  refine VX.nil ?_
  refine VC.ret ?_
  refine ⟨trivial, _, rfl, Cv.agg (CvL.cons (Cv.pure rfl) (CvL.cons (Cv.pure rfl) (CvL.cons (by rw [hpl]; exact Cv.fslc0 ⟨rfl, by simp⟩ (CvL.pure (encL_pure cU _))) CvL.nil)))⟩
end
section
open Go.RowKit Go.Sort
set_option maxRecDepth 10000
noncomputable def upTo (w : Nat) (px s : List Int) (v : Nat) : List Int := paintL w (fun x y => s[(y * w + x).toNat]! ≠ px[(y * w + x).toNat]! ∧ s[(y * w + x).toNat]! < v) (fun x y _ => s[(y * w + x).toNat]!) px
theorem upTo_len (w : Nat) (px s : List Int) (v : Nat) : (upTo w px s v).length = px.length := paintL_len _ _ _ _
theorem upTo_zero {w h : Nat} {px s : List Int} (hl : px.length = w * h) (hb : ∀ v ∈ s, 0 ≤ v ∧ v < 256) : upTo w px s 0 = px := paint_none hl fun a b _ _ _ _ hh => by have := bang_bd hb (b * w + a).toNat; omega
theorem upTo_all {w h : Nat} {px s : List Int} (hl : px.length = w * h) (hs : s.length = w * h) (hb : ∀ v ∈ s, 0 ≤ v ∧ v < 256) : upTo w px s 256 = s := by
  refine px_ext (h := h) (by rw [upTo_len, hl]) hs fun x y hx hx2 hy hy2 => ?_
  have hp := (place_lt hx hx2 hy hy2).1
  unfold upTo
  rw [paintL_at ⟨hx, hx2⟩ hy (by omega)]
  have := bang_bd hb (y * w + x).toNat
  split
  · rfl
  · rename_i hc
    by_cases e : s[(y * w + x).toNat]! = px[(y * w + x).toNat]!
    · exact e.symm
    · exact absurd ⟨e, this.2⟩ hc
theorem upTo_step {w h : Nat} {px s : List Int} {v : Nat} {V : Int → Int → Prop} (hl : px.length = w * h) (hV : ∀ x y : Int, 0 ≤ x → x < w → 0 ≤ y → y < h → (V x y ↔ s[(y * w + x).toNat]! = v ∧ px[(y * w + x).toNat]! ≠ v)) : paintL w V (flF v) (upTo w px s v) = upTo w px s (v + 1) := by
  refine px_ext (h := h) (by rw [paintL_len, upTo_len, hl]) (by rw [upTo_len, hl]) fun x y hx hx2 hy hy2 => ?_
  have hp := (place_lt hx hx2 hy hy2).1
  rw [paintL_at ⟨hx, hx2⟩ hy (by rw [upTo_len]; omega)]
  unfold upTo
  rw [paintL_at ⟨hx, hx2⟩ hy (by omega), paintL_at ⟨hx, hx2⟩ hy (by omega)]
  have hv := hV x y hx hx2 hy hy2
  unfold flF
  generalize s[(y * w + x).toNat]! = a at hv ⊢
  generalize px[(y * w + x).toNat]! = b at hv ⊢
  by_cases k : V x y
  · have := hv.1 k
    rw [if_pos k, if_pos ⟨by omega, by omega⟩, this.1]
  · have k' : ¬ (a = v ∧ b ≠ v) := fun q => k (hv.2 q)
    rw [if_neg k]
    by_cases k2 : a ≠ b ∧ a < v
    · rw [if_pos k2, if_pos ⟨k2.1, by omega⟩]
    · rw [if_neg k2, if_neg (fun k3 => k2 ⟨k3.1, by omega⟩)]
theorem upTo_bd {w : Nat} {px s : List Int} {v : Nat} (hp : ∀ v ∈ px, 0 ≤ v ∧ v < 256) (hb : ∀ v ∈ s, 0 ≤ v ∧ v < 256) : ∀ u ∈ upTo w px s v, 0 ≤ u ∧ u < 256 := by
  intro u hu
  unfold upTo paintL at hu
  obtain ⟨i, hi, rfl⟩ := List.mem_map.1 hu
  split
  · exact bang_bd hb _
  · exact bang_bd hp _
theorem runs_band {px s : List Int} {w h : Nat} (hw : w ≤ 128) (hh : h ≤ 128) (hb : ∀ v ∈ s, 0 ≤ v ∧ v < 256) {v : Nat} (hv : v < 256) (x y : Int) : inL (bandOf (runsTo px s w h)[v]!) x y ↔ 0 ≤ x ∧ x < w ∧ 0 ≤ y ∧ y < h ∧ s[(y * w + x).toNat]! = v ∧ px[(y * w + x).toNat]! ≠ v := by
  rw [bandOf_in]
  have e : (runsTo px s w h)[v]!.filter countsB = (runsTo px s w h)[v]! := List.filter_eq_self.2 fun r hr => by
    have := runs_rs hb hr
    unfold countsB fitsB
    simp only [Bool.and_eq_true, decide_eq_true_eq]; omega
  rw [e]; exact runs_in hb hv x y
theorem pgrid_p [Dr] (w h : Nat) (px s : List Int) (hw : w ≤ 128) (hh : h ≤ 128) (hl : px.length = w * h) (hs : s.length = w * h) (hp : ∀ v ∈ px, 0 ≤ v ∧ v < 256) (hb : ∀ v ∈ s, 0 ≤ v ∧ v < 256) :
    CallP Tryz.prog 46 [.iptr (plC w h px (.islc (encL cU s) s.length none)) 0] (gT w h s) := by
  have hlen := runsTo_len px s w h
  have hwh : h * w ≤ 128 * 128 := Nat.mul_le_mul hh hw
  refine CallP.intro2 au_pu au_pu ?_
  refine CallT.intro tab_ok Tryz.func46 rfl (by kernel_rfl) (Nat.le_of_ble_eq_true rfl) ?_
  refine VC.reg tab_ok [] rfl ?_
  refine VX.new rfl rfl ?_
  refine VX.nil ?_
  refine VC.reg tab_ok [] rfl ?_
  iterate 3 refine VX.meek rfl ?_
  first | refine VX.meek rfl ?_ | refine VX.loadI rfl rfl au_l ?_ | refine VX.loadP rfl rfl rfl au_l ?_
  refine VX.new rfl rfl ?_
  refine VX.store rfl rfl rfl rfl rfl au_sR rfl ?_
  refine VX.nil ?_
  refine VC.seq ?_
  refine VC.reg tab_ok [] rfl ?_
  refine VX.meek rfl ?_
  refine VX.callP0 rfl rfl rfl (changed_p w h px s hw hh hl hs hb) ?_
  iterate 2 refine VX.meek rfl ?_
  refine VX.nil ?_
  refine VC.block ?_
  refine VC.loopS (σ := Nat) (fun v => 256 - v) (fun v => v ≤ 256) (fun v => [(13, I64 v), (2, .ptr 0 0), (3, .ptr 1 0)]) (fun v => [.c [I64 0, I64 0, NIL], .c [I64 w, I64 h, .islc (encL cU (upTo w px s v)) px.length none]]) [11, 12] rfl (0) ?_ ?_ ?_
  · refine ⟨[some 0, some 1], rfl, by first | trivial | decide, rfl, ?_, ?_⟩ <;> (repeat' first | exact trivial | exact CvB_n | exact CvB_d | refine CvE_app ?_ ?_ | refine CvE_cons rfl ?_ ?_ | refine CvH_cons ?_ ?_ | refine CvB_c rfl ?_ | fail) <;> first | exact au_v | (exact cv_g (Cv.eq (by rw [upTo_zero hl hb]) (encL_pure cU _)))
  · (try dsimp only); omega
  rintro v hv
  refine VC.reg tab_ok [] rfl ?_
  refine VX.meek rfl ?_
  refine VX.nil ?_
  refine VC.seq ?_
  refine VC.cond rfl (fun hc0 => ?_) (fun hc0 => ?_)
  · (try simp only [au_std] at hc0); have hvl : v < 256 := (by omega); have hfew := runsTo_few px s w h v; have hul := upTo_len w px s v
    refine VC.skip ?_
    refine VC.seq ?_
    refine VC.block ?_
    refine VC.reg tab_ok [] rfl ?_
    refine VX.meek rfl ?_
    first | refine VX.idxI rfl rfl rfl rfl rfl rfl (by omega) ?_ | refine VX.idxO0 rfl rfl rfl rfl rfl rfl rfl (by omega) ?_ | refine VX.idxO0 rfl rfl rfl rfl rfl rfl au_z (by omega) ?_ | refine VX.idxO rfl rfl rfl rfl rfl rfl rfl (by omega) ?_ | refine VX.idxI rfl rfl rfl rfl rfl au_z (by omega) ?_ | refine VX.idxO rfl rfl rfl rfl rfl rfl au_z (by omega) ?_ | refine VX.meek rfl ?_
    first | refine VX.meek rfl ?_ | refine VX.loadI rfl rfl au_l ?_ | refine VX.loadP rfl rfl rfl au_l ?_
    iterate 2 refine VX.meek rfl ?_
    refine VX.nil ?_
    refine VC.reg tab_ok [] rfl ?_
    iterate 3 refine VX.meek rfl ?_
    refine VX.nil ?_
    refine VC.cond rfl (fun hc1 => ?_) (fun hc1 => ?_)
    · (try simp only [au_std] at hc1); have hst : paintL w (inL (bandOf (runsTo px s w h)[v]!)) (flF v) (upTo w px s v) = upTo w px s (v + 1) := upTo_step (px := px) (s := s) hl (fun x y h1 h2 h3 h4 => by rw [runs_band hw hh hb hvl]; exact ⟨fun q => ⟨q.2.2.2.2.1, q.2.2.2.2.2⟩, fun q => ⟨h1, h2, h3, h4, q⟩⟩)
      refine VC.drwN tab_ok [] [_, _, _, _, _, _] rfl (by kernel_rfl) (by kernel_rfl) ?_
      first | refine VX.meek rfl ?_ | refine VX.loadI rfl rfl au_l ?_ | refine VX.loadP rfl rfl rfl au_l ?_
      refine VX.meek rfl ?_
      refine VX.callP0 rfl rfl rfl (of_p (runsTo px s w h)[v]! (by omega) (fun r hr => by have := runs_rs hb hr; unfold i64; omega)) ?_
      refine VX.meek rfl ?_
      refine VX.meek (t := U8 v) (by show some (T.v (.int .u8 (IntKind.u8.wrap (v : Int))), (none : Option (Nat × List T))) = _; rw [wrap_u8, Int.emod_eq_of_lt (by omega) (by omega)]) ?_
      refine VX.callP0 rfl rfl rfl (show CallP Tryz.prog 20 [.agg [I64 w, I64 h, .islc (encL cU (upTo w px s v)) px.length none], regT (bandOf (runsTo px s w h)[v]!), U8 v] (.agg [I64 w, I64 h, .islc (encL cU (upTo w px s (v + 1))) px.length none]) from by have q := fill_p w h (upTo w px s v) (bandOf (runsTo px s w h)[v]!) v hw hh (by rw [hul, hl]) (upTo_bd hp hb) (bandOf_rok _) (by have := box_len (bandOf_canon (runsTo px s w h)[v]!) w h (fun x y hi => by have := (runs_band hw hh hb hvl x y).1 hi; omega); have hq : (h + 1) * (w + 1) ≤ 129 * 129 := Nat.mul_le_mul (by omega) (by omega); omega); rw [hst] at q; simp only [gT, upTo_len] at q; exact q) ?_
      refine VX.nil ?_
      refine VX.store rfl rfl rfl rfl rfl au_sR rfl ?_
      refine VX.nil ?_
      refine VC.regN tab_ok [] rfl ?_
      first | refine VX.add rfl rfl (by omega) ?_ | refine VX.meek rfl ?_
      refine VX.meek rfl ?_
      refine VX.nil ?_
      refine ⟨v + 1, by (try dsimp only); omega, ?_, (by refine ⟨[some 0, some 1], rfl, by first | trivial | decide, rfl, ?_, ?_⟩ <;> (repeat' first | exact trivial | exact CvB_n | exact CvB_d | refine CvE_app ?_ ?_ | refine CvE_cons rfl ?_ ?_ | refine CvH_cons ?_ ?_ | refine CvB_c rfl ?_ | fail) <;> first | exact au_v | (first | exact cv_g (Cv.pure rfl) | exact cv_g (Cv.pure (encL_pure cU _))))⟩
      (try dsimp only); omega
    · (try simp only [au_std] at hc1); have h0 : (runsTo px s w h)[v]! = [] := List.eq_nil_of_length_eq_zero (by omega); have hst : upTo w px s v = upTo w px s (v + 1) := (by
        have q := upTo_step (px := px) (s := s) (v := v) (V := fun x y => inL (runsTo px s w h)[v]! x y) hl (fun x y h1 h2 h3 h4 => by rw [runs_in hb hvl]; exact ⟨fun q => ⟨q.2.2.2.2.1, q.2.2.2.2.2⟩, fun q => ⟨h1, h2, h3, h4, q⟩⟩)
        rw [h0] at q; rw [← q]; exact (paint_none (h := h) (by rw [hul, hl]) (fun a b _ _ _ _ => inL_nil)).symm)
      refine VC.skip ?_
      refine VC.regN tab_ok [] rfl ?_
      first | refine VX.add rfl rfl (by omega) ?_ | refine VX.meek rfl ?_
      refine VX.meek rfl ?_
      refine VX.nil ?_
      refine ⟨v + 1, by (try dsimp only); omega, ?_, (by refine ⟨[some 0, some 1], rfl, by first | trivial | decide, rfl, ?_, ?_⟩ <;> (repeat' first | exact trivial | exact CvB_n | exact CvB_d | refine CvE_app ?_ ?_ | refine CvE_cons rfl ?_ ?_ | refine CvH_cons ?_ ?_ | refine CvB_c rfl ?_ | fail) <;> first | exact au_v | (first | exact cv_g (Cv.pure rfl) | (rw [← hst]; exact cv_g (Cv.pure (encL_pure cU _)))))⟩
      (try dsimp only); omega
  · (try simp only [au_std] at hc0); obtain rfl : v = 256 := (by omega); rw [upTo_all hl hs hb]
    refine VC.exit ?_
    refine VC.reg tab_ok [] rfl ?_
    first | refine VX.meek rfl ?_ | refine VX.loadI rfl rfl au_l ?_ | refine VX.loadP rfl rfl rfl au_l ?_
    refine VX.store rfl rfl rfl rfl rfl au_sR rfl ?_
    refine VX.nil ?_
    refine VC.ret ?_
    refine ⟨trivial, _, rfl, Cv.agg (cv_g (Cv.eq (by rw [hl, hs]) (encL_pure cU _)))⟩
end
section
open Go.RowKit Go.Sort
set_option maxRecDepth 10000
set_option maxHeartbeats 4000000
def rowP (ys : List Int) (a : List Rect) : Nat → List Rect
  | 0 => a
  | i + 1 => rowD ys[i]! a
def rowPX (xs : List Int) (p : List Rect) : Nat → List Rect
  | 0 => p
  | j + 1 => rowX xs[j]! p
theorem rowP_row {f : Rect → Int × Int} {l a : List Rect} {i : Nat} (hi : i < (cutsOf f l).length) : rowD (cutsOf f l)[i]! (rowP (cutsOf f l) a i) = rowD (cutsOf f l)[i]! a := by
  cases i with
  | zero => rfl
  | succ i => exact rowD_mono (by have := cuts_lt f l (i := i) (j := i + 1) (Nat.lt_succ_self i) hi; omega) a
theorem rowPX_row {f : Rect → Int × Int} {l a : List Rect} {i : Nat} (hi : i < (cutsOf f l).length) : rowX (cutsOf f l)[i]! (rowPX (cutsOf f l) a i) = rowX (cutsOf f l)[i]! a := by
  cases i with
  | zero => rfl
  | succ i => exact rowX_mono (by have := cuts_lt f l (i := i) (j := i + 1) (Nat.lt_succ_self i) hi; omega) a
theorem rowP_sub {ys : List Int} {a : List Rect} {i : Nat} {r : Rect} (h : r ∈ rowP ys a i) : r ∈ a := by
  cases i with
  | zero => exact h
  | succ i => exact (List.dropWhile_sublist _).subset h
theorem rowP_len (ys : List Int) (a : List Rect) (i : Nat) : (rowP ys a i).length ≤ a.length := by
  cases i with
  | zero => exact Nat.le_refl _
  | succ i => exact (List.dropWhile_sublist _).length_le
theorem rowPX_sub {ys : List Int} {a : List Rect} {i : Nat} {r : Rect} (h : r ∈ rowPX ys a i) : r ∈ a := by
  cases i with
  | zero => exact h
  | succ i => exact (List.dropWhile_sublist _).subset h
theorem rowPX_len (ys : List Int) (a : List Rect) (i : Nat) : (rowPX ys a i).length ≤ a.length := by
  cases i with
  | zero => exact Nat.le_refl _
  | succ i => exact (List.dropWhile_sublist _).length_le
theorem rowW_at [Dr] (y : Int) (ys : List Int) (i : Nat) (a : List Rect) (hr : ∀ r ∈ a, rok r) (hn : a.length ≤ 1048576) (h : rowD y (rowP ys a i) = rowD y a) : CallT Tryz.prog 86 [.ptr 0 0, I64 y] [.c [.islc (encL cR (rowP ys a i)) (rowP ys a i).length none]]
    (fun t H' => t = .islc (encL cR (rowD y a)) (rowT y a).length none ∧ H' = [.c [.islc (encL cR (rowD y a)) (rowD y a).length none]]) := by
  have k := row_t y (rowP ys a i) (fun r hq => hr r (rowP_sub hq)) (Nat.le_trans (rowP_len ys a i) hn)
  have e : rowT y (rowP ys a i) = rowT y a := by unfold rowT; rw [h]
  rw [h, e] at k; exact k
theorem acrW_at [Dr] (x : Int) (xs : List Int) (j : Nat) (p : List Rect) (hr : ∀ r ∈ p, rok r) (hn : p.length ≤ 1048576) (h : rowX x (rowPX xs p j) = rowX x p) : CallT Tryz.prog 88 [.ptr 0 0, I64 x] [.c [.islc (encL cR (rowPX xs p j)) (rowPX xs p j).length none]]
    (fun t H' => t = BL (acrB x p) ∧ H' = [.c [.islc (encL cR (rowX x p)) (rowX x p).length none]]) := by
  have k := across_t x (rowPX xs p j) (fun r hq => hr r (rowPX_sub hq)) (Nat.le_trans (rowPX_len xs p j) hn)
  have e : acrB x (rowPX xs p j) = acrB x p := by unfold acrB; rw [h]
  rw [h, e] at k; exact k
theorem islc_row {v : Vw} (y : Int) (a : List Rect) (n : Nat) : Cv v (.islc (encL cR (rowD y a)) n none) (.islc (encL cR (rowT y a)) n none) := by
  have e : rowD y a = rowT y a ++ (rowD y a).dropWhile (fun r => decide (r.Y ≤ y)) := by unfold rowT; rw [List.takeWhile_append_dropWhile]
  rw [e, encL_append]
  exact .islcT (CvL.pure (encL_pure cR _)) (.inl rfl)
theorem join_p [Dr] (k : Bool → Bool → Bool) (g : FuncId) (hg : ∀ x y, CallP Tryz.prog g [BL x, BL y] (BL (k x y))) (hk : k false false = false) (a b c : List Rect) (ha : Canon a) (hb : Canon b) (har : ∀ r ∈ a, rok r) (hbr : ∀ r ∈ b, rok r) (m : Nat) (hrow : ∀ y, (rowT y a).length + (rowT y b).length ≤ m) (hm : m ≤ 500) (hys : (ysJ a b).length ≤ 500) (hab : a.length + b.length ≤ 500000) (hc : Canon c) (hi : ∀ x z, inL c x z ↔ k (decide (inL a x z)) (decide (inL b x z)) = true) :
    CallP Tryz.prog 58 [.agg [.clo g [] []], regT a, regT b] (regT c) := by
  have hys := ysJ_len a b
  have hye := join_eq hk ha hb har hbr hc hi
  have hfr := fl_rok har hbr
  have hfl : [a, b].flatten.length = a.length + b.length := by rw [fl2, List.length_append]
  refine CallP.intro2 au_pu au_pu ?_
  refine CallT.intro tab_ok Tryz.func58 rfl (by kernel_rfl) (Nat.le_of_ble_eq_true rfl) ?_
  refine VC.reg tab_ok [3, 4, 5] rfl ?_
  refine VX.newI rfl rfl ?_
  refine VX.newI rfl rfl ?_
  refine VX.newI rfl rfl ?_
  refine VX.new rfl rfl ?_
  refine VX.nil ?_
  refine VC.drw tab_ok [] [_, _, _, _, _, _] rfl (by kernel_rfl) (by kernel_rfl) ?_
  first | refine VX.meek rfl ?_ | refine VX.loadI rfl rfl au_l ?_ | refine VX.loadP rfl rfl rfl au_l ?_
  refine VX.callP0 rfl rfl rfl (rects_p a (by omega)) ?_
  first | refine VX.meek rfl ?_ | refine VX.loadI rfl rfl au_l ?_ | refine VX.loadP rfl rfl rfl au_l ?_
  refine VX.callP0 rfl rfl rfl (rects_p b (by omega)) ?_
  iterate 2 refine VX.meek rfl ?_
  refine VX.nil ?_
  refine VX.nil ?_
  refine VC.reg tab_ok [28] rfl ?_
  iterate 2 refine VX.meek rfl ?_
  refine VX.newI rfl rfl ?_
  refine VX.callP rfl rfl (cuts_p fY 85 join1_p [a, b] (by simp) (by omega) (fun r h => by have := hfr r h; unfold rok at this; simp only [fY]; omega)) au_wk (show T.pureL [.clo _ [] [], .islc [.islc (encL cR a) a.length none, .islc (encL cR b) b.length none] 2 (some 2)] = true from by simp [T.pureL, T.pure, encL_pure]) ?_; change VX _ _ _ _ _ _ ((29, .islc (encL cI (ysJ a b)) (ysJ a b).length none) :: _) _ _
  refine VX.meek rfl ?_
  refine VX.nil ?_
  refine VC.reg tab_ok [] rfl ?_
  iterate 4 refine VX.meek rfl ?_
  refine VX.new rfl rfl ?_
  refine VX.new rfl rfl ?_
  refine VX.store rfl rfl rfl rfl rfl au_sR rfl ?_
  refine VX.store rfl rfl rfl rfl rfl au_sR rfl ?_
  refine VX.nil ?_
  refine VC.reg tab_ok [] rfl ?_
  refine VX.meek rfl ?_
  refine VX.nil ?_
  refine VC.seq ?_
  refine VC.reg tab_ok [] rfl ?_
  refine VX.meek rfl ?_
  refine VX.nil ?_
  refine VC.block ?_
  refine VC.loopS2 (σ1 := Nat) (σ2 := List T) (fun i _ => (ysJ a b).length - i) (fun i tl => (i < (ysJ a b).length ∨ i = 0) ∧ T.pureL tl = true) (fun i _ => [(13, I64 i), (12, .slc 3 0 (outJ k a b i).length 4 none)]) (fun i tl => [.c [NIL], .c [.islc (encL cR (rowP (ysJ a b) a i)) (rowP (ysJ a b) a i).length none], .c [.islc (encL cR (rowP (ysJ a b) b i)) (rowP (ysJ a b) b i).length none], .c (encL cR (outJ k a b i) ++ tl)]) [3, 6, 9, 10, 11] rfl (0) ([]) ?_ ?_ ?_
  · refine ⟨[some 0, some 1, some 2, none], rfl, by first | trivial | decide, rfl, ?_, ?_⟩ <;> (repeat' first | exact trivial | exact CvB_n | exact CvB_d | refine CvE_app ?_ ?_ | refine CvE_cons rfl ?_ ?_ | refine CvH_cons ?_ ?_ | refine CvB_c rfl ?_ | fail) <;> first | exact au_v | (exact CvL.cons (Cv.pure (encL_pure cR _)) CvL.nil)
  · exact ⟨.inr rfl, rfl⟩
  rintro i tl ⟨hil, htl⟩
  refine VC.seq ?_
  refine VC.reg tab_ok [] rfl ?_
  refine VX.meek rfl ?_
  first | refine VX.add rfl rfl (by omega) ?_ | refine VX.meek rfl ?_
  iterate 3 refine VX.meek rfl ?_
  refine VX.nil ?_
  refine VC.cond rfl (fun hc0 => ?_) (fun hc0 => ?_)
  · (try simp only [au_std] at hc0); have hi1 : i + 1 < (ysJ a b).length := (by omega); have hy1 := ysJ_bnd har hbr (i := i) (by omega); have hy2 := ysJ_bnd har hbr (i := i + 1) hi1; have hol := outJ_lenM k a b m hrow i; have hrm := hrow (ysJ a b)[i]!; have hom : i * (2 * m) ≤ 500 * 1000 := Nat.mul_le_mul (by omega) (by omega)
    have hD1 := rowP_row (f := fY) (l := [a, b].flatten) (a := a) (i := i) (by unfold ysJ at hi1; omega)
    have hD2 := rowP_row (f := fY) (l := [a, b].flatten) (a := b) (i := i) (by unfold ysJ at hi1; omega)
    have hos := outJ_succ k a b i
    have hpl := rowT_len (ysJ a b)[i]! a; have hql := rowT_len (ysJ a b)[i]! b
    refine VC.skip ?_
    refine VC.seq ?_
    refine VC.block ?_
    refine VC.drw tab_ok [] [_, _, _, _, _, _, _, _, _, _, _, _, _, _, _, _] rfl (by kernel_rfl) (by kernel_rfl) ?_
    iterate 2 refine VX.meek rfl ?_
    first | refine VX.idxI rfl rfl rfl rfl rfl rfl (by omega) ?_ | refine VX.idxO0 rfl rfl rfl rfl rfl rfl rfl (by omega) ?_ | refine VX.idxO0 rfl rfl rfl rfl rfl rfl au_z (by omega) ?_ | refine VX.idxO rfl rfl rfl rfl rfl rfl rfl (by omega) ?_ | refine VX.idxI rfl rfl rfl rfl rfl au_z (by omega) ?_ | refine VX.idxO rfl rfl rfl rfl rfl rfl au_z (by omega) ?_ | refine VX.meek rfl ?_
    first | refine VX.meek rfl ?_ | refine VX.loadI rfl rfl au_l ?_ | refine VX.loadP rfl rfl rfl au_l ?_
    iterate 2 refine VX.meek rfl ?_
    first | refine VX.add rfl rfl (by omega) ?_ | refine VX.meek rfl ?_
    refine VX.idxI (m := i + 1) rfl rfl rfl rfl rfl (by omega) (by omega) ?_
    first | refine VX.meek rfl ?_ | refine VX.loadI rfl rfl au_l ?_ | refine VX.loadP rfl rfl rfl au_l ?_
    iterate 2 refine VX.meek rfl ?_
    first | refine VX.idxI rfl rfl rfl rfl rfl rfl (by omega) ?_ | refine VX.idxO0 rfl rfl rfl rfl rfl rfl rfl (by omega) ?_ | refine VX.idxO0 rfl rfl rfl rfl rfl rfl au_z (by omega) ?_ | refine VX.idxO rfl rfl rfl rfl rfl rfl rfl (by omega) ?_ | refine VX.idxI rfl rfl rfl rfl rfl au_z (by omega) ?_ | refine VX.idxO rfl rfl rfl rfl rfl rfl au_z (by omega) ?_ | refine VX.meek rfl ?_
    first | refine VX.meek rfl ?_ | refine VX.loadI rfl rfl au_l ?_ | refine VX.loadP rfl rfl rfl au_l ?_
    first | refine VX.sub rfl rfl (by omega) ?_ | refine VX.meek rfl ?_
    iterate 2 refine VX.meek rfl ?_
    refine VX.nil ?_
    refine VX.nil ?_
    refine VC.reg tab_ok [] rfl ?_
    refine VX.meek rfl ?_
    refine VX.callT rfl rfl (CallT.frame (rowW_at (ysJ a b)[i]! (ysJ a b) i a har (by omega) hD1) [1] rfl au_ci au_ci ?_)
    rintro _ _ ⟨rfl, rfl⟩
    refine frK au_co au_co ?_
    refine VX.meek rfl ?_
    refine VX.callT rfl rfl (CallT.frame (rowW_at (ysJ a b)[i]! (ysJ a b) i b hbr (by omega) hD2) [2] rfl au_ci au_ci ?_)
    rintro _ _ ⟨rfl, rfl⟩
    refine frK au_co au_co ?_
    refine VX.new rfl rfl ?_
    refine VX.new rfl rfl ?_
    refine VX.store rfl rfl rfl rfl rfl au_sR rfl ?_
    refine VX.store rfl rfl rfl rfl rfl au_sR rfl ?_
    refine VX.nil ?_
    refine VC.view ([]) ([.c [NIL], .c [.islc (encL cR (rowD (ysJ a b)[i]! a)) (rowD (ysJ a b)[i]! a).length none], .c [.islc (encL cR (rowD (ysJ a b)[i]! b)) (rowD (ysJ a b)[i]! b).length none], .c (encL cR (outJ k a b i) ++ tl), .c [.islc (encL cR (rowT (ysJ a b)[i]! a)) (rowT (ysJ a b)[i]! a).length none], .c [.islc (encL cR (rowT (ysJ a b)[i]! b)) (rowT (ysJ a b)[i]! b).length none]]) [3, 6, 9, 10, 11, 12, 13, 14, 15, 16, 17] rfl (by refine ⟨[some 0, some 1, some 2, some 3, some 4, some 5], rfl, by first | trivial | decide, rfl, ?_, ?_⟩ <;> (repeat' first | exact trivial | exact CvB_n | exact CvB_d | refine CvE_app ?_ ?_ | refine CvE_cons rfl ?_ ?_ | refine CvH_cons ?_ ?_ | refine CvB_c rfl ?_ | fail) <;> first | exact au_v | (first | exact CvL.cons (islc_row _ _ _) CvL.nil | exact CvL.cons (Cv.pure (encL_pure cR _)) CvL.nil | exact CvL.pure (pureL_append (encL_pure cR _) htl))) ?_
    refine VC.reg tab_ok [61] rfl ?_
    first | refine VX.meek rfl ?_ | refine VX.loadI rfl rfl au_l ?_ | refine VX.loadP rfl rfl rfl au_l ?_
    first | refine VX.meek rfl ?_ | refine VX.loadI rfl rfl au_l ?_ | refine VX.loadP rfl rfl rfl au_l ?_
    refine VX.newI rfl rfl ?_
    refine VX.callP rfl rfl (cuts_p fX 87 join2_p [(rowT (ysJ a b)[i]! a), (rowT (ysJ a b)[i]! b)] (by simp) (by rw [fl2, List.length_append]; omega) (fun r h => by have := fl_rok (fun r h => har r (rowT_sub h)) (fun r h => hbr r (rowT_sub h)) r h; unfold rok at this; simp only [fX]; omega)) au_wk (show T.pureL [.clo _ [] [], .islc [.islc (encL cR (rowT (ysJ a b)[i]! a)) (rowT (ysJ a b)[i]! a).length none, .islc (encL cR (rowT (ysJ a b)[i]! b)) (rowT (ysJ a b)[i]! b).length none] 2 (some 2)] = true from by simp [T.pureL, T.pure, encL_pure]) ?_; change VX _ _ _ _ _ _ ((62, .islc (encL cI (xsJ (rowT (ysJ a b)[i]! a) (rowT (ysJ a b)[i]! b))) (xsJ (rowT (ysJ a b)[i]! a) (rowT (ysJ a b)[i]! b)).length none) :: _) _ _; have hxl := xsJ_len (rowT (ysJ a b)[i]! a) (rowT (ysJ a b)[i]! b)
    refine VX.meek rfl ?_
    refine VX.nil ?_
    refine VC.reg tab_ok [] rfl ?_
    refine VX.meek rfl ?_
    refine VX.nil ?_
    refine VC.block ?_
    refine VC.loopS2 (σ1 := Nat) (σ2 := List T) (fun j _ => (xsJ (rowT (ysJ a b)[i]! a) (rowT (ysJ a b)[i]! b)).length - j) (fun j tl => (j < (xsJ (rowT (ysJ a b)[i]! a) (rowT (ysJ a b)[i]! b)).length ∨ j = 0) ∧ T.pureL tl = true) (fun j _ => [(19, I64 j), (12, .slc 3 0 (outJ k a b i ++ rowJ k (ysJ a b)[i]! ((ysJ a b)[i + 1]! - (ysJ a b)[i]!) (rowT (ysJ a b)[i]! a) (rowT (ysJ a b)[i]! b) j).length 4 none)]) (fun j tl => [.c [NIL], .c [.islc (encL cR (rowD (ysJ a b)[i]! a)) (rowD (ysJ a b)[i]! a).length none], .c [.islc (encL cR (rowD (ysJ a b)[i]! b)) (rowD (ysJ a b)[i]! b).length none], .c (encL cR (outJ k a b i ++ rowJ k (ysJ a b)[i]! ((ysJ a b)[i + 1]! - (ysJ a b)[i]!) (rowT (ysJ a b)[i]! a) (rowT (ysJ a b)[i]! b) j) ++ tl), .c [.islc (encL cR (rowPX (xsJ (rowT (ysJ a b)[i]! a) (rowT (ysJ a b)[i]! b)) (rowT (ysJ a b)[i]! a) j)) (rowPX (xsJ (rowT (ysJ a b)[i]! a) (rowT (ysJ a b)[i]! b)) (rowT (ysJ a b)[i]! a) j).length none], .c [.islc (encL cR (rowPX (xsJ (rowT (ysJ a b)[i]! a) (rowT (ysJ a b)[i]! b)) (rowT (ysJ a b)[i]! b) j)) (rowPX (xsJ (rowT (ysJ a b)[i]! a) (rowT (ysJ a b)[i]! b)) (rowT (ysJ a b)[i]! b) j).length none]]) [3, 6, 9, 10, 11, 13, 14, 15, 16, 17, 18] rfl (0) (tl) ?_ ?_ ?_
    · refine ⟨[some 0, some 1, some 2, some 3, some 4, some 5], rfl, by first | trivial | decide, rfl, ?_, ?_⟩ <;> (repeat' first | exact trivial | exact CvB_n | exact CvB_d | refine CvE_app ?_ ?_ | refine CvE_cons rfl ?_ ?_ | refine CvH_cons ?_ ?_ | refine CvB_c rfl ?_ | fail) <;> first | exact au_v | (first | exact Cv.slcE rfl (by simp [rowJ]) (.inl rfl) | exact CvL.cons (Cv.pure (encL_pure cR _)) CvL.nil | exact CvL.eq (by simp [rowJ]) (pureL_append (encL_pure cR _) htl))
    · exact ⟨.inr rfl, htl⟩
    rintro j tl2 ⟨hjl, htl2⟩
    refine VC.seq ?_
    refine VC.reg tab_ok [] rfl ?_
    refine VX.meek rfl ?_
    first | refine VX.add rfl rfl (by omega) ?_ | refine VX.meek rfl ?_
    iterate 3 refine VX.meek rfl ?_
    refine VX.nil ?_
    refine VC.cond rfl (fun hc1 => ?_) (fun hc1 => ?_)
    · (try simp only [au_std] at hc1); have hj1 : j + 1 < (xsJ (rowT (ysJ a b)[i]! a) (rowT (ysJ a b)[i]! b)).length := (by omega); have hra : ∀ r ∈ (rowT (ysJ a b)[i]! a), rok r := fun r h => har r (rowT_sub h); have hrb : ∀ r ∈ (rowT (ysJ a b)[i]! b), rok r := fun r h => hbr r (rowT_sub h); have hx1 := xsJ_bnd hra hrb (i := j) (by omega); have hx2 := xsJ_bnd hra hrb (i := j + 1) hj1; have hrl := rowJ_len k (ysJ a b)[i]! ((ysJ a b)[i + 1]! - (ysJ a b)[i]!) (rowT (ysJ a b)[i]! a) (rowT (ysJ a b)[i]! b) j; have hrs := rowJ_succ k (ysJ a b)[i]! ((ysJ a b)[i + 1]! - (ysJ a b)[i]!) (rowT (ysJ a b)[i]! a) (rowT (ysJ a b)[i]! b) j
      have hX1 := rowPX_row (f := fX) (l := [(rowT (ysJ a b)[i]! a), (rowT (ysJ a b)[i]! b)].flatten) (a := (rowT (ysJ a b)[i]! a)) (i := j) (by unfold xsJ at hj1; omega)
      have hX2 := rowPX_row (f := fX) (l := [(rowT (ysJ a b)[i]! a), (rowT (ysJ a b)[i]! b)].flatten) (a := (rowT (ysJ a b)[i]! b)) (i := j) (by unfold xsJ at hj1; omega)
      have hol2 : (outJ k a b i ++ rowJ k (ysJ a b)[i]! ((ysJ a b)[i + 1]! - (ysJ a b)[i]!) (rowT (ysJ a b)[i]! a) (rowT (ysJ a b)[i]! b) j).length ≤ 2097152 := (by rw [List.length_append]; omega)
      have hlc2 : (encL cR (outJ k a b i ++ rowJ k (ysJ a b)[i]! ((ysJ a b)[i + 1]! - (ysJ a b)[i]!) (rowT (ysJ a b)[i]! a) (rowT (ysJ a b)[i]! b) j) ++ tl2).length = (outJ k a b i ++ rowJ k (ysJ a b)[i]! ((ysJ a b)[i + 1]! - (ysJ a b)[i]!) (rowT (ysJ a b)[i]! a) (rowT (ysJ a b)[i]! b) j).length * 4 + tl2.length := (by rw [List.length_append, encL_len, cR_sz])
      refine VC.skip ?_
      refine VC.seq ?_
      refine VC.block ?_
      refine VC.drw tab_ok [] [_, _, _, _, _, _, _, _, _, _, _, _, _, _, _, _] rfl (by kernel_rfl) (by kernel_rfl) ?_
      iterate 2 refine VX.meek rfl ?_
      first | refine VX.idxI rfl rfl rfl rfl rfl rfl (by omega) ?_ | refine VX.idxO0 rfl rfl rfl rfl rfl rfl rfl (by omega) ?_ | refine VX.idxO0 rfl rfl rfl rfl rfl rfl au_z (by omega) ?_ | refine VX.idxO rfl rfl rfl rfl rfl rfl rfl (by omega) ?_ | refine VX.idxI rfl rfl rfl rfl rfl au_z (by omega) ?_ | refine VX.idxO rfl rfl rfl rfl rfl rfl au_z (by omega) ?_ | refine VX.meek rfl ?_
      first | refine VX.meek rfl ?_ | refine VX.loadI rfl rfl au_l ?_ | refine VX.loadP rfl rfl rfl au_l ?_
      iterate 2 refine VX.meek rfl ?_
      first | refine VX.add rfl rfl (by omega) ?_ | refine VX.meek rfl ?_
      refine VX.idxI (m := j + 1) rfl rfl rfl rfl rfl (by omega) (by omega) ?_
      first | refine VX.meek rfl ?_ | refine VX.loadI rfl rfl au_l ?_ | refine VX.loadP rfl rfl rfl au_l ?_
      iterate 2 refine VX.meek rfl ?_
      first | refine VX.idxI rfl rfl rfl rfl rfl rfl (by omega) ?_ | refine VX.idxO0 rfl rfl rfl rfl rfl rfl rfl (by omega) ?_ | refine VX.idxO0 rfl rfl rfl rfl rfl rfl au_z (by omega) ?_ | refine VX.idxO rfl rfl rfl rfl rfl rfl rfl (by omega) ?_ | refine VX.idxI rfl rfl rfl rfl rfl au_z (by omega) ?_ | refine VX.idxO rfl rfl rfl rfl rfl rfl au_z (by omega) ?_ | refine VX.meek rfl ?_
      first | refine VX.meek rfl ?_ | refine VX.loadI rfl rfl au_l ?_ | refine VX.loadP rfl rfl rfl au_l ?_
      first | refine VX.sub rfl rfl (by omega) ?_ | refine VX.meek rfl ?_
      iterate 2 refine VX.meek rfl ?_
      refine VX.nil ?_
      refine VX.nil ?_
      refine VC.drwC tab_ok [] [_, _, _, _, _, _] ([.c [NIL], .c [.islc (encL cR (rowD (ysJ a b)[i]! a)) (rowD (ysJ a b)[i]! a).length none], .c [.islc (encL cR (rowD (ysJ a b)[i]! b)) (rowD (ysJ a b)[i]! b).length none], .c (encL cR (outJ k a b i ++ rowJ k (ysJ a b)[i]! ((ysJ a b)[i + 1]! - (ysJ a b)[i]!) (rowT (ysJ a b)[i]! a) (rowT (ysJ a b)[i]! b) j) ++ tl2), .d, .d]) [false, false, false, true, false, true] rfl (by kernel_rfl) (by kernel_rfl) (by kernel_rfl) (by repeat' first | exact seen_nil | refine seen_dead ?_ | refine seen_same ?_) ?_
      refine VD.meek rfl ?_
      refine VD.meek rfl ?_
      refine VD.meek rfl ?_
      refine VD.call (t := BL (acrB (xsJ (rowT (ysJ a b)[i]! a) (rowT (ysJ a b)[i]! b))[j]! (rowT (ysJ a b)[i]! a))) (F1 := [.c [NIL], .c [.islc (encL cR (rowD (ysJ a b)[i]! a)) (rowD (ysJ a b)[i]! a).length none], .c [.islc (encL cR (rowD (ysJ a b)[i]! b)) (rowD (ysJ a b)[i]! b).length none], .c (encL cR (outJ k a b i ++ rowJ k (ysJ a b)[i]! ((ysJ a b)[i + 1]! - (ysJ a b)[i]!) (rowT (ysJ a b)[i]! a) (rowT (ysJ a b)[i]! b) j) ++ tl2), .c [.islc (encL cR (rowX (xsJ (rowT (ysJ a b)[i]! a) (rowT (ysJ a b)[i]! b))[j]! (rowT (ysJ a b)[i]! a))) (rowX (xsJ (rowT (ysJ a b)[i]! a) (rowT (ysJ a b)[i]! b))[j]! (rowT (ysJ a b)[i]! a)).length none], .c [.islc (encL cR (rowPX (xsJ (rowT (ysJ a b)[i]! a) (rowT (ysJ a b)[i]! b)) (rowT (ysJ a b)[i]! b) j)) (rowPX (xsJ (rowT (ysJ a b)[i]! a) (rowT (ysJ a b)[i]! b)) (rowT (ysJ a b)[i]! b) j).length none]]) rfl rfl ?_ ?_ ?_
      · refine CallT.frame (acrW_at (xsJ (rowT (ysJ a b)[i]! a) (rowT (ysJ a b)[i]! b))[j]! (xsJ (rowT (ysJ a b)[i]! a) (rowT (ysJ a b)[i]! b)) j (rowT (ysJ a b)[i]! a) hra (by omega) hX1) [4] rfl au_ci au_ci ?_
        rintro _ _ ⟨rfl, rfl⟩
        refine frK au_co au_co ?_
        exact ⟨rfl, rfl⟩
      · exact (by repeat' first | exact seen_nil | refine seen_dead ?_ | refine seen_same ?_)
      refine VD.meek rfl ?_
      refine VD.call (t := BL (acrB (xsJ (rowT (ysJ a b)[i]! a) (rowT (ysJ a b)[i]! b))[j]! (rowT (ysJ a b)[i]! b))) (F1 := [.c [NIL], .c [.islc (encL cR (rowD (ysJ a b)[i]! a)) (rowD (ysJ a b)[i]! a).length none], .c [.islc (encL cR (rowD (ysJ a b)[i]! b)) (rowD (ysJ a b)[i]! b).length none], .c (encL cR (outJ k a b i ++ rowJ k (ysJ a b)[i]! ((ysJ a b)[i + 1]! - (ysJ a b)[i]!) (rowT (ysJ a b)[i]! a) (rowT (ysJ a b)[i]! b) j) ++ tl2), .c [.islc (encL cR (rowX (xsJ (rowT (ysJ a b)[i]! a) (rowT (ysJ a b)[i]! b))[j]! (rowT (ysJ a b)[i]! a))) (rowX (xsJ (rowT (ysJ a b)[i]! a) (rowT (ysJ a b)[i]! b))[j]! (rowT (ysJ a b)[i]! a)).length none], .c [.islc (encL cR (rowX (xsJ (rowT (ysJ a b)[i]! a) (rowT (ysJ a b)[i]! b))[j]! (rowT (ysJ a b)[i]! b))) (rowX (xsJ (rowT (ysJ a b)[i]! a) (rowT (ysJ a b)[i]! b))[j]! (rowT (ysJ a b)[i]! b)).length none]]) rfl rfl ?_ ?_ ?_
      · refine CallT.frame (acrW_at (xsJ (rowT (ysJ a b)[i]! a) (rowT (ysJ a b)[i]! b))[j]! (xsJ (rowT (ysJ a b)[i]! a) (rowT (ysJ a b)[i]! b)) j (rowT (ysJ a b)[i]! b) hrb (by omega) hX2) [5] rfl au_ci au_ci ?_
        rintro _ _ ⟨rfl, rfl⟩
        refine frK au_co au_co ?_
        exact ⟨rfl, rfl⟩
      · exact (by repeat' first | exact seen_nil | refine seen_dead ?_ | refine seen_same ?_)
      refine VD.nil ?_
      refine VX.callP0 rfl rfl rfl (hg (acrB (xsJ (rowT (ysJ a b)[i]! a) (rowT (ysJ a b)[i]! b))[j]! (rowT (ysJ a b)[i]! a)) (acrB (xsJ (rowT (ysJ a b)[i]! a) (rowT (ysJ a b)[i]! b))[j]! (rowT (ysJ a b)[i]! b))) ?_
      refine VX.nil ?_
      refine VC.cond rfl (fun hc2 => ?_) (fun hc2 => ?_)
      · have hcj : cellJ k (ysJ a b)[i]! ((ysJ a b)[i + 1]! - (ysJ a b)[i]!) (rowT (ysJ a b)[i]! a) (rowT (ysJ a b)[i]! b) j = [⟨(xsJ (rowT (ysJ a b)[i]! a) (rowT (ysJ a b)[i]! b))[j]!, (ysJ a b)[i]!, (xsJ (rowT (ysJ a b)[i]! a) (rowT (ysJ a b)[i]! b))[j + 1]! - (xsJ (rowT (ysJ a b)[i]! a) (rowT (ysJ a b)[i]! b))[j]!, ((ysJ a b)[i + 1]! - (ysJ a b)[i]!)⟩] := if_pos hc2
        rw [hcj] at hrs
        refine VC.regN tab_ok [97] rfl ?_
        iterate 6 refine VX.meek rfl ?_
        refine VX.newI rfl rfl ?_
        refine VX.append rfl rfl rfl rfl rfl rfl rfl rfl (by rw [hlc2]; omega) (by dsimp only; omega) (by omega) rfl rfl ?_
        refine VX.meek rfl ?_
        refine VX.nil ?_
        refine VC.regN tab_ok [] rfl ?_
        refine VX.meek rfl ?_
        first | refine VX.add rfl rfl (by omega) ?_ | refine VX.meek rfl ?_
        refine VX.meek rfl ?_
        refine VX.nil ?_
        refine ⟨j + 1, [], by (try dsimp only); omega, ?_, (by refine ⟨[some 0, some 1, some 2, some 6, some 4, some 5], rfl, by first | trivial | decide, rfl, ?_, ?_⟩ <;> (repeat' first | exact trivial | exact CvB_n | exact CvB_d | refine CvE_app ?_ ?_ | refine CvE_cons rfl ?_ ?_ | refine CvH_cons ?_ ?_ | refine CvB_c rfl ?_ | fail) <;> first | exact au_v | (first | exact CvL.cons (Cv.pure (encL_pure cR _)) CvL.nil | exact Cv.slcE rfl (by have hq := congrArg List.length hrs; simp only [List.length_append, List.length_cons, List.length_nil] at hq ⊢; omega) (.inl rfl) | (rw [hrs, ← List.append_assoc]; exact CvL.eq (app_cells rfl rfl) (by simp only [List.append_nil]; exact encL_pure cR _))))⟩
        exact ⟨by omega, by first | rfl | exact htl2⟩
      · have hcj : cellJ k (ysJ a b)[i]! ((ysJ a b)[i + 1]! - (ysJ a b)[i]!) (rowT (ysJ a b)[i]! a) (rowT (ysJ a b)[i]! b) j = [] := if_neg (by rw [hc2]; simp)
        rw [hcj, List.append_nil] at hrs
        refine VC.skip ?_
        refine VC.regN tab_ok [] rfl ?_
        refine VX.meek rfl ?_
        first | refine VX.add rfl rfl (by omega) ?_ | refine VX.meek rfl ?_
        refine VX.meek rfl ?_
        refine VX.nil ?_
        refine ⟨j + 1, tl2, by (try dsimp only); omega, ?_, (by refine ⟨[some 0, some 1, some 2, some 3, some 4, some 5], rfl, by first | trivial | decide, rfl, ?_, ?_⟩ <;> (repeat' first | exact trivial | exact CvB_n | exact CvB_d | refine CvE_app ?_ ?_ | refine CvE_cons rfl ?_ ?_ | refine CvH_cons ?_ ?_ | refine CvB_c rfl ?_ | fail) <;> first | exact au_v | (first | exact CvL.cons (Cv.pure (encL_pure cR _)) CvL.nil | exact Cv.slcE rfl (by rw [hrs]) (.inl rfl) | (rw [hrs]; exact CvL.pure (pureL_append (encL_pure cR _) htl2))))⟩
        exact ⟨by omega, by first | rfl | exact htl2⟩
    · (try simp only [au_std] at hc1); obtain rfl : j = (xsJ (rowT (ysJ a b)[i]! a) (rowT (ysJ a b)[i]! b)).length - 1 := (by omega); rw [← hos]
      refine VC.exit ?_
      refine VC.regN tab_ok [] rfl ?_
      refine VX.meek rfl ?_
      first | refine VX.add rfl rfl (by omega) ?_ | refine VX.meek rfl ?_
      refine VX.meek rfl ?_
      refine VX.nil ?_
      refine ⟨i + 1, tl2, by (try dsimp only); omega, ?_, (by refine ⟨[some 0, some 1, some 2, some 3], rfl, by first | trivial | decide, rfl, ?_, ?_⟩ <;> (repeat' first | exact trivial | exact CvB_n | exact CvB_d | refine CvE_app ?_ ?_ | refine CvE_cons rfl ?_ ?_ | refine CvH_cons ?_ ?_ | refine CvB_c rfl ?_ | fail) <;> first | exact au_v | (first | exact CvL.cons (Cv.pure (encL_pure cR _)) CvL.nil | exact Cv.slc rfl (.inl rfl) | exact CvL.pure (pureL_append (encL_pure cR _) htl2)))⟩
      exact ⟨by omega, htl2⟩
  · (try simp only [au_std] at hc0); obtain rfl : i = (ysJ a b).length - 1 := (by omega); have hjl := outJ_lenM k a b m hrow ((ysJ a b).length - 1); have hjm : ((ysJ a b).length - 1) * (2 * m) ≤ 500 * 1000 := Nat.mul_le_mul (by omega) (by omega)
    have hjo : outJ k a b ((ysJ a b).length - 1) = joinL k a b := rfl
    rw [hjo] at hjl ⊢
    refine VC.view ([(12, .islc (encL cR (joinL k a b)) (joinL k a b).length none)]) ([.c [NIL]]) [6] rfl (by refine ⟨[some 0], rfl, by first | trivial | decide, rfl, ?_, ?_⟩ <;> (repeat' first | exact trivial | exact CvB_n | exact CvB_d | refine CvE_app ?_ ?_ | refine CvE_cons rfl ?_ ?_ | refine CvH_cons ?_ ?_ | refine CvB_c rfl ?_ | fail) <;> first | exact au_v | (exact Cv.fslcA ⟨rfl, by simp⟩ (CvL.pure (encL_pure cR _)))) ?_
    refine VC.exit ?_
    refine VC.reg tab_ok [] rfl ?_
    refine VX.meek rfl ?_
    refine VX.callP0 rfl rfl rfl (of_p (joinL k a b) (by omega) (fun r h => by have := countsB_rok (join_counts har hbr h); unfold rok at this; unfold i64; omega)) ?_
    refine VX.store rfl rfl rfl rfl rfl au_sR rfl ?_
    refine VX.nil ?_
    refine VC.ret ?_
    refine ⟨trivial, _, rfl, ?_⟩; rw [← hye]; exact Cv.agg (CvL.cons (Cv.pure (encL_pure cR _)) CvL.nil)
end
section
open Go.RowKit Go.Sort
set_option maxRecDepth 10000
noncomputable def opL (k : Bool → Bool → Bool) (a b : List Rect) : List Rect := bandOf (joinL k a b)
theorem opL_canon (k : Bool → Bool → Bool) (a b : List Rect) : Canon (opL k a b) := bandOf_canon _
theorem opL_in {k : Bool → Bool → Bool} (hk : k false false = false) {a b : List Rect} (ha : Canon a) (hb : Canon b) (har : ∀ r ∈ a, rok r) (hbr : ∀ r ∈ b, rok r) (x z : Int) : inL (opL k a b) x z ↔ k (decide (inL a x z)) (decide (inL b x z)) = true := by
  unfold opL
  rw [bandOf_in, ← join_in hk ha hb]
  have : (joinL k a b).filter countsB = joinL k a b := List.filter_eq_self.2 fun r hr => join_counts har hbr hr
  rw [this]
theorem meet1_p [Dr] (x y : Bool) : CallP Tryz.prog 100 [BL x, BL y] (BL (x && y)) := by
  cases x <;> cases y
  all_goals
    refine CallP.intro2 au_pu au_pu ?_
    refine CallT.intro tab_ok Tryz.func100 rfl (by kernel_rfl) (Nat.le_of_ble_eq_true rfl) ?_
    refine VC.reg tab_ok [] rfl ?_
    refine VX.meek rfl ?_
    refine VX.nil ?_
    refine VC.reg tab_ok [] rfl ?_
    iterate 2 refine VX.meek rfl ?_
    refine' VX.merge (d := 8) [_, _] rfl ?_ rfl ?_
    rotate_left
    · refine VX.guard rfl rfl (fun hb1_1 => ?_) (fun hb1_1 => ?_)
      · have ghb1_1 := hb1_1
        try simp only [au_std, Bool.not_true, Bool.not_false] at ghb1_1
        refine VX.meek rfl ?_
        refine VX.pickA rfl (fun _ => rfl) ?_
        exact VX.nil ⟨rfl, rfl⟩
      · exact VX.pickA rfl (fun h => absurd (h.symm.trans hb1_1) (by decide)) (VX.nil ⟨rfl, rfl⟩)
    refine VX.meek rfl ?_
    refine VX.nil ?_
    refine VC.ret ?_
    exact ⟨trivial, _, rfl, Cv.eq (by first | rfl | (simp [*]; done)) rfl⟩
theorem opL_reg {k : Bool → Bool → Bool} (hk : k false false = false) {n m : Nat} {a b : List Rect} (ha : Reg n a) (hb : Reg m b) : Reg (n + m) (opL k a b) := by
  have hin := opL_in hk ha.1 hb.1 ha.2 hb.2
  refine ⟨opL_canon k a b, bandOf_rok _, ?_⟩
  obtain ⟨xs, ys, h1, h2, h3⟩ := ha.3
  obtain ⟨xs', ys', k1, k2, k3⟩ := hb.3
  exact ⟨xs ++ xs', ys ++ ys', by rw [List.length_append]; omega, by rw [List.length_append]; omega, gr_op h3 k3 hin⟩
theorem join_r [Dr] (k : Bool → Bool → Bool) (g : FuncId) (hg : ∀ x y, CallP Tryz.prog g [BL x, BL y] (BL (k x y))) (hk : k false false = false) {n m : Nat} {a b : List Rect} (ha : Reg n a) (hb : Reg m b) (h : n + m ≤ 500) : CallP Tryz.prog 58 [.agg [.clo g [] []], regT a, regT b] (regT (opL k a b)) := by
  have h1 : n * n ≤ 500 * 500 := Nat.mul_le_mul (by omega) (by omega)
  have h2 : m * m ≤ 500 * 500 := Nat.mul_le_mul (by omega) (by omega)
  have h3 := ha.len
  have h4 := hb.len
  exact join_p k g hg hk a b (opL k a b) ha.1 hb.1 ha.2 hb.2 (n + m) (fun y => Nat.add_le_add (ha.row y) (hb.row y)) h (Nat.le_trans (Reg.ys ha hb) h) (by omega) (opL_canon _ _ _) (opL_in hk ha.1 hb.1 ha.2 hb.2)
theorem meet_p [Dr] {n m : Nat} {a b : List Rect} (ha : Reg n a) (hb : Reg m b) (h : n + m ≤ 500) : CallP Tryz.prog 76 [regT a, regT b] (regT (opL and a b)) := by
  refine CallP.intro2 au_pu au_pu ?_
  refine CallT.intro tab_ok Tryz.func76 rfl (by kernel_rfl) (Nat.le_of_ble_eq_true rfl) ?_
  refine VC.reg tab_ok [2, 3] rfl ?_
  refine VX.newI rfl rfl ?_
  refine VX.newI rfl rfl ?_
  refine VX.new rfl rfl ?_
  refine VX.nil ?_
  refine VC.reg tab_ok [] rfl ?_
  refine VX.meek rfl ?_
  first | refine VX.meek rfl ?_ | refine VX.loadI rfl rfl au_l ?_ | refine VX.loadP rfl rfl rfl au_l ?_
  first | refine VX.meek rfl ?_ | refine VX.loadI rfl rfl au_l ?_ | refine VX.loadP rfl rfl rfl au_l ?_
  refine VX.callP0 rfl rfl rfl (join_r and 100 meet1_p rfl ha hb h) ?_
  refine VX.store rfl rfl rfl rfl rfl au_sR rfl ?_
  refine VX.nil ?_
  refine VC.ret ?_
  exact ⟨trivial, _, rfl, Cv.agg (CvL.cons (Cv.pure (encL_pure cR _)) CvL.nil)⟩
theorem within_p [Dr] {n : Nat} {a : List Rect} (ha : Reg n a) (r : Rect) (hx : i64 r.X ∧ i64 r.Y) (hn : n ≤ 498) : CallP Tryz.prog 39 [regT a, rectT r] (regT (opL and a (bandOf [r]))) := by
  refine CallP.intro2 au_pu au_pu ?_
  refine CallT.intro tab_ok Tryz.func39 rfl (by kernel_rfl) (Nat.le_of_ble_eq_true rfl) ?_
  refine VC.reg tab_ok [2, 3] rfl ?_
  refine VX.newI rfl rfl ?_
  refine VX.newI rfl rfl ?_
  refine VX.new rfl rfl ?_
  refine VX.nil ?_
  refine VC.drw tab_ok [7] [_, _, _, _, _] rfl (by kernel_rfl) (by kernel_rfl) ?_
  first | refine VX.meek rfl ?_ | refine VX.loadI rfl rfl au_l ?_ | refine VX.loadP rfl rfl rfl au_l ?_
  first | refine VX.meek rfl ?_ | refine VX.loadI rfl rfl au_l ?_ | refine VX.loadP rfl rfl rfl au_l ?_
  refine VX.newI rfl rfl ?_
  refine VX.callP rfl rfl (of_p [r] (by simp) (fun q hq => by rw [List.mem_singleton] at hq; subst hq; exact hx)) au_wk rfl ?_
  refine VX.callP0 rfl rfl rfl (meet_p ha (Reg.of [r]) (show n + 2 * 1 ≤ 500 by omega)) ?_
  refine VX.nil ?_
  refine VX.store rfl rfl rfl rfl rfl au_sR rfl ?_
  refine VX.nil ?_
  refine VC.ret ?_
  exact ⟨trivial, _, rfl, Cv.agg (CvL.cons (Cv.pure (encL_pure cR _)) CvL.nil)⟩
end
section
open Go.RowKit Go.Sort
set_option maxRecDepth 10000
theorem rect_ext {a b : Rect} : a = b ↔ a.X = b.X ∧ a.Y = b.Y ∧ a.W = b.W ∧ a.H = b.H := ⟨fun h => by subst h; exact ⟨rfl, rfl, rfl, rfl⟩, fun ⟨h1, h2, h3, h4⟩ => by cases a; cases b; simp at h1 h2 h3 h4; subst h1 h2 h3 h4; rfl⟩
instance : DecidableEq Rect := fun a b => decidable_of_iff _ rect_ext.symm
end
section
open Go.RowKit Go.Sort
set_option maxRecDepth 10000
def placeB (n : Int) : Bool := decide (-32768 ≤ n) && decide (n ≤ 32767)
def sdB (n : Int) : Bool := decide (0 ≤ n) && decide (n ≤ 65535)
theorem isFunc_p [Dr] (n : Int) : CallP Tryz.prog 72 [I64 n] (BL (ropKnown n)) := by
  refine CallP.intro2 au_pu au_pu ?_
  refine CallT.intro tab_ok Tryz.func72 rfl (by kernel_rfl) (Nat.le_of_ble_eq_true rfl) ?_
  refine VC.reg tab_ok [] rfl ?_
  refine VX.meek rfl ?_
  refine VX.nil ?_
  refine VC.reg tab_ok [] rfl ?_
  iterate 3 refine VX.meek rfl ?_
  refine' VX.merge (d := 8) [_, _, _] rfl ?_ rfl ?_
  rotate_left
  · refine VX.guard rfl rfl (fun hb1_2 => ?_) (fun hb1_2 => ?_)
    · have ghb1_2 := hb1_2
      try simp only [au_std, Bool.not_true, Bool.not_false] at ghb1_2
      refine VX.meek rfl ?_
      refine VX.guardT rfl rfl hb1_2 ?_
      refine VX.meek rfl ?_
      refine VX.pickA rfl (fun _ => rfl) ?_
      exact VX.nil ⟨rfl, rfl⟩
    · refine VX.guardF rfl rfl hb1_2 ?_
      exact VX.pickA rfl (fun h => absurd (h.symm.trans hb1_2) (by decide)) (VX.nil ⟨rfl, rfl⟩)
  refine VX.meek rfl ?_
  refine VX.nil ?_
  refine VC.ret ?_
  exact ⟨trivial, _, rfl, Cv.eq (by first | rfl | (simp [*]; done)) rfl⟩
theorem isPlace_p [Dr] (n : Int) : CallP Tryz.prog 73 [I64 n] (BL (placeB n)) := by
  refine CallP.intro2 au_pu au_pu ?_
  refine CallT.intro tab_ok Tryz.func73 rfl (by kernel_rfl) (Nat.le_of_ble_eq_true rfl) ?_
  refine VC.reg tab_ok [] rfl ?_
  refine VX.meek rfl ?_
  refine VX.nil ?_
  refine VC.reg tab_ok [] rfl ?_
  iterate 3 refine VX.meek rfl ?_
  refine' VX.merge (d := 8) [_, _, _] rfl ?_ rfl ?_
  rotate_left
  · refine VX.guard rfl rfl (fun hb1_2 => ?_) (fun hb1_2 => ?_)
    · have ghb1_2 := hb1_2
      try simp only [au_std, Bool.not_true, Bool.not_false] at ghb1_2
      refine VX.meek rfl ?_
      refine VX.guardT rfl rfl hb1_2 ?_
      refine VX.meek rfl ?_
      refine VX.pickA rfl (fun _ => rfl) ?_
      exact VX.nil ⟨rfl, rfl⟩
    · refine VX.guardF rfl rfl hb1_2 ?_
      exact VX.pickA rfl (fun h => absurd (h.symm.trans hb1_2) (by decide)) (VX.nil ⟨rfl, rfl⟩)
  refine VX.meek rfl ?_
  refine VX.nil ?_
  refine VC.ret ?_
  exact ⟨trivial, _, rfl, Cv.eq (by first | rfl | (simp [*]; done)) rfl⟩
theorem isSide_p [Dr] (n : Int) : CallP Tryz.prog 74 [I64 n] (BL (sdB n)) := by
  refine CallP.intro2 au_pu au_pu ?_
  refine CallT.intro tab_ok Tryz.func74 rfl (by kernel_rfl) (Nat.le_of_ble_eq_true rfl) ?_
  refine VC.reg tab_ok [] rfl ?_
  refine VX.meek rfl ?_
  refine VX.nil ?_
  refine VC.reg tab_ok [] rfl ?_
  iterate 3 refine VX.meek rfl ?_
  refine' VX.merge (d := 8) [_, _, _] rfl ?_ rfl ?_
  rotate_left
  · refine VX.guard rfl rfl (fun hb1_2 => ?_) (fun hb1_2 => ?_)
    · have ghb1_2 := hb1_2
      try simp only [au_std, Bool.not_true, Bool.not_false] at ghb1_2
      refine VX.meek rfl ?_
      refine VX.guardT rfl rfl hb1_2 ?_
      refine VX.meek rfl ?_
      refine VX.pickA rfl (fun _ => rfl) ?_
      exact VX.nil ⟨rfl, rfl⟩
    · refine VX.guardF rfl rfl hb1_2 ?_
      exact VX.pickA rfl (fun h => absurd (h.symm.trans hb1_2) (by decide)) (VX.nil ⟨rfl, rfl⟩)
  refine VX.meek rfl ?_
  refine VX.nil ?_
  refine VC.ret ?_
  exact ⟨trivial, _, rfl, Cv.eq (by first | rfl | (simp [*]; done)) rfl⟩
def PenOk (p : PenS) : Prop := ropKnown p.f = true ∧ placeB p.x = true ∧ placeB p.y = true ∧ (p.cl = true ∨ p.clip = []) ∧ p.clip.length ≤ 256 ∧ ∀ r ∈ p.clip, placeB r.X = true ∧ placeB r.Y = true ∧ sdB r.W = true ∧ sdB r.H = true
theorem check_p [Dr] (p : PenS) (h : PenOk p) : CallP Tryz.prog 37 [penT p] (I64 0) := by
  obtain ⟨h1, h2, h3, h4, h5, h6⟩ := h
  refine CallP.intro2 au_pu au_pu ?_
  refine CallT.intro tab_ok Tryz.func37 rfl (by kernel_rfl) (Nat.le_of_ble_eq_true rfl) ?_
  refine VC.reg tab_ok [1] rfl ?_
  refine VX.newI rfl rfl ?_
  refine VX.meek rfl ?_
  refine VX.nil ?_
  refine VC.seq ?_
  refine VC.block ?_
  refine VC.reg tab_ok [] rfl ?_
  refine VX.meek rfl ?_
  first | refine VX.meek rfl ?_ | refine VX.loadI rfl rfl au_l ?_ | refine VX.loadP rfl rfl rfl au_l ?_
  refine VX.callP0 rfl rfl rfl (isFunc_p _) ?_
  iterate 2 refine VX.meek rfl ?_
  refine VX.nil ?_
  refine VC.cond rfl (fun hc0 => ?_) (fun hc0 => ?_)
  · exact absurd hc0 (by simp [h1])
  · (try simp only [au_std] at hc0)
    refine VC.reg tab_ok [] rfl ?_
    refine VX.meek rfl ?_
    first | refine VX.meek rfl ?_ | refine VX.loadI rfl rfl au_l ?_ | refine VX.loadP rfl rfl rfl au_l ?_
    refine VX.callP0 rfl rfl rfl (isPlace_p _) ?_
    iterate 2 refine VX.meek rfl ?_
    refine' VX.merge (d := 20) [_, _, _, _, _] rfl ?_ rfl ?_
    rotate_left
    · refine VX.guard rfl rfl (fun hb3_4 => ?_) (fun hb3_4 => ?_)
      · have ghb3_4 := hb3_4
        try simp only [au_std, Bool.not_true, Bool.not_false] at ghb3_4
        refine VX.meek rfl ?_
        refine VX.guardT rfl rfl hb3_4 ?_
        first | refine VX.meek rfl ?_ | refine VX.loadI rfl rfl au_l ?_ | refine VX.loadP rfl rfl rfl au_l ?_
        refine VX.guardT rfl rfl hb3_4 ?_
        refine VX.callP0 rfl rfl rfl (isPlace_p _) ?_
        refine VX.guardT rfl rfl hb3_4 ?_
        refine VX.meek rfl ?_
        refine VX.pickO rfl (fun _ => rfl) ?_
        exact VX.nil ⟨rfl, rfl⟩
      · refine VX.guardF rfl rfl hb3_4 ?_
        refine VX.guardF rfl rfl hb3_4 ?_
        refine VX.guardF rfl rfl hb3_4 ?_
        exact VX.pickO rfl (fun h => absurd (h.symm.trans hb3_4) (by decide)) (VX.nil ⟨rfl, rfl⟩)
    refine VX.meek rfl ?_
    refine VX.nil ?_
    refine VC.cond rfl (fun hc1 => ?_) (fun hc1 => ?_)
    · exact absurd hc1 (by simp [h2, h3])
    · (try simp only [au_std] at hc1)
      refine VC.reg tab_ok [] rfl ?_
      refine VX.meek rfl ?_
      first | refine VX.meek rfl ?_ | refine VX.loadI rfl rfl au_l ?_ | refine VX.loadP rfl rfl rfl au_l ?_
      iterate 2 refine VX.meek rfl ?_
      refine' VX.merge (d := 30) [_, _, _, _, _] rfl ?_ rfl ?_
      rotate_left
      · refine VX.guard rfl rfl (fun hb5_3 => ?_) (fun hb5_3 => ?_)
        · have ghb5_3 := hb5_3
          try simp only [au_std, Bool.not_true, Bool.not_false] at ghb5_3
          refine VX.meek rfl ?_
          refine VX.guardT rfl rfl hb5_3 ?_
          first | refine VX.meek rfl ?_ | refine VX.loadI rfl rfl au_l ?_ | refine VX.loadP rfl rfl rfl au_l ?_
          refine VX.guardT rfl rfl hb5_3 ?_
          refine VX.meek rfl ?_
          refine VX.guardT rfl rfl hb5_3 ?_
          refine VX.meek rfl ?_
          refine VX.pickA rfl (fun _ => rfl) ?_
          exact VX.nil ⟨rfl, rfl⟩
        · refine VX.guardF rfl rfl hb5_3 ?_
          refine VX.guardF rfl rfl hb5_3 ?_
          refine VX.guardF rfl rfl hb5_3 ?_
          exact VX.pickA rfl (fun h => absurd (h.symm.trans hb5_3) (by decide)) (VX.nil ⟨rfl, rfl⟩)
      refine VX.meek rfl ?_
      refine VX.nil ?_
      refine VC.cond rfl (fun hc2 => ?_) (fun hc2 => ?_)
      · exact absurd hc2 (by rcases h4 with h | h <;> simp [h])
      · (try simp only [au_std] at hc2)
        refine VC.reg tab_ok [] rfl ?_
        refine VX.meek rfl ?_
        first | refine VX.meek rfl ?_ | refine VX.loadI rfl rfl au_l ?_ | refine VX.loadP rfl rfl rfl au_l ?_
        iterate 3 refine VX.meek rfl ?_
        refine VX.nil ?_
        refine VC.cond rfl (fun hc3 => ?_) (fun hc3 => ?_)
        · (try simp only [au_std] at hc3); omega
        · (try simp only [au_std] at hc3)
          refine VC.skip ?_
          refine VC.seq ?_
          refine VC.reg tab_ok [] rfl ?_
          refine VX.meek rfl ?_
          first | refine VX.meek rfl ?_ | refine VX.loadI rfl rfl au_l ?_ | refine VX.loadP rfl rfl rfl au_l ?_
          iterate 2 refine VX.meek rfl ?_
          refine VX.nil ?_
          refine VC.block ?_
          refine VC.loopS (σ := Nat) (fun k => p.clip.length - k) (fun k => k ≤ p.clip.length) (fun k => [(39, I64 k)]) (fun _ => []) [37, 38] rfl (0) ?_ ?_ ?_
          · refine ⟨[], rfl, by first | trivial | decide, rfl, ?_, ?_⟩ <;> (repeat' first | exact trivial | exact CvB_n | exact CvB_d | refine CvE_app ?_ ?_ | refine CvE_cons rfl ?_ ?_ | refine CvH_cons ?_ ?_ | refine CvB_c rfl ?_ | fail) <;> first | exact au_v | (skip)
          · (try dsimp only); omega
          rintro k hk
          refine VC.reg tab_ok [] rfl ?_
          refine VX.meek rfl ?_
          refine VX.nil ?_
          refine VC.seq ?_
          refine VC.cond rfl (fun hc4 => ?_) (fun hc4 => ?_)
          · (try simp only [au_std] at hc4); have hkl : k < p.clip.length := (by omega); have hq := h6 p.clip[k]! (List.mem_iff_getElem?.2 ⟨k, getE hkl⟩)
            refine VC.skip ?_
            refine VC.seq ?_
            refine VC.block ?_
            refine VC.reg tab_ok [] rfl ?_
            first | refine VX.idxI rfl rfl rfl rfl rfl rfl (by omega) ?_ | refine VX.idxO0 rfl rfl rfl rfl rfl rfl rfl (by omega) ?_ | refine VX.idxO0 rfl rfl rfl rfl rfl rfl au_z (by omega) ?_ | refine VX.idxO rfl rfl rfl rfl rfl rfl rfl (by omega) ?_ | refine VX.idxI rfl rfl rfl rfl rfl au_z (by omega) ?_ | refine VX.idxO rfl rfl rfl rfl rfl rfl au_z (by omega) ?_ | refine VX.meek rfl ?_
            first | refine VX.meek rfl ?_ | refine VX.loadI rfl rfl au_l ?_ | refine VX.loadP rfl rfl rfl au_l ?_
            refine VX.new rfl rfl ?_
            refine VX.store rfl rfl rfl rfl rfl au_sR rfl ?_
            refine VX.nil ?_
            refine VC.reg tab_ok [] rfl ?_
            refine VX.meek rfl ?_
            first | refine VX.meek rfl ?_ | refine VX.loadI rfl rfl au_l ?_ | refine VX.loadP rfl rfl rfl au_l ?_
            refine VX.callP0 rfl rfl rfl (isPlace_p _) ?_
            iterate 2 refine VX.meek rfl ?_
            refine' VX.merge (d := 52) [_, _, _, _, _] rfl ?_ rfl ?_
            rotate_left
            · refine VX.guard rfl rfl (fun hb12_4 => ?_) (fun hb12_4 => ?_)
              · have ghb12_4 := hb12_4
                try simp only [au_std, Bool.not_true, Bool.not_false] at ghb12_4
                refine VX.meek rfl ?_
                refine VX.guardT rfl rfl hb12_4 ?_
                first | refine VX.meek rfl ?_ | refine VX.loadI rfl rfl au_l ?_ | refine VX.loadP rfl rfl rfl au_l ?_
                refine VX.guardT rfl rfl hb12_4 ?_
                refine VX.callP0 rfl rfl rfl (isPlace_p _) ?_
                refine VX.guardT rfl rfl hb12_4 ?_
                refine VX.meek rfl ?_
                refine VX.pickO rfl (fun _ => rfl) ?_
                exact VX.nil ⟨rfl, rfl⟩
              · refine VX.guardF rfl rfl hb12_4 ?_
                refine VX.guardF rfl rfl hb12_4 ?_
                refine VX.guardF rfl rfl hb12_4 ?_
                exact VX.pickO rfl (fun h => absurd (h.symm.trans hb12_4) (by decide)) (VX.nil ⟨rfl, rfl⟩)
            refine VX.meek rfl ?_
            refine' VX.merge (d := 58) [_, _, _, _, _] rfl ?_ rfl ?_
            rotate_left
            · refine VX.guard rfl rfl (fun hb12_10 => ?_) (fun hb12_10 => ?_)
              · have ghb12_10 := hb12_10
                try simp only [au_std, Bool.not_true, Bool.not_false] at ghb12_10
                refine VX.meek rfl ?_
                refine VX.guardT rfl rfl hb12_10 ?_
                first | refine VX.meek rfl ?_ | refine VX.loadI rfl rfl au_l ?_ | refine VX.loadP rfl rfl rfl au_l ?_
                refine VX.guardT rfl rfl hb12_10 ?_
                refine VX.callP0 rfl rfl rfl (isSide_p _) ?_
                refine VX.guardT rfl rfl hb12_10 ?_
                refine VX.meek rfl ?_
                refine VX.pickO rfl (fun _ => rfl) ?_
                exact VX.nil ⟨rfl, rfl⟩
              · refine VX.guardF rfl rfl hb12_10 ?_
                refine VX.guardF rfl rfl hb12_10 ?_
                refine VX.guardF rfl rfl hb12_10 ?_
                exact VX.pickO rfl (fun h => absurd (h.symm.trans hb12_10) (by decide)) (VX.nil ⟨rfl, rfl⟩)
            refine VX.meek rfl ?_
            refine' VX.merge (d := 64) [_, _, _, _, _] rfl ?_ rfl ?_
            rotate_left
            · refine VX.guard rfl rfl (fun hb12_16 => ?_) (fun hb12_16 => ?_)
              · have ghb12_16 := hb12_16
                try simp only [au_std, Bool.not_true, Bool.not_false] at ghb12_16
                refine VX.meek rfl ?_
                refine VX.guardT rfl rfl hb12_16 ?_
                first | refine VX.meek rfl ?_ | refine VX.loadI rfl rfl au_l ?_ | refine VX.loadP rfl rfl rfl au_l ?_
                refine VX.guardT rfl rfl hb12_16 ?_
                refine VX.callP0 rfl rfl rfl (isSide_p _) ?_
                refine VX.guardT rfl rfl hb12_16 ?_
                refine VX.meek rfl ?_
                refine VX.pickO rfl (fun _ => rfl) ?_
                exact VX.nil ⟨rfl, rfl⟩
              · refine VX.guardF rfl rfl hb12_16 ?_
                refine VX.guardF rfl rfl hb12_16 ?_
                refine VX.guardF rfl rfl hb12_16 ?_
                exact VX.pickO rfl (fun h => absurd (h.symm.trans hb12_16) (by decide)) (VX.nil ⟨rfl, rfl⟩)
            refine VX.nil ?_
            refine VC.cond rfl (fun hc5 => ?_) (fun hc5 => ?_)
            · exact absurd hc5 (by rw [hq.1, hq.2.1, hq.2.2.1, hq.2.2.2]; simp)
            · (try simp only [au_std] at hc5)
              refine VC.skip ?_
              refine VC.regN tab_ok [] rfl ?_
              first | refine VX.add rfl rfl (by omega) ?_ | refine VX.meek rfl ?_
              refine VX.meek rfl ?_
              refine VX.nil ?_
              refine ⟨k + 1, by (try dsimp only); omega, ?_, (by refine ⟨[], rfl, by first | trivial | decide, rfl, ?_, ?_⟩ <;> (repeat' first | exact trivial | exact CvB_n | exact CvB_d | refine CvE_app ?_ ?_ | refine CvE_cons rfl ?_ ?_ | refine CvH_cons ?_ ?_ | refine CvB_c rfl ?_ | fail) <;> first | exact au_v | (fail))⟩
              (try dsimp only); omega
          · (try simp only [au_std] at hc4)
            refine VC.exit ?_
            refine VC.reg tab_ok [] rfl ?_
            refine VX.meek rfl ?_
            refine VX.nil ?_
            refine VC.ret ?_
            exact ⟨trivial, _, rfl, Cv.eq (by first | rfl | (simp [*]; done)) rfl⟩
abbrev plT (b w h : Nat) (px : List Int) : T := .iptr (plC w h px (nwT b px.length)) 0
theorem paintL_bd {w : Nat} {V : Int → Int → Prop} {f : Int → Int → Int → Int} {px : List Int} (hb : ∀ v ∈ px, 0 ≤ v ∧ v < 256) (hf : ∀ x y o, 0 ≤ o ∧ o < 256 → 0 ≤ f x y o ∧ f x y o < 256) : ∀ v ∈ paintL w V f px, 0 ≤ v ∧ v < 256 := by
  intro v hv
  unfold paintL at hv
  obtain ⟨i, hi, rfl⟩ := List.mem_map.1 hv
  split
  · exact hf _ _ _ (bang_bd hb _)
  · exact bang_bd hb _
end
section
open Go.RowKit Go.Sort
set_option maxRecDepth 10000
theorem pgrid_n [Dr] (w h : Nat) (px s : List Int) (n : Nat) (hn : s.length = n) (hw : w ≤ 128) (hh : h ≤ 128) (hl : px.length = w * h) (hs : s.length = w * h) (hp : ∀ v ∈ px, 0 ≤ v ∧ v < 256) (hb : ∀ v ∈ s, 0 ≤ v ∧ v < 256) :
    CallP Tryz.prog 46 [.iptr (plC w h px (.islc (encL cU s) n none)) 0] (gT w h s) := by
  subst hn; exact pgrid_p w h px s hw hh hl hs hp hb
theorem opL_and {n m : Nat} {a b : List Rect} (ha : Reg n a) (hb : Reg m b) {x y : Int} : inL (opL and a b) x y ↔ inL a x y ∧ inL b x y := by
  rw [opL_in (k := and) rfl ha.1 hb.1 ha.2 hb.2 x y]; simp
theorem in_plane {w h : Nat} (hw : 1 ≤ w ∧ w ≤ 128) (hh : 1 ≤ h ∧ h ≤ 128) (x y : Int) : inL (bandOf [⟨0, 0, w, h⟩]) x y ↔ 0 ≤ x ∧ x < w ∧ 0 ≤ y ∧ y < h := by
  have hc : countsB ⟨0, 0, w, h⟩ = true := by unfold countsB fitsB; simp; omega
  rw [bandOf_one, if_pos hc, inL_cons]
  have : ¬ inL [] x y := inL_nil
  unfold Rect.has
  constructor
  · rintro (k | k)
    · dsimp only at k; omega
    · exact absurd k this
  · intro k; exact .inl (by dsimp only; omega)
theorem in_plane0 {w h : Nat} (hw : w ≤ 128) (hh : h ≤ 128) (x y : Int) : inL (bandOf [⟨0, 0, w, h⟩]) x y ↔ 0 ≤ x ∧ x < w ∧ 0 ≤ y ∧ y < h := by
  by_cases h1 : 1 ≤ w ∧ 1 ≤ h
  · exact in_plane ⟨h1.1, hw⟩ ⟨h1.2, hh⟩ x y
  · have hc : ¬ countsB ⟨0, 0, w, h⟩ = true := by unfold countsB fitsB; simp; omega
    rw [bandOf_one, if_neg hc]
    exact ⟨fun k => absurd k inL_nil, fun k => by omega⟩
end
section
open Go.RowKit
def AllI (p : Nat → Prop) : List Nat → Prop
  | [] => True
  | i :: is => p i ∧ AllI p is
theorem allI_at {p : Nat → Prop} : ∀ {is : List Nat}, AllI p is → ∀ i ∈ is, p i
  | [], _, i, h => by cases h
  | j :: is, ⟨h1, h2⟩, i, h => by
    rcases List.mem_cons.1 h with rfl | h
    · exact h1
    · exact allI_at h2 i h
def AnyV [Dr] (P : Program) (tab : Tab) (im : List Nat) (l : List Oper) (K : Env → Hp → Prop) : Nat → Array Bool → Env → Hp → Prop
  | 0, listed, E, H => Region.ready .any l.toArray listed = [] ∧ K E H
  | f + 1, listed, E, H => (Region.ready .any l.toArray listed = [] → K E H) ∧
      AllI (fun i => ∃ o, l[i]? = some o ∧ VX false P tab im (l.map (·.dst)) [o] E H fun E' H' => AnyV P tab im l K f (listed.setIfInBounds i true) E' H') (Region.ready .any l.toArray listed)
section
variable {z : Bool} {P : Program} {tab : Tab} {n kb lb : Nat} {im : List Nat} {l : List Oper} {E : Env} {H : Hp} {K : Env → Hp → Prop} {X0 : Nat → Prop} {a : Act} {M : Mp}
theorem op_ok [Dr] (hT : TabOk P tab) {o : Oper} {i : Nat} {KV : Env → Hp → Prop} {r : Option Nat} {Q : Exit → Act → World → Prop} {KA : Act → World → Prop} (ho : l[i]? = some o) (hd : dstB n l = true) (hs : St n kb E H X0 a M)
    (hv : VX false P tab im (l.map (·.dst)) [o] E H KV) (hK : ∀ E' H' a' M', KV E' H' → Evo X0 M M' → St n kb E' H' X0 a' M' → KA a' M'.w) : wpOpIn (FW r) 0 P l.toArray Q i KA a M.w := by
  have hdo : ∀ k, o.dst = some k → k < n := fun k hk => by
    unfold dstB at hd
    rw [List.all_eq_true] at hd
    have := hd o (List.mem_of_getElem? ho)
    rw [hk] at this; simpa using this
  have hv : vcSeq P tab im (l.toArray.toList.map (·.dst)) [o] E H (fun E' H' => ∃ E1, Sub E1 E' ∧ KV E1 H') := hv E (Sub.refl E)
  have hg := vcGuard_ok (ops := l.toArray) hs hv
  unfold wpOpIn
  simp only [List.getElem?_toArray, ho]
  split
  · rename_i hw
    rw [if_pos hw] at hg
    refine vcOp_ok hT hs hdo (fun E' H' a' M' hk he hs' => ?_) hg
    obtain ⟨E1, h1, h2⟩ := hk
    exact hK E1 H' a' M' h2 he (hs'.eqv h1)
  · rename_i hw
    rw [if_neg hw] at hg
    obtain ⟨E1, h1, h2⟩ := hg
    exact ⟨fun _ _ => trivial, hK E1 H _ M h2 (Evo.refl _ _) ((hs.put (Evo.refl _ _) hs.sim (t := .v undef) rfl hdo).eqv h1)⟩
theorem any_ok [Dr] (hT : TabOk P tab) {r : Option Nat} {Q : Exit → Act → World → Prop} (hd : dstB n l = true) : ∀ (f : Nat) (listed : Array Bool) {E : Env} {H : Hp} {a : Act} {M : Mp}, St n kb E H X0 a M → (∀ E' H' a' M', K E' H' → Evo X0 M M' → St n kb E' H' X0 a' M' → Q .normal a' M'.w) → AnyV P tab im l K f listed E H → wpAnyIn (FW r) 0 P .any l.toArray Q f listed a M.w
  | 0, listed, E, H, a, M, hs, hK, hv => ⟨hv.1, hK E H a M hv.2 (Evo.refl _ _) hs⟩
  | f + 1, listed, E, H, a, M, hs, hK, hv => by
    refine ⟨fun h0 => hK E H a M (hv.1 h0) (Evo.refl _ _) hs, fun i hi => ?_⟩
    obtain ⟨o, ho, hx⟩ := allI_at hv.2 i hi
    exact op_ok hT ho hd hs hx fun E' H' a' M' k1 k2 k3 => any_ok hT hd f _ k3 (fun E2 H2 a2 M2 q1 q2 q3 => hK E2 H2 a2 M2 q1 (k2.trans q2) q3) k1
theorem VC.any [Dr] {id : Nat} {QT : Exit → Env → Hp → Prop} (hT : TabOk P tab) (im : List Nat) (hm : P.follows .mixedOrders = true) (hd : dstB n l = true) (h : AnyV P tab im l (QT .normal) l.length (Array.replicate l.length false) E H) : VC z P n lb (.region id l.toArray true) QT E H := by
  intro X0 M a r0 kb hz hs
  refine wpIn_region_any hm ?_
  let M1 : Mp := ⟨M.β, M.X, { M.w with drawn := M.w.drawn + 1 }⟩
  have hE1 : Evo X0 M M1 := ⟨fun _ _ h => h, fun _ _ h => h, fun _ _ _ => rfl, fun _ _ h => h, rfl, ⟨rfl, fun _ => Nat.le_succ _⟩, rfl, Nat.le_refl _⟩
  have hs1 : St n kb E H X0 a M1 := ⟨fun d t ht => by obtain ⟨u, q1, q2⟩ := hs.tm d t ht; exact ⟨u, q1, Rep.stays hE1.stays _ _ q2⟩, hs.sz, hs.df.evo hE1, hs.ge, hs.sim.world hE1 fun _ _ => rfl⟩
  exact any_ok (r := r0) (Q := Lift n kb lb X0 M QT) hT hd l.toArray.size _ hs1 (fun E' H' a' M' k1 k2 k3 => ⟨E', H', M', k1, rfl, (hE1.trans k2).toK lb, k3⟩) h
theorem AnyV.more [Dr] {f : Nat} {listed : Array Bool} (is : List Nat) (hr : Region.ready .any l.toArray listed = is) (hn : is ≠ []) (h : AllI (fun i => ∃ o, l[i]? = some o ∧ VX false P tab im (l.map (·.dst)) [o] E H fun E' H' => AnyV P tab im l K f (listed.setIfInBounds i true) E' H') is) : AnyV P tab im l K (f + 1) listed E H :=
  ⟨fun h0 => absurd (hr.symm.trans h0) hn, by rw [hr]; exact h⟩
theorem AnyV.fin [Dr] {f : Nat} {listed : Array Bool} (hr : Region.ready .any l.toArray listed = []) (h : K E H) : AnyV P tab im l K f listed E H := by
  cases f with
  | zero => exact ⟨hr, h⟩
  | succ f => exact ⟨fun _ => h, by rw [hr]; trivial⟩
end
end
section
open Go.RowKit Go.Sort
set_option maxRecDepth 10000
end
section
open Go.RowKit Go.Sort
set_option maxRecDepth 10000
end
section
open Go.RowKit Go.Sort
set_option maxRecDepth 10000
set_option maxHeartbeats 4000000
section
variable {q : Bool} {P : Program} {tab : Tab} {im : List Nat} {ds : List (Option Nat)} {l : List Oper} {E : Env} {H : Hp} {K : Env → Hp → Prop} {d : Nat} {ty : TypeId} {pos : String} {after : Array Edge}
theorem VX.quo [Dr] {x y : Operand} {t t2 : Nat} {a c : Int} (hx : E.opd x = some (I64 a)) (hy : E.opd y = some (I64 c)) (ha : 0 ≤ a) (ha2 : a ≤ 9000000000000000000) (hc : 0 < c) (k : VX q P tab im ds l ((d, I64 (a / c)) :: E) H K) : VX q P tab im ds (⟨some d, .binOp .quo t x y t2, ty, pos, after, none⟩ :: l) E H K := by
  refine VX.meek (t := I64 (a / c)) ?_ k
  have h1 : a / c ≤ a := Int.ediv_le_self c ha
  have h2 : 0 ≤ a / c := Int.ediv_nonneg ha (by omega)
  have hc' : ¬ c = 0 := by omega
  simp only [opM, hx, hy, mBin, binInt]
  rw [if_neg hc', Int.tdiv_eq_ediv_of_nonneg ha, wrap_in (by omega)]
  rfl
theorem VX.rem [Dr] {x y : Operand} {t t2 : Nat} {a c : Int} (hx : E.opd x = some (I64 a)) (hy : E.opd y = some (I64 c)) (ha : 0 ≤ a) (hc : 0 < c) (k : VX q P tab im ds l ((d, I64 (a % c)) :: E) H K) : VX q P tab im ds (⟨some d, .binOp .rem t x y t2, ty, pos, after, none⟩ :: l) E H K := by
  refine VX.meek (t := I64 (a % c)) ?_ k
  have hc' : ¬ c = 0 := by omega
  simp only [opM, hx, hy, mBin, binInt]
  rw [if_neg hc', Int.tmod_eq_emod_of_nonneg ha]
  rfl
end
abbrev plP (w h : Nat) (px : List Int) : T := .iptr (plC w h px (.islc (encL cU px) px.length none)) 0
theorem plC_pure (w h : Nat) (px : List Int) : T.pureL (plC w h px (.islc (encL cU px) px.length none)) = true := by simp only [T.pureL, T.pure, encL_pure]; rfl
theorem planeOf_p [Dr] (w h : Nat) (px : List Int) (hw : w ≤ 128) (hh : h ≤ 128) (hl : px.length = w * h) (hb : ∀ v ∈ px, 0 ≤ v ∧ v < 256) : CallP Tryz.prog 38 [gT w h px] (plP w h px) :=
  CallP.intro2 (by simp only [T.pureL, T.pure, encL_pure]; rfl) (plC_pure w h px) ((planeOf_t w h px hw hh hl hb).mono fun t H' ⟨h1, h2⟩ => by
    subst h1 h2; exact Cv.iptr (cv_pl (Cv.pure (encL_pure cU _)) (Cv.fslc0 ⟨rfl, by simp⟩ (CvL.pure (encL_pure cU _)))))
theorem plP_pure (w h : Nat) (px : List Int) : T.pureL [plP w h px] = true := by simp only [T.pureL, T.pure, encL_pure]; rfl
end
section
open Go.RowKit Go.Sort
set_option maxRecDepth 10000
def ropPlace (s d : Bool) : Nat := if s && d then 0 else if s then 1 else if d then 2 else 3
end
section
open Go.RowKit Go.Sort
set_option maxRecDepth 10000
section
variable {P : Program} {tab : Tab} {im : List Nat} {ops : Array Oper} {l : List Oper} {E : Env} {Hm F : Hp} {K : Env → Hp → Prop} {wd : List Bool} {d : Nat} {ty : TypeId} {pos : String} {after : Array Edge}
theorem VD.add [Dr] {x y : Operand} {t t2 : Nat} {a b : Int} (hx : E.opd x = some (I64 a)) (hy : E.opd y = some (I64 b)) (h : -9223372036854775808 ≤ a + b ∧ a + b ≤ 9223372036854775807) (k : VD P tab im ops Hm l wd ((d, I64 (a + b)) :: E) F K) : VD P tab im ops Hm (⟨some d, .binOp .add t x y t2, ty, pos, after, none⟩ :: l) (false :: wd) E F K :=
  VD.meek (t := I64 (a + b)) (by simp only [opM, hx, hy, mBin, binInt, wrap_in h]; rfl) k
theorem VD.mul [Dr] {x y : Operand} {t t2 : Nat} {a b : Int} (hx : E.opd x = some (I64 a)) (hy : E.opd y = some (I64 b)) (h : -9223372036854775808 ≤ a * b ∧ a * b ≤ 9223372036854775807) (k : VD P tab im ops Hm l wd ((d, I64 (a * b)) :: E) F K) : VD P tab im ops Hm (⟨some d, .binOp .mul t x y t2, ty, pos, after, none⟩ :: l) (false :: wd) E F K :=
  VD.meek (t := I64 (a * b)) (by simp only [opM, hx, hy, mBin, binInt, wrap_in h]; rfl) k
end
def atG (w h : Nat) (px : List Int) (x y : Int) : Int := if inB' w h x y = true then px[(y * w + x).toNat]! else 0
theorem inB_iff {w h : Nat} {x y : Int} : inB' w h x y = true ↔ 0 ≤ x ∧ x < w ∧ 0 ≤ y ∧ y < h := by unfold inB'; simp only [Bool.and_eq_true, decide_eq_true_eq]; omega
theorem mApp_empty {tab : Tab} {H : Hp} {t1 t2 : Nat} {y : T} {i j : TyI} {e n2 : Nat} {ys : List T} {cs : List T} (hT : tab t1 = some i) (hk : i.k = .sl e) (hj : tab e = some j) (hs : srcCells tab (lookH H) t2 j.sz y = some (ys, n2)) (h2 : n2 * j.by_ ≤ 2 ^ 47) (h3 : n2 ≤ 2 ^ 47) (h4 : n2 * j.sz = ys.length) :
    mAppend tab H t1 t2 (.islc cs 0 (some 0)) y = some (.slc H.length 0 n2 j.sz none, H ++ [.c ys]) := by
  simp only [mAppend, hT, hk, hj, hs]
  rw [if_pos ⟨h2, h3, h4⟩]
end
section
open Go.RowKit Go.Sort
set_option maxRecDepth 10000
end
section
open Go.RowKit Go.Sort
set_option maxRecDepth 10000
end
section
open Go.RowKit Go.Sort
set_option maxRecDepth 10000
theorem gnew_p [Dr] (w h : Nat) (p : Int) (hw : 1 ≤ w ∧ w ≤ 128) (hh : 1 ≤ h ∧ h ≤ 128) : CallP Tryz.prog 15 [I64 w, I64 h, U8 p] (.tup [gT w h (List.replicate (w * h) p), I64 0]) := new_yes w h p hw hh
theorem gset_n [Dr] (w h : Nat) (px : List Int) (n : Nat) (hn : px.length = n) (x y p : Int) (hw : w ≤ 128) (hh : h ≤ 128) (hl : px.length = w * h) (hb : ∀ v ∈ px, 0 ≤ v ∧ v < 256) (hx : 0 ≤ x ∧ x < w) (hy : 0 ≤ y ∧ y < h) :
    CallP Tryz.prog 16 [.agg [I64 w, I64 h, .islc (encL cU px) n none], I64 x, I64 y, U8 p] (.agg [I64 w, I64 h, .islc (encL cU (px.set (y * w + x).toNat p)) n none]) := by
  have k := gset_p ⟨w, h, px⟩ ⟨hw, hh, hl, hb⟩ x y p
  have e : Pic.set ⟨w, h, px⟩ x y p = ⟨w, h, px.set (y * w + x).toNat p⟩ := if_pos (show inB' w h x y = true from inB_iff.2 ⟨hx.1, hx.2, hy.1, hy.2⟩)
  rw [e] at k
  subst hn
  have k2 : CallP Tryz.prog 16 [gT w h px, I64 x, I64 y, U8 p] (gT w h (px.set (y * w + x).toNat p)) := k
  simp only [gT, List.length_set] at k2
  exact k2
theorem gat_p [Dr] (w h : Nat) (px : List Int) (x y : Int) (hw : w ≤ 128) (hh : h ≤ 128) (hl : px.length = w * h) (hb : ∀ v ∈ px, 0 ≤ v ∧ v < 256) : CallP Tryz.prog 34 [gT w h px, I64 x, I64 y] (U8 (atG w h px x y)) := at_p ⟨w, h, px⟩ ⟨hw, hh, hl, hb⟩ x y
theorem repl_at (n i : Nat) : (List.replicate n (0 : Int))[i]! = 0 := by
  rw [List.getElem!_eq_getElem?_getD, List.getElem?_replicate]; split <;> rfl
end
section
open Go.RowKit Go.Sort
set_option maxRecDepth 10000
section
variable {q : Bool} {P : Program} {tab : Tab} {im : List Nat} {ds : List (Option Nat)} {l : List Oper} {E : Env} {H : Hp} {K : Env → Hp → Prop} {d : Nat} {ty : TypeId} {pos : String} {after : Array Edge}
theorem VX.remU [Dr] {x y : Operand} {t t2 : Nat} {a c : Int} (hx : E.opd x = some (U8 a)) (hy : E.opd y = some (U8 c)) (ha : 0 ≤ a) (hc : 0 < c) (k : VX q P tab im ds l ((d, U8 (a % c)) :: E) H K) : VX q P tab im ds (⟨some d, .binOp .rem t x y t2, ty, pos, after, none⟩ :: l) E H K := by
  refine VX.meek (t := U8 (a % c)) ?_ k
  have hc' : ¬ c = 0 := by omega
  simp only [opM, hx, hy, mBin, binInt]
  rw [if_neg hc', Int.tmod_eq_emod_of_nonneg ha]
  rfl
end
abbrev I8 (n : Int) : T := .v (.int .i8 n)
def smOk (s : Rect) : Prop := -128 ≤ s.X ∧ s.X ≤ 127 ∧ -128 ≤ s.Y ∧ s.Y ≤ 127 ∧ 0 ≤ s.W ∧ s.W < 256 ∧ 0 ≤ s.H ∧ s.H < 256
end
section
open Go.RowKit
def visH (fl : Bool) (F : Hp) : Hp := if fl then F else List.replicate F.length .d
def wOkG : List Wr → Hp → Prop
  | [], _ => True
  | (b, o, xs) :: W, F => match lookH F b with
    | some cs => o + xs.length ≤ cs.length ∧ xs.all cellB = true ∧ wOkG W (setH F b (.c (putL cs o xs)))
    | none => False
inductive RunT [Dr] (P : Program) (tab : Tab) (im : List Nat) (ops : Array Oper) : List Oper → Env → Hp → List Stp → List Bool → List (Option Wr) → Env → Hp → Prop
  | nil (E : Env) (F : Hp) : RunT P tab im ops [] E F [] [] [] E F
  | one {o : Oper} {l : List Oper} {E : Env} {F : Hp} {s : Stp} {f : Bool} {r : List Stp} {fs : List Bool} {ws : List (Option Wr)} {E' : Env} {F' : Hp} (h : StpOk P tab im ops o E (visH f F) s)
      (k : RunT P tab im ops l (E.put o.dst s.t) (F ++ newsOf s.nb) r fs ws E' F') : RunT P tab im ops (o :: l) E F (s :: r) (f :: fs) (none :: ws) E' F'
  | sto {o : Oper} {l : List Oper} {E : Env} {F : Hp} {t : Nat} {a x : Operand} {b q : Nat} {tx : T} {i : TyI} {r : List Stp} {fs : List Bool} {ws : List (Option Wr)} {E' : Env} {F' : Hp} (hg : o.guard = none) (hd : o.dst = none) (ho : o.op = .store t a x) (hT : tab t = some i) (ha : E.opd a = some (.ptr b q)) (hx : E.opd x = some tx)
      (hl : (flat tx).length = i.sz) (k : RunT P tab im ops l E F r fs ws E' F') : RunT P tab im ops (o :: l) E F (⟨.v undef, none⟩ :: r) (false :: fs) (some (b, q, flat tx) :: ws) E' F'
def VT [Dr] (P : Program) (tab : Tab) (im : List Nat) (ops : Array Oper) (l : List Oper) (E : Env) (F : Hp) (W : List Wr) (fl : List Bool) (K : Env → Hp → List Bool → Prop) : Prop :=
  ∀ E2, Sub E E2 → ∃ r fs ws E' F', RunT P tab im ops l E2 F r fs ws E' F' ∧ wOkG (W ++ ws.filterMap (·)) F' ∧ ∃ E1, Sub E1 E' ∧ K E1 (appW (W ++ ws.filterMap (·)) F') (fl ++ fs)
section
variable {z : Bool} {P : Program} {tab : Tab} {n lb : Nat} {im : List Nat} {ops : Array Oper} {l : List Oper} {E : Env} {F : Hp} {W : List Wr} {fl : List Bool} {K : Env → Hp → List Bool → Prop}
theorem VT.nil [Dr] (hw : wOkG W F) (h : K E (appW W F) fl) : VT P tab im ops [] E F W fl K := fun E2 he =>
  ⟨[], [], [], E2, F, .nil _ _, by simpa using hw, E, he, by simpa using h⟩
theorem VT.sto [Dr] {t : Nat} {a x : Operand} {ty : TypeId} {pos : String} {after : Array Edge} {b q : Nat} {tx : T} {i : TyI} (hT : tab t = some i) (ha : E.opd a = some (.ptr b q)) (hx : E.opd x = some tx) (hl : (flat tx).length = i.sz) (k : VT P tab im ops l E F (W ++ [(b, q, flat tx)]) (fl ++ [false]) K) : VT P tab im ops (⟨none, .store t a x, ty, pos, after, none⟩ :: l) E F W fl K := fun E2 he => by
  obtain ⟨r, fs, ws, E', F', h1, h2, E1, h3, h4⟩ := k _ he
  refine ⟨⟨.v undef, none⟩ :: r, false :: fs, some (b, q, flat tx) :: ws, E', F', .sto rfl rfl rfl hT (he.opd ha) (he.opd hx) hl h1, ?_, E1, h3, ?_⟩
  · simpa using h2
  · simpa using h4
theorem run_runT [Dr] {f : Bool} {l1 l2 : List Oper} {E1 : Env} {H1 : Hp} {H0 : Hp} {r1 : List Stp} (h : Run P tab im ops l1 E H0 r1 E1 H1) (hno : H1 = H0) (hf : H0 = visH f F) : ∀ {r : List Stp} {fs : List Bool} {ws : List (Option Wr)} {E' : Env} {F' : Hp}, RunT P tab im ops l2 E1 F r fs ws E' F' →
    ∃ r' fs' ws', RunT P tab im ops (l1 ++ l2) E F r' fs' ws' E' F' ∧ ws'.filterMap (·) = ws.filterMap (·) ∧ fs' = List.replicate l1.length f ++ fs := by
  induction h with
  | nil E H => intro r fs ws E' F' k; exact ⟨r, fs, ws, k, rfl, rfl⟩
  | @cons o l E H s r1 E1 H1 h k ih =>
    intro r fs ws E' F' k2
    obtain ⟨x, hx⟩ := run_ext k
    have e : newsOf s.nb = [] := by
      rw [hno, List.append_assoc] at hx
      have := List.append_cancel_left (show H ++ [] = H ++ (newsOf s.nb ++ x) by rw [List.append_nil]; exact hx)
      exact (List.append_eq_nil_iff.1 this.symm).1
    rw [e, List.append_nil] at k ih
    obtain ⟨r', fs', ws', g1, g2, g3⟩ := ih hno hf k2
    refine ⟨s :: r', f :: fs', none :: ws', .one (hf ▸ h) (by rw [e, List.append_nil]; exact g1), by simpa using g2, by rw [g3]; rfl⟩
theorem VT.seg [Dr] {l1 l2 : List Oper} (f : Bool) (hl : l = l1 ++ l2) (h : VX true P tab im (ops.toList.map (·.dst)) l1 E (visH f F) fun E1 H1 => H1 = visH f F ∧ VT P tab im ops l2 E1 F W (fl ++ List.replicate l1.length f) K) : VT P tab im ops l E F W fl K := fun E2 he => by
  subst hl
  obtain ⟨r1, E1, H1, hr, E3, he3, hh, hv⟩ := vcDraw_run (ops := ops) _ _ _ (h E2 he)
  obtain ⟨r, fs, ws, E', F', k1, k2, E4, k3, k4⟩ := hv _ he3
  obtain ⟨r', fs', ws', g1, g2, g3⟩ := run_runT (f := f) hr hh rfl k1
  exact ⟨r', fs', ws', E', F', g1, by rw [g2]; exact k2, E4, k3, by rw [g2, g3, ← List.append_assoc]; exact k4⟩
end

end
section
open Go.RowKit Go.Sort
set_option maxRecDepth 10000
def mvR (dx dy : Int) (r : Rect) : Rect := ⟨max (r.X + dx) (-1048576), max (r.Y + dy) (-1048576), min (r.X + dx + r.W) 1048576 - max (r.X + dx) (-1048576), min (r.Y + dy + r.H) 1048576 - max (r.Y + dy) (-1048576)⟩
def farB (dx dy : Int) : Bool := decide (dx < -2097152) || decide (2097152 < dx) || decide (dy < -2097152) || decide (2097152 < dy)
noncomputable def shiftR (R : List Rect) (dx dy : Int) : List Rect := if farB dx dy = true then [] else bandOf (R.map (mvR dx dy))
end
section
open Go.RowKit Go.Sort
set_option maxRecDepth 10000
def moveF (w : Nat) (px : List Int) (p : PenS) (src : Int → Int → Int) : Int → Int → Int → Int := fun x y _ => mixI p.f (src x y) px[(y * w + x).toNat]! p.pl
theorem moveF_bd (w : Nat) (px : List Int) (p : PenS) (src : Int → Int → Int) : ∀ x y o, 0 ≤ o ∧ o < 256 → 0 ≤ moveF w px p src x y o ∧ moveF w px p src x y o < 256 := fun x y o _ => by have := mixI_bd p.f (src x y) px[(y * w + x).toNat]! p.pl; unfold moveF; omega
end
section
open Go.RowKit Go.Sort
set_option maxRecDepth 10000
def inQ (x y : Int) : Prop := -1048576 ≤ x ∧ x < 1048576 ∧ -1048576 ≤ y ∧ y < 1048576
theorem inL_rok {R : List Rect} (hr : ∀ r ∈ R, rok r) {x y : Int} (h : inL R x y) : inQ x y := by
  obtain ⟨r, h1, h2⟩ := h
  have := hr r h1
  unfold rok at this; unfold Rect.has at h2; unfold inQ; omega
theorem mv_has {dx dy : Int} {r : Rect} (hr : rok r) (x y : Int) : (countsB (mvR dx dy r) = true ∧ (mvR dx dy r).has x y) ↔ r.has (x - dx) (y - dy) ∧ inQ x y := by
  unfold rok at hr
  unfold countsB fitsB Rect.has mvR inQ
  simp only [Bool.and_eq_true, decide_eq_true_eq]
  omega
theorem shift_in {R : List Rect} (hr : ∀ r ∈ R, rok r) (dx dy x y : Int) : inL (shiftR R dx dy) x y ↔ inL R (x - dx) (y - dy) ∧ inQ x y := by
  unfold shiftR
  split
  · rename_i hf
    constructor
    · intro h; exact absurd h inL_nil
    · rintro ⟨h1, h2⟩
      exfalso
      have h3 := inL_rok hr h1
      unfold farB at hf
      simp only [Bool.or_eq_true, decide_eq_true_eq] at hf
      unfold inQ at h2 h3
      omega
  · rw [bandOf_in]
    constructor
    · rintro ⟨q, hq, hh⟩
      obtain ⟨h1, h2⟩ := List.mem_filter.1 hq
      obtain ⟨r, hr1, rfl⟩ := List.mem_map.1 h1
      have := (mv_has (hr r hr1) x y).1 ⟨h2, hh⟩
      exact ⟨⟨r, hr1, this.1⟩, this.2⟩
    · rintro ⟨⟨r, hr1, h1⟩, h2⟩
      have := (mv_has (hr r hr1) x y).2 ⟨h1, h2⟩
      exact ⟨_, List.mem_filter.2 ⟨List.mem_map.2 ⟨r, hr1, rfl⟩, this.1⟩, this.2⟩
theorem Reg.shift {n : Nat} {R : List Rect} (h : Reg n R) (dx dy : Int) : Reg (n + 2) (shiftR R dx dy) := by
  obtain ⟨xs, ys, h1, h2, h3⟩ := h.few
  refine ⟨?_, ?_, xs.map (· + dx) ++ [-1048576, 1048576], ys.map (· + dy) ++ [-1048576, 1048576], by simp; omega, by simp; omega, ?_, ?_⟩
  · unfold shiftR; split
    · exact canon_nil
    · exact bandOf_canon _
  · unfold shiftR; split
    · intro r hr; cases hr
    · exact bandOf_rok _
  · intro x y hx
    simp only [List.mem_append, List.mem_map, List.mem_cons, List.mem_nil_iff, or_false, not_or] at hx
    have hx1 : x - dx ∉ xs := fun hh => hx.1 ⟨_, hh, by omega⟩
    rw [shift_in h.ok, shift_in h.ok, show x - 1 - dx = x - dx - 1 from by omega, h3.1 (x - dx) (y - dy) hx1]
    unfold inQ
    have e1 := hx.2.1; have e2 := hx.2.2
    constructor
    · rintro ⟨a, b⟩; exact ⟨a, by omega⟩
    · rintro ⟨a, b⟩; exact ⟨a, by omega⟩
  · intro x y hy
    simp only [List.mem_append, List.mem_map, List.mem_cons, List.mem_nil_iff, or_false, not_or] at hy
    have hy1 : y - dy ∉ ys := fun hh => hy.1 ⟨_, hh, by omega⟩
    rw [shift_in h.ok, shift_in h.ok, show y - 1 - dy = y - dy - 1 from by omega, h3.2 (x - dx) (y - dy) hy1]
    unfold inQ
    have e1 := hy.2.1; have e2 := hy.2.2
    constructor
    · rintro ⟨a, b⟩; exact ⟨a, by omega⟩
    · rintro ⟨a, b⟩; exact ⟨a, by omega⟩
end
section
open Go.ChangeShapes Go.WideShapes Go.ChangeAt Go.RowKit Go.WideElems
inductive Sh where
  | int (k : IntKind)
  | bool
  | str
  | st (l : List Sh)
  | sl (e : Sh)
mutual
def Sh.fits (P : Program) : Sh → TypeId → Bool
  | .int k, t => match P.underlying t with | some (.int k') => decide (k' = k) | _ => false
  | .bool, t => match P.underlying t with | some .bool => true | _ => false
  | .str, t => match P.underlying t with | some .string => true | _ => false
  | .st l, t => match P.underlying t with | some (.struct fs) => Sh.fitsL P l fs.toList 0 (P.cellsOf t) | _ => false
  | .sl e, t => match P.underlying t with | some (.slice u) => Sh.fits P e u && decide (0 < P.cellsOf u) && decide (P.cellsOf t = 1) | _ => false
def Sh.fitsL (P : Program) : List Sh → List Field → Nat → Nat → Bool
  | [], [], o, n => o == n
  | s :: l, f :: fs, o, n => f.offset == o && Sh.fits P s f.type && Sh.fitsL P l fs (o + P.cellsOf f.type) n
  | _, _, _, _ => false
end
def nth (p : List T → Prop) : Nat → List T → Prop
  | 0, xs => xs = []
  | n + 1, xs => ∃ a b, xs = a ++ b ∧ p a ∧ nth p n b
mutual
def Sh.wt : Sh → List T → Prop
  | .int k, ts => ∃ n, ts = [.v (.int k n)] ∧ (Lit.int k n).wf = true
  | .bool, ts => ∃ b, ts = [.v (.bool b)]
  | .str, ts => ∃ s : ByteArray, ts = [.v (.string s)] ∧ s.size ≤ maxLen
  | .st l, ts => Sh.wtL l ts
  | .sl e, ts => ∃ xs n, ts = [.islc xs n none] ∧ n ≤ maxLen ∧ nth (Sh.wt e) n xs
def Sh.wtL : List Sh → List T → Prop
  | [], ts => ts = []
  | s :: l, ts => ∃ a b, ts = a ++ b ∧ Sh.wt s a ∧ Sh.wtL l b
end
def inW (β : Nat → Option (Option (Nat × Nat))) (W : World) : Mp := ⟨β, fun _ => False, W⟩
theorem RepA.app {M : Mp} : ∀ {ts ss : List T} {a : Array Value} {j : Nat}, RepA M ts a j → RepA M ss a (j + ts.length) → RepA M (ts ++ ss) a j
  | [], ss, a, j, _, h => h
  | t :: ts, ss, a, j, ⟨u, h1, h2, h3⟩, h => ⟨u, h1, h2, RepA.app h3 (by rw [show j + 1 + ts.length = j + (t :: ts).length from by rw [List.length_cons]; omega]; exact h)⟩
theorem cell_block {W : World} {B o : Nat} {v : Value} (h : W.cell? ⟨B, o, none⟩ = some v) : ∃ a e f, W.heap[B]? = some (.cells a e f) := by
  unfold World.cell? at h
  split at h
  · rename_i c e f hh
    exact ⟨c, e, f, hh⟩
  · cases h
theorem cell_inW {W : World} {B o : Nat} {a : Array Value} {e : TypeId} {f : Nat × Nat} (h : W.heap[B]? = some (.cells a e f)) : W.cell? ⟨B, o, none⟩ = a[o]? := by
  unfold World.cell?
  rw [h]
  rfl
theorem add_n (B o i : Nat) : (Addr.add ⟨B, o, none⟩ i) = ⟨B, o + i, none⟩ := by
  unfold Addr.add
  split
  · subst_vars; rfl
  · rfl
section
variable {H : Type} {enc : TypeId × Value → H} {P : Program} {W : World} {sp : Nat → Bool} {held : Bool} {β : Nat → Option (Option (Nat × Nat))}
mutual
theorem open_sh : ∀ (s : Sh) {t : TypeId} {fuel : Nat} {cs : List Value} {x : DataW H × List MemPlace}, s.fits P t = true → DataW.trod enc P W 0 sp held fuel t cs = some x → cs.length = P.cellsOf t → ∃ ts, RepL (inW β W) ts cs ∧ s.wt ts
  | .int k, t, fuel, cs, x, hs, h, hl => by
    unfold Sh.fits at hs
    split at hs
    · rename_i k' hu
      obtain rfl : k' = k := of_decide_eq_true hs
      obtain ⟨n, rfl, _, hw⟩ := DataW.trod_int hu h
      exact ⟨[.v (.int k' n)], ⟨_, _, rfl, rfl, rfl⟩, n, rfl, hw⟩
    · cases hs
  | .bool, t, fuel, cs, x, hs, h, hl => by
    unfold Sh.fits at hs
    split at hs
    · rename_i hu
      cases fuel with
      | zero => simp [DataW.trod] at h
      | succ n =>
        unfold DataW.trod at h
        rw [hu] at h
        split at h <;> simp_all
        exact ⟨[.v (.bool _)], ⟨_, _, rfl, rfl, rfl⟩, _, rfl⟩
    · cases hs
  | .str, t, fuel, cs, x, hs, h, hl => by
    unfold Sh.fits at hs
    split at hs
    · rename_i hu
      obtain ⟨s, rfl, _, hw⟩ := DataW.trod_string hu h
      exact ⟨[.v (.string s)], ⟨_, _, rfl, rfl, rfl⟩, s, rfl, hw⟩
    · cases hs
  | .st l, t, fuel, cs, x, hs, h, hl => by
    unfold Sh.fits at hs
    split at hs
    · rename_i fs hu
      obtain ⟨xs, n, -, -, hc, hx, hf⟩ := DataW.trod_struct hu h
      have := open_shL l (fs := fs.toList) (o := 0) (n := P.cellsOf t) (cs := cs) (m := n) hs hc (fun f hm => by
        obtain ⟨i, hi⟩ := List.getElem?_of_mem hm
        have hi2 : fs[i]? = some f := by simpa using hi
        have h1 := hf i f hi2
        have hlt : i < xs.length := by rw [hx]; exact (Array.getElem?_eq_some_iff.1 hi2).1
        exact ⟨xs[i], by rw [h1, List.getElem?_eq_getElem hlt]⟩)
      rw [List.drop_zero] at this
      exact this
    · cases hs
  | .sl e, t, fuel, cs, x, hs, h, hl => by
    unfold Sh.fits at hs
    split at hs
    · rename_i u hu
      simp only [Bool.and_eq_true, decide_eq_true_eq] at hs
      obtain ⟨hs, -⟩ := hs
      rcases DataW.trod_slice hu h with ⟨rfl, -⟩ | ⟨a, len, cap, elems, rest, m, -, rfl, -, -, hle, hcap, hlen, hel, -, -⟩
      · exact ⟨[.islc [] 0 none], ⟨_, _, rfl, ⟨none, 0, rfl, Nat.le_refl _, Nat.zero_le _, fun q hq => (by cases hq), .inl ⟨rfl, rfl⟩⟩, rfl⟩, [], 0, rfl, Nat.zero_le _, rfl⟩
      · by_cases hn : len = 0
        · subst hn
          exact ⟨[.islc [] 0 none], ⟨_, _, rfl, ⟨some a, cap, rfl, Nat.zero_le _, hcap, fun q hq => (by cases hq), .inl ⟨rfl, rfl⟩⟩, rfl⟩, [], 0, rfl, Nat.zero_le _, rfl⟩
        · have h0 := hel 0 (by omega)
          have hsome : ∀ i, i < len → ∃ cs' y, W.cells? 0 (a.add (i * P.cellsOf u)) (P.cellsOf u) = some cs' ∧ DataW.trod enc P W 0 sp held m u cs' = some y := fun i hi => by
            have hq := hel i hi
            rw [List.getElem?_eq_getElem (by omega), Option.bind_eq_some_iff] at hq
            obtain ⟨cs', h1, h2⟩ := hq
            exact ⟨cs', _, h1, h2⟩
          obtain ⟨ab, ao, asx⟩ := a
          obtain ⟨cs0, y0, c1, -⟩ := hsome 0 (by omega)
          obtain ⟨-, c2, c3⟩ := World.cells?_some c1
          have c4 := c3 0 hs.2
          rw [List.getElem?_eq_getElem (by omega)] at c4
          have hspot : asx = none := by simpa [Addr.add] using World.cell?_spot c4
          subst hspot
          rw [add_n, add_n] at c4
          obtain ⟨arr, e1, f1, hB⟩ := cell_block c4
          have build : ∀ n i, i + n ≤ len → ∃ xs, nth e.wt n xs ∧ RepA (inW β W) xs arr (ao + i * P.cellsOf u) := by
            intro n
            induction n with
            | zero => exact fun i _ => ⟨[], rfl, trivial⟩
            | succ n ih =>
              intro i hi
              obtain ⟨xs, k1, k2⟩ := ih (i + 1) (by omega)
              obtain ⟨cs', y, g1, g2⟩ := hsome i (by omega)
              obtain ⟨-, g3, g4⟩ := World.cells?_some g1
              obtain ⟨ts, r1, r2⟩ := open_sh e hs.1 g2 g3
              have hlen' : ts.length = P.cellsOf u := by rw [← r1.length, g3]
              refine ⟨ts ++ xs, ⟨ts, xs, rfl, r2, k1⟩, RepA.app (repA_of fun j tj hj => ?_) (by rw [hlen', Nat.add_assoc, ← Nat.succ_mul]; exact k2)⟩
              obtain ⟨uj, q1, q2⟩ := r1.get j tj hj
              have hjl : j < P.cellsOf u := by rw [← g3]; exact (List.getElem?_eq_some_iff.1 q1).1
              refine ⟨uj, ?_, q2⟩
              rw [← q1, ← g4 j hjl, add_n, add_n, cell_inW hB]
          obtain ⟨xs, k1, k2⟩ := build len 0 (by omega)
          rw [Nat.zero_mul, Nat.add_zero] at k2
          refine ⟨[.islc xs len none], ⟨_, _, rfl, ⟨_, cap, rfl, hle, hcap, fun q hq => (by cases hq), .inr ⟨ab, ao, arr, rfl, ⟨fun hx => hx, e1, f1, hB⟩, k2⟩⟩, rfl⟩, xs, len, rfl, by omega, k1⟩
    · cases hs
theorem open_shL : ∀ (l : List Sh) {fs : List Field} {o n m : Nat} {cs : List Value}, Sh.fitsL P l fs o n = true → cs.length = n → (∀ f ∈ fs, ∃ x, DataW.trod enc P W 0 sp held m f.type ((cs.drop f.offset).take (P.cellsOf f.type)) = some x) → ∃ ts, RepL (inW β W) ts (cs.drop o) ∧ Sh.wtL l ts
  | [], [], o, n, m, cs, hs, hl, h => by
    have e : o = n := by unfold Sh.fitsL at hs; simpa using hs
    exact ⟨[], by show cs.drop o = []; rw [List.drop_eq_nil_iff]; omega, rfl⟩
  | [], f :: fs, o, n, m, cs, hs, hl, h => by unfold Sh.fitsL at hs; cases hs
  | s :: l, [], o, n, m, cs, hs, hl, h => by unfold Sh.fitsL at hs; cases hs
  | s :: l, f :: fs, o, n, m, cs, hs, hl, h => by
    unfold Sh.fitsL at hs
    simp only [Bool.and_eq_true, beq_iff_eq] at hs
    obtain ⟨⟨h1, h2⟩, h3⟩ := hs
    have hle := fitsL_le l h3
    obtain ⟨x, hx⟩ := h f (by simp)
    obtain ⟨a, a1, a2⟩ := open_sh s h2 hx (by rw [List.length_take, List.length_drop]; omega)
    obtain ⟨b, b1, b2⟩ := open_shL l h3 hl (fun g hg => h g (by simp [hg]))
    refine ⟨a ++ b, ?_, a, b, rfl, a2, b2⟩
    have e : cs.drop o = (cs.drop f.offset).take (P.cellsOf f.type) ++ cs.drop (o + P.cellsOf f.type) := by
      rw [h1, ← List.drop_drop, List.take_append_drop]
    rw [e]
    exact RepL.append a1 b1
theorem fitsL_le : ∀ (l : List Sh) {fs : List Field} {o n : Nat}, Sh.fitsL P l fs o n = true → o ≤ n
  | [], [], o, n, hs => by unfold Sh.fitsL at hs; simp at hs; omega
  | [], f :: fs, o, n, hs => by unfold Sh.fitsL at hs; cases hs
  | s :: l, [], o, n, hs => by unfold Sh.fitsL at hs; cases hs
  | s :: l, f :: fs, o, n, hs => by
    unfold Sh.fitsL at hs
    simp only [Bool.and_eq_true, beq_iff_eq] at hs
    have := fitsL_le l hs.2
    omega
end
def Sh.tree : Sh → List T → T
  | .st _, ts => .agg ts
  | _, ts => ts.headD (.tup [])
theorem open_arg {b0 : Nat} (s : Sh) {t : TypeId} {v : Value} {d : DataW H} {p : List MemPlace} (hs : s.fits P t = true) (hv : Value.okWide P W .any b0 t v) (h : DataW.Trod enc P W 0 sp held t v d p) :
    ∃ ts, Rep (inW β W) (s.tree ts) v ∧ s.wt ts := by
  obtain ⟨fuel, hf⟩ := h
  cases s with
  | int k =>
    have hs' := hs
    unfold Sh.fits at hs
    split at hs
    · rename_i k' hu
      obtain ⟨n, rfl⟩ := okWide_int hu hv
      obtain ⟨n', e, _, hw⟩ := DataW.trod_int hu hf
      simp [Value.cells] at e
      obtain ⟨rfl⟩ := e
      obtain rfl : k' = k := of_decide_eq_true hs
      exact ⟨[.v (.int k' n)], rfl, n, rfl, hw⟩
    · cases hs
  | bool =>
    unfold Sh.fits at hs
    split at hs
    · rename_i hu
      obtain ⟨n, rfl⟩ := okWide_bool hu hv
      exact ⟨[.v (.bool n)], rfl, n, rfl⟩
    · cases hs
  | str =>
    unfold Sh.fits at hs
    split at hs
    · rename_i hu
      obtain ⟨n, rfl⟩ := okWide_string hu hv
      obtain ⟨n', e, _, hw⟩ := DataW.trod_string hu hf
      simp [Value.cells] at e
      subst e
      exact ⟨[.v (.string n)], rfl, n, rfl, hw⟩
    · cases hs
  | st l =>
    have hs' := hs
    unfold Sh.fits at hs
    split at hs
    · rename_i fs hu
      obtain ⟨cs, rfl, hsz⟩ := okWide_struct hu hv
      obtain ⟨ts, r1, r2⟩ := open_sh (β := β) (.st l) hs' hf (by rw [← hsz]; rfl)
      exact ⟨ts, ⟨cs.toList, rfl, r1⟩, r2⟩
    · cases hs
  | sl e =>
    have hs' := hs
    unfold Sh.fits at hs
    split at hs
    · rename_i u hu
      obtain ⟨a, len, cap, rfl⟩ := okWide_slice hu hv
      have hl1 : P.cellsOf t = 1 := by
        simp only [Bool.and_eq_true, decide_eq_true_eq] at hs
        exact hs.2
      obtain ⟨ts, r1, r2⟩ := open_sh (β := β) (.sl e) hs' hf (by rw [hl1]; rfl)
      obtain ⟨xs, n, rfl, h1, h2⟩ := r2
      obtain ⟨w, r, e1, e2, e3⟩ := r1
      have e1' : [Value.slice a len cap] = w :: r := e1
      injection e1' with e4 e5
      subst e4
      exact ⟨[.islc xs n none], e2, xs, n, rfl, h1, h2⟩
    · cases hs
theorem law_run [Dr] {f : FuncId} {args : List T} {vs : List Value} (h : CallP P f args (.v (.bool true))) (hr : RepL (inW (fun _ => none) W) args vs) :
    Calls P f vs.toArray W (fun e W' => e = .returned (.bool true) ∧ Below W.heap.size W W') :=
  (h.run (fun _ => False) (inW (fun _ => none) W) vs (fun B hB => hB.elim) hr).mono fun e W' ⟨u, h1, h2, h3, h4⟩ => by
    have h3' : u = .bool true := h3
    subst h3'
    exact ⟨h1, ⟨h2.os, h2.tape.1, h2.output, h2.size, h4⟩⟩
end
end
section
open Go.RowKit Go.Sort
set_option maxRecDepth 10000
def padL (P : List Int) (n : Nat) : List Int := (List.range n).map fun i => if i < P.length then P[i]! else 0
theorem padL_len (P : List Int) (n : Nat) : (padL P n).length = n := by simp [padL]
theorem padL_bd {P : List Int} (hb : ∀ v ∈ P, 0 ≤ v ∧ v < 256) (n : Nat) : ∀ v ∈ padL P n, 0 ≤ v ∧ v < 256 := fun v hv => by
  unfold padL at hv
  obtain ⟨i, hi, rfl⟩ := List.mem_map.1 hv
  split
  · exact bang_bd hb _
  · exact ⟨by decide, by decide⟩
end
end Go.Proofs.YtmahbhdjpielmaaGreat
