/-
  The proof's lemmas, part 4.
-/
import Derived.Test.YtmahbhdjpielmaaGreatYgc
import Derived.ChangeSlices
import Derived.ProofKit
import Derived.OpenShut
namespace Go.Proofs.YtmahbhdjpielmaaGreat
set_option linter.unusedSimpArgs false
set_option linter.unusedVariables false
section
open Go.RowKit Go.Sort
set_option maxRecDepth 10000
set_option maxHeartbeats 4000000
def endsF (f : Rect → Int × Int) (l : List Rect) : List Int := l.flatMap fun r => [(f r).1, (f r).1 + (f r).2]
def cutsOf (f : Rect → Int × Int) (l : List Rect) : List Int := comp (sortI (endsF f l))
theorem endsF_len (f : Rect → Int × Int) (l : List Rect) : (endsF f l).length = 2 * l.length := by
  induction l with
  | nil => rfl
  | cons r l ih => simp only [endsF, List.flatMap_cons, List.length_append, List.length_cons, List.length_nil] at ih ⊢; omega
theorem endsF_app (f : Rect → Int × Int) (a b : List Rect) : endsF f (a ++ b) = endsF f a ++ endsF f b := by unfold endsF; rw [List.flatMap_append]
theorem endsF_snoc (f : Rect → Int × Int) (l : List Rect) (r : Rect) : endsF f (l ++ [r]) = endsF f l ++ [(f r).1, (f r).1 + (f r).2] := by rw [endsF_app]; rfl
theorem flat_at {lists : List (List Rect)} {k : Nat} (h : k < lists.length) : (lists.take (k + 1)).flatten = (lists.take k).flatten ++ lists[k]! := by rw [take_snoc h, List.flatten_append]; simp
theorem flat_le {lists : List (List Rect)} {k : Nat} (h : k < lists.length) : (lists.take k).flatten.length + lists[k]!.length ≤ lists.flatten.length := by
  have e : lists.flatten = (lists.take (k + 1)).flatten ++ (lists.drop (k + 1)).flatten := by rw [← List.flatten_append, List.take_append_drop]
  rw [e, flat_at h, List.length_append, List.length_append]; omega
theorem app_ends {l : List Int} {tl : List T} {x y : Int} {n : Nat} (hn : n = l.length) : ((encL cI l ++ tl).drop 0).take (n * 1) ++ [I64 x, I64 y] = encL cI (l ++ [x, y]) ++ [] := by
  subst hn
  rw [List.append_nil, List.drop_zero, show l.length * 1 = (encL cI l).length from by rw [encL_len, cI_sz], List.take_left, encL_append]
  rfl
theorem cuts_p [Dr] (f : Rect → Int × Int) (g : FuncId) (hg : ∀ r, CallP Tryz.prog g [rectT r] (.tup [I64 (f r).1, I64 (f r).2])) (lists : List (List Rect)) (hl : lists.length ≤ 16) (hn : lists.flatten.length ≤ 2097152) (hr : ∀ r ∈ lists.flatten, -1048576 ≤ (f r).1 ∧ (f r).1 ≤ 1048576 ∧ 0 ≤ (f r).2 ∧ (f r).2 ≤ 2097152) :
    CallP Tryz.prog 84 [.clo g [] [], .islc (encL cLR lists) lists.length none] (.islc (encL cI (cutsOf f lists.flatten)) (cutsOf f lists.flatten).length none) := by
  have hlen := sortI_len (endsF f lists.flatten)
  have hel := endsF_len f lists.flatten
  refine CallP.intro2 au_pu au_pu ?_
  refine CallT.intro tab_ok Tryz.func84 rfl (by kernel_rfl) (Nat.le_of_ble_eq_true rfl) ?_
  refine VC.reg tab_ok [] rfl ?_
  refine VX.meek rfl ?_
  refine VX.nil ?_
  refine VC.reg tab_ok [] rfl ?_
  refine VX.meek rfl ?_
  refine VX.nil ?_
  refine VC.seq ?_
  refine VC.reg tab_ok [] rfl ?_
  iterate 3 refine VX.meek rfl ?_
  refine VX.nil ?_
  refine VC.block ?_
  refine VC.loopS2 (σ1 := Nat) (σ2 := List T) (fun k _ => lists.length - k) (fun k tl => k ≤ lists.length ∧ T.pureL tl = true) (fun k _ => [(14, I64 k), (5, .slc 0 0 (endsF f (lists.take k).flatten).length 1 none)]) (fun k tl => [.c (encL cI (endsF f (lists.take k).flatten) ++ tl)]) [0, 12, 13] rfl (0) ([]) ?_ ?_ ?_
  · refine ⟨[none], rfl, by first | trivial | decide, rfl, ?_, ?_⟩ <;> (repeat' first | exact trivial | exact CvB_n | exact CvB_d | refine CvE_app ?_ ?_ | refine CvE_cons rfl ?_ ?_ | refine CvH_cons ?_ ?_ | refine CvB_c rfl ?_ | fail) <;> first | exact au_v | (skip)
  · exact ⟨by omega, rfl⟩
  rintro k tl ⟨hk, htl⟩
  refine VC.reg tab_ok [] rfl ?_
  refine VX.meek rfl ?_
  refine VX.nil ?_
  refine VC.seq ?_
  refine VC.cond rfl (fun hc0 => ?_) (fun hc0 => ?_)
  · (try simp only [au_std] at hc0); have hkl : k < lists.length := (by omega); have hfl := flat_le hkl; have hfa := flat_at hkl
    refine VC.skip ?_
    refine VC.seq ?_
    refine VC.block ?_
    refine VC.reg tab_ok [] rfl ?_
    first | refine VX.idxI rfl rfl rfl rfl rfl rfl (by omega) ?_ | refine VX.idxO0 rfl rfl rfl rfl rfl rfl rfl (by omega) ?_ | refine VX.idxO0 rfl rfl rfl rfl rfl rfl au_z (by omega) ?_ | refine VX.idxO rfl rfl rfl rfl rfl rfl rfl (by omega) ?_ | refine VX.idxI rfl rfl rfl rfl rfl au_z (by omega) ?_ | refine VX.idxO rfl rfl rfl rfl rfl rfl au_z (by omega) ?_ | refine VX.meek rfl ?_
    first | refine VX.meek rfl ?_ | refine VX.loadI rfl rfl au_l ?_ | refine VX.loadP rfl rfl rfl au_l ?_
    refine VX.meek rfl ?_
    refine VX.nil ?_
    refine VC.reg tab_ok [] rfl ?_
    iterate 3 refine VX.meek rfl ?_
    refine VX.nil ?_
    refine VC.block ?_
    refine VC.loopS2 (σ1 := Nat) (σ2 := List T) (fun j _ => lists[k]!.length - j) (fun j tl => j ≤ lists[k]!.length ∧ T.pureL tl = true) (fun j _ => [(20, I64 j), (5, .slc 0 0 (endsF f ((lists.take k).flatten ++ lists[k]!.take j)).length 1 none)]) (fun j tl => [.c (encL cI (endsF f ((lists.take k).flatten ++ lists[k]!.take j)) ++ tl)]) [0, 12, 13, 14, 18, 19] rfl (0) (tl) ?_ ?_ ?_
    · refine ⟨[some 0], rfl, by first | trivial | decide, rfl, ?_, ?_⟩ <;> (repeat' first | exact trivial | exact CvB_n | exact CvB_d | refine CvE_app ?_ ?_ | refine CvE_cons rfl ?_ ?_ | refine CvH_cons ?_ ?_ | refine CvB_c rfl ?_ | fail) <;> first | exact au_v | (first | exact Cv.slcE rfl (by simp) (.inl rfl) | exact CvL.eq (by simp) (pureL_append (encL_pure cI _) htl))
    · exact ⟨by omega, htl⟩
    rintro j tl2 ⟨hj, htl2⟩
    refine VC.reg tab_ok [] rfl ?_
    refine VX.meek rfl ?_
    refine VX.nil ?_
    refine VC.seq ?_
    refine VC.cond rfl (fun hc1 => ?_) (fun hc1 => ?_)
    · (try simp only [au_std] at hc1); have hjl : j < lists[k]!.length := (by omega); have hrm : lists[k]![j]! ∈ lists.flatten := List.mem_flatten.2 ⟨lists[k]!, List.mem_iff_getElem?.2 ⟨k, getE hkl⟩, List.mem_iff_getElem?.2 ⟨j, getE hjl⟩⟩; have hrr := hr _ hrm; have hsn := take_snoc hjl; have hes := endsF_snoc f ((lists.take k).flatten ++ lists[k]!.take j) lists[k]![j]!; rw [List.append_assoc, ← hsn] at hes; have hle := endsF_len f ((lists.take k).flatten ++ lists[k]!.take j); have hlt : ((lists.take k).flatten ++ lists[k]!.take j).length ≤ 2097152 := (by rw [List.length_append, List.length_take]; omega)
      refine VC.skip ?_
      refine VC.seq ?_
      refine VC.block ?_
      refine VC.reg tab_ok [] rfl ?_
      first | refine VX.idxI rfl rfl rfl rfl rfl rfl (by omega) ?_ | refine VX.idxO0 rfl rfl rfl rfl rfl rfl rfl (by omega) ?_ | refine VX.idxO0 rfl rfl rfl rfl rfl rfl au_z (by omega) ?_ | refine VX.idxO rfl rfl rfl rfl rfl rfl rfl (by omega) ?_ | refine VX.idxI rfl rfl rfl rfl rfl au_z (by omega) ?_ | refine VX.idxO rfl rfl rfl rfl rfl rfl au_z (by omega) ?_ | refine VX.meek rfl ?_
      first | refine VX.meek rfl ?_ | refine VX.loadI rfl rfl au_l ?_ | refine VX.loadP rfl rfl rfl au_l ?_
      refine VX.new rfl rfl ?_
      refine VX.store rfl rfl rfl rfl rfl au_sR rfl ?_
      refine VX.nil ?_
      refine VC.reg tab_ok [] rfl ?_
      refine VX.meek rfl ?_
      first | refine VX.meek rfl ?_ | refine VX.loadI rfl rfl au_l ?_ | refine VX.loadP rfl rfl rfl au_l ?_
      refine VX.callP0 rfl rfl rfl (hg lists[k]![j]!) ?_
      iterate 5 refine VX.meek rfl ?_
      refine VX.nil ?_
      refine VC.regN tab_ok [35] rfl ?_
      iterate 4 refine VX.meek rfl ?_
      first | refine VX.add rfl rfl (by omega) ?_ | refine VX.meek rfl ?_
      refine VX.newI rfl rfl ?_
      first | refine VX.appendNil rfl rfl rfl rfl rfl rfl au_sR au_sR au_sR ?_ | refine VX.append rfl rfl rfl rfl rfl rfl rfl rfl au_sR au_sR au_sR au_sR au_sR ?_
      refine VX.meek rfl ?_
      refine VX.nil ?_
      refine VC.regN tab_ok [] rfl ?_
      first | refine VX.add rfl rfl (by omega) ?_ | refine VX.meek rfl ?_
      refine VX.meek rfl ?_
      refine VX.nil ?_
      refine ⟨j + 1, [], by (try dsimp only); omega, ?_, (by refine ⟨[some 2], rfl, by first | trivial | decide, rfl, ?_, ?_⟩ <;> (repeat' first | exact trivial | exact CvB_n | exact CvB_d | refine CvE_app ?_ ?_ | refine CvE_cons rfl ?_ ?_ | refine CvH_cons ?_ ?_ | refine CvB_c rfl ?_ | fail) <;> first | exact au_v | (first | exact Cv.slcE rfl (by rw [hes, List.length_append]; rfl) (.inl rfl) | (rw [hes]; exact CvL.eq (app_ends rfl) (by rw [List.append_nil]; exact encL_pure cI _))))⟩
      exact ⟨by omega, rfl⟩
    · (try simp only [au_std] at hc1); obtain rfl : j = lists[k]!.length := (by omega); rw [List.take_length]
      refine VC.exit ?_
      refine VC.regN tab_ok [] rfl ?_
      first | refine VX.add rfl rfl (by omega) ?_ | refine VX.meek rfl ?_
      refine VX.meek rfl ?_
      refine VX.nil ?_
      refine ⟨k + 1, tl2, by (try dsimp only); omega, ?_, (by refine ⟨[some 0], rfl, by first | trivial | decide, rfl, ?_, ?_⟩ <;> (repeat' first | exact trivial | exact CvB_n | exact CvB_d | refine CvE_app ?_ ?_ | refine CvE_cons rfl ?_ ?_ | refine CvH_cons ?_ ?_ | refine CvB_c rfl ?_ | fail) <;> first | exact au_v | (first | exact Cv.slcE rfl (by rw [hfa]) (.inl rfl) | (rw [hfa]; exact CvL.pure (pureL_append (encL_pure cI _) htl2))))⟩
      exact ⟨by omega, htl2⟩
  · (try simp only [au_std] at hc0); obtain rfl : k = lists.length := (by omega); rw [List.take_length]
    refine VC.exit ?_
    refine VC.reg tab_ok [] rfl ?_
    refine VX.meek rfl ?_
    refine VX.callT rfl rfl (CallT.frame (sortI_any (endsF f lists.flatten) tl (by omega) htl) [0] rfl au_ci au_ci ?_)
    rintro _ _ ⟨rfl, rfl⟩
    refine frK au_co au_co ?_
    refine VX.nil ?_
    refine VC.reg tab_ok [] rfl ?_
    refine VX.meek rfl ?_
    refine VX.callT rfl rfl (CallT.frame (compact_n (endsF f lists.flatten).length (sortI (endsF f lists.flatten)) tl none hlen (by omega) htl) [0] rfl au_ci au_ci ?_)
    rintro _ _ ⟨tl', c', h1, rfl, rfl⟩
    refine frK au_co au_co ?_
    refine VX.meek rfl ?_
    refine VX.nil ?_
    refine VC.ret ?_
    exact ⟨trivial, _, rfl, Cv.fslcA ⟨rfl, by simp⟩ (CvL.pure (encL_pure cI _))⟩
theorem join1_p [Dr] (r : Rect) : CallP Tryz.prog 85 [rectT r] (.tup [I64 r.Y, I64 r.H]) := by
  refine CallP.intro2 au_pu au_pu ?_
  refine CallT.intro tab_ok Tryz.func85 rfl (by kernel_rfl) (Nat.le_of_ble_eq_true rfl) ?_
  refine VC.reg tab_ok [1] rfl ?_
  refine VX.newI rfl rfl ?_
  iterate 2 refine VX.meek rfl ?_
  refine VX.nil ?_
  refine VC.drw tab_ok [] [_, _, _, _, _, _] rfl (by kernel_rfl) (by kernel_rfl) ?_
  refine VX.meek rfl ?_
  first | refine VX.meek rfl ?_ | refine VX.loadI rfl rfl au_l ?_ | refine VX.loadP rfl rfl rfl au_l ?_
  refine VX.meek rfl ?_
  first | refine VX.meek rfl ?_ | refine VX.loadI rfl rfl au_l ?_ | refine VX.loadP rfl rfl rfl au_l ?_
  iterate 2 refine VX.meek rfl ?_
  refine VX.nil ?_
  refine VX.nil ?_
  refine VC.ret ?_
  exact ⟨trivial, _, rfl, Cv.eq (by first | rfl | (simp [*]; done)) rfl⟩
theorem join2_p [Dr] (r : Rect) : CallP Tryz.prog 87 [rectT r] (.tup [I64 r.X, I64 r.W]) := by
  refine CallP.intro2 au_pu au_pu ?_
  refine CallT.intro tab_ok Tryz.func87 rfl (by kernel_rfl) (Nat.le_of_ble_eq_true rfl) ?_
  refine VC.reg tab_ok [1] rfl ?_
  refine VX.newI rfl rfl ?_
  iterate 2 refine VX.meek rfl ?_
  refine VX.nil ?_
  refine VC.drw tab_ok [] [_, _, _, _, _, _] rfl (by kernel_rfl) (by kernel_rfl) ?_
  refine VX.meek rfl ?_
  first | refine VX.meek rfl ?_ | refine VX.loadI rfl rfl au_l ?_ | refine VX.loadP rfl rfl rfl au_l ?_
  refine VX.meek rfl ?_
  first | refine VX.meek rfl ?_ | refine VX.loadI rfl rfl au_l ?_ | refine VX.loadP rfl rfl rfl au_l ?_
  iterate 2 refine VX.meek rfl ?_
  refine VX.nil ?_
  refine VX.nil ?_
  refine VC.ret ?_
  exact ⟨trivial, _, rfl, Cv.eq (by first | rfl | (simp [*]; done)) rfl⟩
end
section
open Go.RowKit Go.Sort
set_option maxRecDepth 10000
set_option maxHeartbeats 4000000
section
variable {α : Type} (c : Cd α) {q : Bool} {P : Program} {tab : Tab} {im : List Nat} {ds : List (Option Nat)} {l : List Oper} {E : Env} {H : Hp} {K : Env → Hp → Prop} {d : Nat} {ty : TypeId} {pos : String} {after : Array Edge}
theorem VX.slcIR [Dr] {t e p : Nat} {x : Operand} {lo : Option Operand} {L : Option Int} {i j : TyI} {xs : List α} (hT : tab t = some i) (hk : i.k = .sl e) (hj : tab e = some j) (hx : E.opd x = some (.islc (encL c xs) xs.length none)) (hz : j.sz = c.sz) (hl : optI lo E.opd = some L)
    (hp : L.getD 0 = (p : Int)) (h1 : p ≤ xs.length) (k : VX q P tab im ds l ((d, .islc (encL c (xs.drop p)) (xs.drop p).length none) :: E) H K) : VX q P tab im ds (⟨some d, .slice t x lo none none, ty, pos, after, none⟩ :: l) E H K := by
  by_cases h : p = 0 ∨ p < xs.length
  · refine VX.slcI (Hh := none) (p := p) (r := xs.length) hT hk hj hx hl rfl rfl hp rfl h1 (Nat.le_refl _) h ?_
    have e1 : (encL c xs).drop (p * j.sz) = encL c (xs.drop p) := by rw [hz]; exact (encL_drop c xs p)
    have e2 : xs.length - p = (xs.drop p).length := by rw [List.length_drop]
    rw [e1, e2]; exact k
  · refine VX.meek (t := .islc [] 0 none) ?_ ?_
    · simp only [opM, hx, hl, mSlice, hT, hk, hj, show optI none E.opd = some none from rfl]
      rw [hp, show (none : Option Int).getD (xs.length : Int) = (xs.length : Int) from rfl, if_pos ⟨by omega, by omega, by omega⟩, if_neg (by omega)]
    · have : xs.drop p = [] := List.drop_of_length_le (by omega)
      rw [this] at k; exact k
end
theorem tw_len {p : Rect → Bool} : ∀ {m : List Rect} {n : Nat}, n ≤ m.length → (∀ i, i < n → p m[i]! = true) → (n < m.length → p m[n]! = false) → (m.takeWhile p).length = n
  | [], n, h, _, _ => by simp at h; subst h; rfl
  | r :: m, 0, h, h1, h2 => by
    have := h2 (by simp)
    rw [show (r :: m)[0]! = r from rfl] at this
    simp [List.takeWhile_cons, this]
  | r :: m, n + 1, h, h1, h2 => by
    have e : ∀ k, k < m.length → (r :: m)[k + 1]! = m[k]! := fun k hk => by rw [getElem!_pos (r :: m) (k + 1) (by simp; omega), getElem!_pos m k hk]; rfl
    have h0 := h1 0 (by omega)
    rw [show (r :: m)[0]! = r from rfl] at h0
    simp only [List.length_cons] at h h2
    have := tw_len (p := p) (m := m) (n := n) (by omega) (fun i hi => by rw [← e i (by omega)]; exact h1 (i + 1) (by omega)) (fun hn => by rw [← e n hn]; exact h2 (by omega))
    rw [List.takeWhile_cons, if_pos h0, List.length_cons, this]
def rowD (y : Int) (l : List Rect) : List Rect := l.dropWhile fun r => decide (r.Y + r.H ≤ y)
def rowT (y : Int) (l : List Rect) : List Rect := (rowD y l).takeWhile fun r => decide (r.Y ≤ y)
theorem dw_step {p : Rect → Bool} {m : List Rect} (h : 0 < m.length) (hp : p m[0]! = true) : (m.drop 1).dropWhile p = m.dropWhile p := by
  cases m with
  | nil => simp at h
  | cons r m => rw [show (r :: m)[0]! = r from rfl] at hp; simp [List.dropWhile_cons, hp]
theorem dw_stop {p : Rect → Bool} {m : List Rect} (h : 0 < m.length → p m[0]! = false) : m.dropWhile p = m := by
  cases m with
  | nil => rfl
  | cons r m => have := h (by simp); rw [show (r :: m)[0]! = r from rfl] at this; simp [List.dropWhile_cons, this]
theorem row_t [Dr] (y : Int) (l : List Rect) (hr : ∀ r ∈ l, rok r) (hn : l.length ≤ 1048576) : CallT Tryz.prog 86 [.ptr 0 0, I64 y] [.c [.islc (encL cR l) l.length none]]
    (fun t H' => t = .islc (encL cR (rowD y l)) (rowT y l).length none ∧ H' = [.c [.islc (encL cR (rowD y l)) (rowD y l).length none]]) := by
  refine CallT.intro tab_ok Tryz.func86 rfl (by kernel_rfl) (Nat.le_of_ble_eq_true rfl) ?_
  refine VC.reg tab_ok [] rfl ?_
  refine VX.meek rfl ?_
  refine VX.nil ?_
  refine VC.seq ?_
  refine VC.block ?_
  refine VC.loopS (σ := List Rect) (fun m => m.length) (fun m => rowD y m = rowD y l ∧ (∀ r ∈ m, rok r) ∧ m.length ≤ l.length) (fun _ => []) (fun m => [.c [.islc (encL cR m) m.length none]]) [0, 1] rfl (l) ?_ ?_ ?_
  · refine ⟨[some 0], rfl, by first | trivial | decide, rfl, ?_, ?_⟩ <;> (repeat' first | exact trivial | exact CvB_n | exact CvB_d | refine CvE_app ?_ ?_ | refine CvE_cons rfl ?_ ?_ | refine CvH_cons ?_ ?_ | refine CvB_c rfl ?_ | fail) <;> first | exact au_v | (exact CvL.cons (Cv.pure (encL_pure cR _)) CvL.nil)
  · exact ⟨rfl, hr, Nat.le_refl _⟩
  rintro m ⟨hm, hrm, hml⟩; have hr0 : 0 < m.length → rok m[0]! := fun h => hrm _ (List.mem_iff_getElem?.2 ⟨0, getE h⟩)
  refine VC.seq ?_
  refine VC.drw tab_ok [] [_, _, _, _, _, _, _, _, _, _, _, _, _, _, _, _, _, _, _, _, _, _, _, _, _] rfl (by kernel_rfl) (by kernel_rfl) ?_
  iterate 3 refine VX.meek rfl ?_
  first | refine VX.meek rfl ?_ | refine VX.loadI rfl rfl au_l ?_ | refine VX.loadP rfl rfl rfl au_l ?_
  iterate 3 refine VX.meek rfl ?_
  refine' VX.merge (d := 30) [_, _, _, _, _, _, _, _, _, _, _, _, _, _, _, _, _, _] rfl ?_ rfl ?_
  rotate_left
  · refine VX.guard rfl rfl (fun hb1_6 => ?_) (fun hb1_6 => ?_)
    · have ghb1_6 := hb1_6
      try simp only [au_std, Bool.not_true, Bool.not_false] at ghb1_6
      have hq0 := hr0 (by omega); unfold rok at hq0
      refine VX.meek rfl ?_
      refine VX.guardT rfl rfl hb1_6 ?_
      refine VX.meek rfl ?_
      refine VX.guardT rfl rfl hb1_6 ?_
      refine VX.meek rfl ?_
      refine VX.guardT rfl rfl hb1_6 ?_
      first | refine VX.meek rfl ?_ | refine VX.loadI rfl rfl au_l ?_ | refine VX.loadP rfl rfl rfl au_l ?_
      refine VX.guardT rfl rfl hb1_6 ?_
      first | refine VX.idxI (m := 0) rfl rfl rfl rfl rfl rfl (by omega) ?_ | refine VX.idxO (m := 0) rfl rfl rfl rfl rfl rfl rfl (by omega) ?_ | refine VX.meek rfl ?_
      refine VX.guardT rfl rfl hb1_6 ?_
      refine VX.meek rfl ?_
      refine VX.guardT rfl rfl hb1_6 ?_
      first | refine VX.meek rfl ?_ | refine VX.loadI rfl rfl au_l ?_ | refine VX.loadP rfl rfl rfl au_l ?_
      refine VX.guardT rfl rfl hb1_6 ?_
      refine VX.meek rfl ?_
      refine VX.guardT rfl rfl hb1_6 ?_
      refine VX.meek rfl ?_
      refine VX.guardT rfl rfl hb1_6 ?_
      refine VX.meek rfl ?_
      refine VX.guardT rfl rfl hb1_6 ?_
      first | refine VX.meek rfl ?_ | refine VX.loadI rfl rfl au_l ?_ | refine VX.loadP rfl rfl rfl au_l ?_
      refine VX.guardT rfl rfl hb1_6 ?_
      first | refine VX.idxI (m := 0) rfl rfl rfl rfl rfl rfl (by omega) ?_ | refine VX.idxO (m := 0) rfl rfl rfl rfl rfl rfl rfl (by omega) ?_ | refine VX.meek rfl ?_
      refine VX.guardT rfl rfl hb1_6 ?_
      refine VX.meek rfl ?_
      refine VX.guardT rfl rfl hb1_6 ?_
      first | refine VX.meek rfl ?_ | refine VX.loadI rfl rfl au_l ?_ | refine VX.loadP rfl rfl rfl au_l ?_
      refine VX.guardT rfl rfl hb1_6 ?_
      first | refine VX.add rfl rfl (by omega) ?_ | refine VX.meek rfl ?_
      refine VX.guardT rfl rfl hb1_6 ?_
      refine VX.meek rfl ?_
      refine VX.guardT rfl rfl hb1_6 ?_
      refine VX.meek rfl ?_
      refine VX.pickA rfl (fun _ => rfl) ?_
      exact VX.nil ⟨rfl, rfl⟩
    · refine VX.guardF rfl rfl hb1_6 ?_
      refine VX.guardF rfl rfl hb1_6 ?_
      refine VX.guardF rfl rfl hb1_6 ?_
      refine VX.guardF rfl rfl hb1_6 ?_
      refine VX.guardF rfl rfl hb1_6 ?_
      refine VX.guardF rfl rfl hb1_6 ?_
      refine VX.guardF rfl rfl hb1_6 ?_
      refine VX.guardF rfl rfl hb1_6 ?_
      refine VX.guardF rfl rfl hb1_6 ?_
      refine VX.guardF rfl rfl hb1_6 ?_
      refine VX.guardF rfl rfl hb1_6 ?_
      refine VX.guardF rfl rfl hb1_6 ?_
      refine VX.guardF rfl rfl hb1_6 ?_
      refine VX.guardF rfl rfl hb1_6 ?_
      refine VX.guardF rfl rfl hb1_6 ?_
      refine VX.guardF rfl rfl hb1_6 ?_
      exact VX.pickA rfl (fun h => absurd (h.symm.trans hb1_6) (by decide)) (VX.nil ⟨rfl, rfl⟩)
  refine VX.nil ?_
  refine VX.nil ?_
  refine VC.cond rfl (fun hc0 => ?_) (fun hc0 => ?_)
  · (try simp only [au_std] at hc0); have h0 : 0 < m.length := (by omega); have hdl : (m.drop 1).length = m.length - 1 := List.length_drop
    refine VC.skip ?_
    refine VC.block ?_
    refine VC.regN tab_ok [] rfl ?_
    iterate 4 refine VX.meek rfl ?_
    first | refine VX.meek rfl ?_ | refine VX.loadI rfl rfl au_l ?_ | refine VX.loadP rfl rfl rfl au_l ?_
    refine VX.slcIR cR (p := 1) rfl rfl rfl rfl rfl rfl rfl (by omega) ?_
    iterate 2 refine VX.meek rfl ?_
    refine VX.store rfl rfl rfl rfl rfl au_sR rfl ?_
    refine VX.nil ?_
    refine ⟨m.drop 1, by (try dsimp only); omega, ?_, (by refine ⟨[some 0], rfl, by first | trivial | decide, rfl, ?_, ?_⟩ <;> (repeat' first | exact trivial | exact CvB_n | exact CvB_d | refine CvE_app ?_ ?_ | refine CvE_cons rfl ?_ ?_ | refine CvH_cons ?_ ?_ | refine CvB_c rfl ?_ | fail) <;> first | exact au_v | (exact CvL.cons (Cv.pure (encL_pure cR _)) CvL.nil))⟩
    exact ⟨by rw [← hm]; exact dw_step h0 (decide_eq_true (by omega)), fun r h => hrm r (List.mem_of_mem_drop h), by rw [List.length_drop]; omega⟩
  · (try simp only [au_std] at hc0); have hmd : rowD y l = m := (by rw [← hm]; exact dw_stop fun h => by rw [decide_eq_false_iff_not]; have := hc0 (by omega); omega)
    refine VC.exit ?_
    refine VC.reg tab_ok [] rfl ?_
    refine VX.meek rfl ?_
    refine VX.nil ?_
    refine VC.seq ?_
    refine VC.block ?_
    refine VC.loopS (σ := Nat) (fun n => m.length - n) (fun n => n ≤ m.length ∧ ∀ i, i < n → m[i]!.Y ≤ y) (fun n => [(5, I64 n)]) (fun _ => [.c [.islc (encL cR m) m.length none]]) [0, 1] rfl (0) ?_ ?_ ?_
    · refine ⟨[some 0], rfl, by first | trivial | decide, rfl, ?_, ?_⟩ <;> (repeat' first | exact trivial | exact CvB_n | exact CvB_d | refine CvE_app ?_ ?_ | refine CvE_cons rfl ?_ ?_ | refine CvH_cons ?_ ?_ | refine CvB_c rfl ?_ | fail) <;> first | exact au_v | (exact CvL.cons (Cv.pure (encL_pure cR _)) CvL.nil)
    · exact ⟨by omega, fun i hi => by omega⟩
    rintro n ⟨hn1, hn2⟩
    refine VC.seq ?_
    refine VC.reg tab_ok [] rfl ?_
    iterate 4 refine VX.meek rfl ?_
    first | refine VX.meek rfl ?_ | refine VX.loadI rfl rfl au_l ?_ | refine VX.loadP rfl rfl rfl au_l ?_
    iterate 3 refine VX.meek rfl ?_
    refine' VX.merge (d := 57) [_, _, _, _, _, _, _, _, _, _, _] rfl ?_ rfl ?_
    rotate_left
    · refine VX.guard rfl rfl (fun hb4_7 => ?_) (fun hb4_7 => ?_)
      · have ghb4_7 := hb4_7
        try simp only [au_std, Bool.not_true, Bool.not_false] at ghb4_7
        refine VX.meek rfl ?_
        refine VX.guardT rfl rfl hb4_7 ?_
        refine VX.meek rfl ?_
        refine VX.guardT rfl rfl hb4_7 ?_
        refine VX.meek rfl ?_
        refine VX.guardT rfl rfl hb4_7 ?_
        first | refine VX.meek rfl ?_ | refine VX.loadI rfl rfl au_l ?_ | refine VX.loadP rfl rfl rfl au_l ?_
        refine VX.guardT rfl rfl hb4_7 ?_
        refine VX.meek rfl ?_
        refine VX.guardT rfl rfl hb4_7 ?_
        first | refine VX.idxI rfl rfl rfl rfl rfl rfl (by omega) ?_ | refine VX.idxO0 rfl rfl rfl rfl rfl rfl rfl (by omega) ?_ | refine VX.idxO0 rfl rfl rfl rfl rfl rfl au_z (by omega) ?_ | refine VX.idxO rfl rfl rfl rfl rfl rfl rfl (by omega) ?_ | refine VX.idxI rfl rfl rfl rfl rfl au_z (by omega) ?_ | refine VX.idxO rfl rfl rfl rfl rfl rfl au_z (by omega) ?_ | refine VX.meek rfl ?_
        refine VX.guardT rfl rfl hb4_7 ?_
        refine VX.meek rfl ?_
        refine VX.guardT rfl rfl hb4_7 ?_
        first | refine VX.meek rfl ?_ | refine VX.loadI rfl rfl au_l ?_ | refine VX.loadP rfl rfl rfl au_l ?_
        refine VX.guardT rfl rfl hb4_7 ?_
        refine VX.meek rfl ?_
        refine VX.guardT rfl rfl hb4_7 ?_
        refine VX.meek rfl ?_
        refine VX.pickA rfl (fun _ => rfl) ?_
        exact VX.nil ⟨rfl, rfl⟩
      · refine VX.guardF rfl rfl hb4_7 ?_
        refine VX.guardF rfl rfl hb4_7 ?_
        refine VX.guardF rfl rfl hb4_7 ?_
        refine VX.guardF rfl rfl hb4_7 ?_
        refine VX.guardF rfl rfl hb4_7 ?_
        refine VX.guardF rfl rfl hb4_7 ?_
        refine VX.guardF rfl rfl hb4_7 ?_
        refine VX.guardF rfl rfl hb4_7 ?_
        refine VX.guardF rfl rfl hb4_7 ?_
        exact VX.pickA rfl (fun h => absurd (h.symm.trans hb4_7) (by decide)) (VX.nil ⟨rfl, rfl⟩)
    refine VX.nil ?_
    refine VC.cond rfl (fun hc1 => ?_) (fun hc1 => ?_)
    · (try simp only [au_std] at hc1); have hnl : n < m.length := (by omega)
      refine VC.skip ?_
      refine VC.block ?_
      refine VC.regN tab_ok [] rfl ?_
      refine VX.meek rfl ?_
      first | refine VX.add rfl rfl (by omega) ?_ | refine VX.meek rfl ?_
      refine VX.meek rfl ?_
      refine VX.nil ?_
      refine ⟨n + 1, by (try dsimp only); omega, ?_, (by refine ⟨[some 0], rfl, by first | trivial | decide, rfl, ?_, ?_⟩ <;> (repeat' first | exact trivial | exact CvB_n | exact CvB_d | refine CvE_app ?_ ?_ | refine CvE_cons rfl ?_ ?_ | refine CvH_cons ?_ ?_ | refine CvB_c rfl ?_ | fail) <;> first | exact au_v | (exact CvL.cons (Cv.pure (encL_pure cR _)) CvL.nil))⟩
      exact ⟨by omega, fun i hi => by rcases Nat.lt_or_ge i n with h | h; exact hn2 i h; rw [show i = n by omega]; omega⟩
    · (try simp only [au_std] at hc1); have hnt : (rowT y l).length = n := (by unfold rowT; rw [hmd]; exact tw_len hn1 (fun i hi => by simpa using hn2 i hi) (fun h => by rw [decide_eq_false_iff_not]; have := hc1 (by omega); omega))
      refine VC.exit ?_
      refine VC.reg tab_ok [] rfl ?_
      iterate 3 refine VX.meek rfl ?_
      first | refine VX.meek rfl ?_ | refine VX.loadI rfl rfl au_l ?_ | refine VX.loadP rfl rfl rfl au_l ?_
      refine VX.meek rfl ?_
      first | refine VX.slcO0 rfl rfl rfl rfl rfl rfl (by first | rfl | exact (Int.toNat_of_nonneg (by omega)).symm) (by omega) ?_ | refine VX.slcI0 rfl rfl rfl rfl rfl (by first | rfl | exact (Int.toNat_of_nonneg (by omega)).symm) (by omega) ?_ | refine VX.meek rfl ?_
      refine VX.meek rfl ?_
      refine VX.nil ?_
      refine VC.ret ?_
      exact ⟨trivial, _, rfl, by rw [hmd, hnt], by rw [hmd]⟩
def rowX (x : Int) (l : List Rect) : List Rect := l.dropWhile fun r => decide (r.X + r.W ≤ x)
def acrB (x : Int) (l : List Rect) : Bool := decide (0 < (rowX x l).length) && decide ((rowX x l)[0]!.X ≤ x)
theorem across_t [Dr] (x : Int) (l : List Rect) (hr : ∀ r ∈ l, rok r) (hn : l.length ≤ 1048576) : CallT Tryz.prog 88 [.ptr 0 0, I64 x] [.c [.islc (encL cR l) l.length none]]
    (fun t H' => t = BL (acrB x l) ∧ H' = [.c [.islc (encL cR (rowX x l)) (rowX x l).length none]]) := by
  refine CallT.intro tab_ok Tryz.func88 rfl (by kernel_rfl) (Nat.le_of_ble_eq_true rfl) ?_
  refine VC.reg tab_ok [] rfl ?_
  refine VX.meek rfl ?_
  refine VX.nil ?_
  refine VC.seq ?_
  refine VC.block ?_
  refine VC.loopS (σ := List Rect) (fun m => m.length) (fun m => rowX x m = rowX x l ∧ (∀ r ∈ m, rok r) ∧ m.length ≤ l.length) (fun _ => []) (fun m => [.c [.islc (encL cR m) m.length none]]) [0, 1] rfl (l) ?_ ?_ ?_
  · refine ⟨[some 0], rfl, by first | trivial | decide, rfl, ?_, ?_⟩ <;> (repeat' first | exact trivial | exact CvB_n | exact CvB_d | refine CvE_app ?_ ?_ | refine CvE_cons rfl ?_ ?_ | refine CvH_cons ?_ ?_ | refine CvB_c rfl ?_ | fail) <;> first | exact au_v | (exact CvL.cons (Cv.pure (encL_pure cR _)) CvL.nil)
  · exact ⟨rfl, hr, Nat.le_refl _⟩
  rintro m ⟨hm, hrm, hml⟩; have hr0 : 0 < m.length → rok m[0]! := fun h => hrm _ (List.mem_iff_getElem?.2 ⟨0, getE h⟩)
  refine VC.seq ?_
  refine VC.drw tab_ok [] [_, _, _, _, _, _, _, _, _, _, _, _, _, _, _, _, _, _, _, _, _, _] rfl (by kernel_rfl) (by kernel_rfl) ?_
  iterate 2 refine VX.meek rfl ?_
  first | refine VX.meek rfl ?_ | refine VX.loadI rfl rfl au_l ?_ | refine VX.loadP rfl rfl rfl au_l ?_
  iterate 3 refine VX.meek rfl ?_
  refine' VX.merge (d := 26) [_, _, _, _, _, _, _, _, _, _, _, _, _, _, _, _] rfl ?_ rfl ?_
  rotate_left
  · refine VX.guard rfl rfl (fun hb1_5 => ?_) (fun hb1_5 => ?_)
    · have ghb1_5 := hb1_5
      try simp only [au_std, Bool.not_true, Bool.not_false] at ghb1_5
      have hq0 := hr0 (by omega); unfold rok at hq0
      refine VX.meek rfl ?_
      refine VX.guardT rfl rfl hb1_5 ?_
      refine VX.meek rfl ?_
      refine VX.guardT rfl rfl hb1_5 ?_
      first | refine VX.meek rfl ?_ | refine VX.loadI rfl rfl au_l ?_ | refine VX.loadP rfl rfl rfl au_l ?_
      refine VX.guardT rfl rfl hb1_5 ?_
      first | refine VX.idxI (m := 0) rfl rfl rfl rfl rfl rfl (by omega) ?_ | refine VX.idxO (m := 0) rfl rfl rfl rfl rfl rfl rfl (by omega) ?_ | refine VX.meek rfl ?_
      refine VX.guardT rfl rfl hb1_5 ?_
      refine VX.meek rfl ?_
      refine VX.guardT rfl rfl hb1_5 ?_
      first | refine VX.meek rfl ?_ | refine VX.loadI rfl rfl au_l ?_ | refine VX.loadP rfl rfl rfl au_l ?_
      refine VX.guardT rfl rfl hb1_5 ?_
      refine VX.meek rfl ?_
      refine VX.guardT rfl rfl hb1_5 ?_
      refine VX.meek rfl ?_
      refine VX.guardT rfl rfl hb1_5 ?_
      first | refine VX.meek rfl ?_ | refine VX.loadI rfl rfl au_l ?_ | refine VX.loadP rfl rfl rfl au_l ?_
      refine VX.guardT rfl rfl hb1_5 ?_
      first | refine VX.idxI (m := 0) rfl rfl rfl rfl rfl rfl (by omega) ?_ | refine VX.idxO (m := 0) rfl rfl rfl rfl rfl rfl rfl (by omega) ?_ | refine VX.meek rfl ?_
      refine VX.guardT rfl rfl hb1_5 ?_
      refine VX.meek rfl ?_
      refine VX.guardT rfl rfl hb1_5 ?_
      first | refine VX.meek rfl ?_ | refine VX.loadI rfl rfl au_l ?_ | refine VX.loadP rfl rfl rfl au_l ?_
      refine VX.guardT rfl rfl hb1_5 ?_
      first | refine VX.add rfl rfl (by omega) ?_ | refine VX.meek rfl ?_
      refine VX.guardT rfl rfl hb1_5 ?_
      refine VX.meek rfl ?_
      refine VX.guardT rfl rfl hb1_5 ?_
      refine VX.meek rfl ?_
      refine VX.pickA rfl (fun _ => rfl) ?_
      exact VX.nil ⟨rfl, rfl⟩
    · refine VX.guardF rfl rfl hb1_5 ?_
      refine VX.guardF rfl rfl hb1_5 ?_
      refine VX.guardF rfl rfl hb1_5 ?_
      refine VX.guardF rfl rfl hb1_5 ?_
      refine VX.guardF rfl rfl hb1_5 ?_
      refine VX.guardF rfl rfl hb1_5 ?_
      refine VX.guardF rfl rfl hb1_5 ?_
      refine VX.guardF rfl rfl hb1_5 ?_
      refine VX.guardF rfl rfl hb1_5 ?_
      refine VX.guardF rfl rfl hb1_5 ?_
      refine VX.guardF rfl rfl hb1_5 ?_
      refine VX.guardF rfl rfl hb1_5 ?_
      refine VX.guardF rfl rfl hb1_5 ?_
      refine VX.guardF rfl rfl hb1_5 ?_
      exact VX.pickA rfl (fun h => absurd (h.symm.trans hb1_5) (by decide)) (VX.nil ⟨rfl, rfl⟩)
  refine VX.nil ?_
  refine VX.nil ?_
  refine VC.cond rfl (fun hc0 => ?_) (fun hc0 => ?_)
  · (try simp only [au_std] at hc0); have h0 : 0 < m.length := (by omega); have hdl : (m.drop 1).length = m.length - 1 := List.length_drop
    refine VC.skip ?_
    refine VC.block ?_
    refine VC.regN tab_ok [] rfl ?_
    iterate 3 refine VX.meek rfl ?_
    first | refine VX.meek rfl ?_ | refine VX.loadI rfl rfl au_l ?_ | refine VX.loadP rfl rfl rfl au_l ?_
    refine VX.slcIR cR (p := 1) rfl rfl rfl rfl rfl rfl rfl (by omega) ?_
    refine VX.meek rfl ?_
    refine VX.store rfl rfl rfl rfl rfl au_sR rfl ?_
    refine VX.nil ?_
    refine ⟨m.drop 1, by (try dsimp only); omega, ?_, (by refine ⟨[some 0], rfl, by first | trivial | decide, rfl, ?_, ?_⟩ <;> (repeat' first | exact trivial | exact CvB_n | exact CvB_d | refine CvE_app ?_ ?_ | refine CvE_cons rfl ?_ ?_ | refine CvH_cons ?_ ?_ | refine CvB_c rfl ?_ | fail) <;> first | exact au_v | (exact CvL.cons (Cv.pure (encL_pure cR _)) CvL.nil))⟩
    exact ⟨by rw [← hm]; exact dw_step h0 (decide_eq_true (by omega)), fun r h => hrm r (List.mem_of_mem_drop h), by rw [List.length_drop]; omega⟩
  · (try simp only [au_std] at hc0); have hmd : rowX x l = m := (by rw [← hm]; exact dw_stop fun h => by rw [decide_eq_false_iff_not]; have := hc0 (by omega); omega)
    refine VC.exit ?_
    refine VC.reg tab_ok [] rfl ?_
    iterate 2 refine VX.meek rfl ?_
    first | refine VX.meek rfl ?_ | refine VX.loadI rfl rfl au_l ?_ | refine VX.loadP rfl rfl rfl au_l ?_
    iterate 3 refine VX.meek rfl ?_
    refine' VX.merge (d := 47) [_, _, _, _, _, _, _, _, _] rfl ?_ rfl ?_
    rotate_left
    · refine VX.guard rfl rfl (fun hb3_5 => ?_) (fun hb3_5 => ?_)
      · have ghb3_5 := hb3_5
        try simp only [au_std, Bool.not_true, Bool.not_false] at ghb3_5
        refine VX.meek rfl ?_
        refine VX.guardT rfl rfl hb3_5 ?_
        refine VX.meek rfl ?_
        refine VX.guardT rfl rfl hb3_5 ?_
        first | refine VX.meek rfl ?_ | refine VX.loadI rfl rfl au_l ?_ | refine VX.loadP rfl rfl rfl au_l ?_
        refine VX.guardT rfl rfl hb3_5 ?_
        first | refine VX.idxI (m := 0) rfl rfl rfl rfl rfl rfl (by omega) ?_ | refine VX.idxO (m := 0) rfl rfl rfl rfl rfl rfl rfl (by omega) ?_ | refine VX.meek rfl ?_
        refine VX.guardT rfl rfl hb3_5 ?_
        refine VX.meek rfl ?_
        refine VX.guardT rfl rfl hb3_5 ?_
        first | refine VX.meek rfl ?_ | refine VX.loadI rfl rfl au_l ?_ | refine VX.loadP rfl rfl rfl au_l ?_
        refine VX.guardT rfl rfl hb3_5 ?_
        refine VX.meek rfl ?_
        refine VX.guardT rfl rfl hb3_5 ?_
        refine VX.meek rfl ?_
        refine VX.pickA rfl (fun _ => rfl) ?_
        exact VX.nil ⟨rfl, rfl⟩
      · refine VX.guardF rfl rfl hb3_5 ?_
        refine VX.guardF rfl rfl hb3_5 ?_
        refine VX.guardF rfl rfl hb3_5 ?_
        refine VX.guardF rfl rfl hb3_5 ?_
        refine VX.guardF rfl rfl hb3_5 ?_
        refine VX.guardF rfl rfl hb3_5 ?_
        refine VX.guardF rfl rfl hb3_5 ?_
        exact VX.pickA rfl (fun h => absurd (h.symm.trans hb3_5) (by decide)) (VX.nil ⟨rfl, rfl⟩)
    refine VX.meek rfl ?_
    refine VX.nil ?_
    refine VC.ret ?_
    refine ⟨trivial, _, rfl, ?_, by rw [hmd]⟩; unfold acrB; rw [hmd, show decide (0 < m.length) = decide ((m.length : Int) > 0) from decide_eq_decide.2 (by omega)]
end
section
theorem cuts_mem {f : Rect → Int × Int} {l : List Rect} {y : Int} : y ∈ cutsOf f l ↔ ∃ r ∈ l, y = (f r).1 ∨ y = (f r).1 + (f r).2 := by
  unfold cutsOf
  rw [comp_mem]; unfold sortI; rw [List.mem_mergeSort]
  simp [endsF]
theorem cuts_len (f : Rect → Int × Int) (l : List Rect) : (cutsOf f l).length ≤ 2 * l.length := by
  have h := comp_le (sortI (endsF f l)); rw [sortI_len, endsF_len] at h; exact h
theorem cuts_lt (f : Rect → Int × Int) (l : List Rect) {i j : Nat} (h : i < j) (hj : j < (cutsOf f l).length) : (cutsOf f l)[i]! < (cutsOf f l)[j]! := by
  have := comp_lt (sortI_le (endsF f l))
  rw [List.pairwise_iff_getElem] at this
  have k := this i j (by unfold cutsOf at hj; omega) hj h
  rw [getElem!_pos (cutsOf f l) i (by omega), getElem!_pos (cutsOf f l) j hj]; exact k
theorem cuts_at {f : Rect → Int × Int} {l : List Rect} {y : Int} (h : ∃ r ∈ l, y = (f r).1 ∨ y = (f r).1 + (f r).2) : ∃ j, j < (cutsOf f l).length ∧ (cutsOf f l)[j]! = y := by
  obtain ⟨j, hj⟩ := List.mem_iff_getElem?.1 (cuts_mem.2 h)
  obtain ⟨h1, h2⟩ := List.getElem?_eq_some_iff.1 hj
  exact ⟨j, h1, by rw [getElem!_pos (cutsOf f l) j h1]; exact h2⟩
theorem cuts_gap {f : Rect → Int × Int} {l : List Rect} {y : Int} {i : Nat} (h : ∃ r ∈ l, y = (f r).1 ∨ y = (f r).1 + (f r).2) (hi : i + 1 < (cutsOf f l).length) : y ≤ (cutsOf f l)[i]! ∨ (cutsOf f l)[i + 1]! ≤ y := by
  obtain ⟨j, h1, h2⟩ := cuts_at h
  by_cases hj : j ≤ i
  · refine .inl ?_
    rcases Nat.lt_or_ge j i with h | h
    · have := cuts_lt f l h (by omega); omega
    · have : j = i := by omega
      subst this; omega
  · refine .inr ?_
    rcases Nat.lt_or_ge (i + 1) j with h | h
    · have := cuts_lt f l h h1; omega
    · have : j = i + 1 := by omega
      subst this; omega
theorem cuts_find {f : Rect → Int × Int} {l : List Rect} {r : Rect} {v : Int} (hr : r ∈ l) (h1 : (f r).1 ≤ v) (h2 : v < (f r).1 + (f r).2) : ∃ i, i + 1 < (cutsOf f l).length ∧ (cutsOf f l)[i]! ≤ v ∧ v < (cutsOf f l)[i + 1]! := by
  obtain ⟨i, hi, ei⟩ := cuts_at (f := f) (l := l) ⟨r, hr, .inl rfl⟩
  obtain ⟨j, hj, ej⟩ := cuts_at (f := f) (l := l) ⟨r, hr, .inr rfl⟩
  have go : ∀ (n i : Nat), j - i ≤ n → (cutsOf f l)[i]! ≤ v → i < j → ∃ i, i + 1 < (cutsOf f l).length ∧ (cutsOf f l)[i]! ≤ v ∧ v < (cutsOf f l)[i + 1]! := by
    intro n
    induction n with
    | zero => intro i hn _ hij; omega
    | succ n ih =>
      intro i hn hv hij
      by_cases hc : v < (cutsOf f l)[i + 1]!
      · exact ⟨i, by omega, hv, hc⟩
      · have hlt : i + 1 < j := by
          rcases Nat.lt_or_ge (i + 1) j with h | h
          · exact h
          · have : i + 1 = j := by omega
            rw [this, ej] at hc; omega
        exact ih (i + 1) (by omega) (by omega) hlt
  refine go _ i (Nat.le_refl _) (by omega) ?_
  rcases Nat.lt_or_ge i j with h | h
  · exact h
  · rcases Nat.lt_or_ge j i with h' | h'
    · have := cuts_lt f l h' hi; omega
    · have : i = j := by omega
      subst this; omega
theorem acr_spans {y e : Int} : ∀ {s : List Span} {lo : Int}, spansOk lo s → ∀ x, acrB x (Band.rects ⟨y, e, s⟩) = true ↔ inS s x
  | [], lo, _, x => by simp [Band.rects, acrB, rowX, inS]
  | p :: s, lo, ⟨h1, h2, h3⟩, x => by
    have ih := acr_spans (y := y) (e := e) h3 x
    unfold acrB rowX Band.rects at ih ⊢
    simp only [List.map_cons, List.dropWhile_cons] at ih ⊢
    rw [inS_cons]
    by_cases hc : p.1 + (p.2 - p.1) ≤ x
    · rw [if_pos (by simpa using hc), ih]
      constructor
      · exact .inr
      · rintro (h | h)
        · omega
        · exact h
    · rw [if_neg (by simpa using hc)]
      simp only [List.length_cons, Nat.zero_lt_succ, decide_true, Bool.true_and, decide_eq_true_eq]
      show p.1 ≤ x ↔ _
      constructor
      · intro h; exact .inl ⟨h, by omega⟩
      · rintro (h | h)
        · exact h.1
        · have := spansOk_lo h3 x h; omega
theorem rect_band {b : Band} {r : Rect} (h : r ∈ b.rects) : r.Y = b.y ∧ r.Y + r.H = b.e := by
  unfold Band.rects at h
  obtain ⟨p, _, rfl⟩ := List.mem_map.1 h
  exact ⟨rfl, by show b.y + (b.e - b.y) = b.e; omega⟩
theorem bands_from : ∀ {bs : List Band} {b : Band}, bandsOk (b :: bs) → ∀ c ∈ bs, b.e ≤ c.y
  | [], _, _, c, h => by cases h
  | d :: bs, b, ⟨h1, h2, h3⟩, c, h => by
    rcases List.mem_cons.1 h with rfl | h
    · exact h2.1
    · have := bands_from h3 c h
      have := h3.1.1
      have := h2.1
      omega
theorem mem_rects {bs : List Band} {r : Rect} : r ∈ rectsOf bs ↔ ∃ b ∈ bs, r ∈ b.rects := by unfold rectsOf; rw [List.mem_flatMap]
theorem dw_all {p : Rect → Bool} {a b : List Rect} (h : ∀ r ∈ a, p r = true) : (a ++ b).dropWhile p = b.dropWhile p := by
  induction a with
  | nil => rfl
  | cons r a ih => rw [List.cons_append, List.dropWhile_cons, if_pos (h r List.mem_cons_self), ih fun r hr => h r (List.mem_cons_of_mem _ hr)]
theorem tw_all {p : Rect → Bool} {a b : List Rect} (h : ∀ r ∈ a, p r = true) : (a ++ b).takeWhile p = a ++ b.takeWhile p := by
  induction a with
  | nil => rfl
  | cons r a ih => rw [List.cons_append, List.takeWhile_cons, if_pos (h r List.mem_cons_self), ih fun r hr => h r (List.mem_cons_of_mem _ hr), List.cons_append]
theorem dw_no {p : Rect → Bool} {a : List Rect} (h : ∀ r ∈ a, p r = false) : a.dropWhile p = a := by
  cases a with
  | nil => rfl
  | cons r a => rw [List.dropWhile_cons, if_neg (by rw [h r List.mem_cons_self]; simp)]
theorem tw_no {p : Rect → Bool} {a : List Rect} (h : ∀ r ∈ a, p r = false) : a.takeWhile p = [] := by
  cases a with
  | nil => rfl
  | cons r a => rw [List.takeWhile_cons, if_neg (by rw [h r List.mem_cons_self]; simp)]
theorem rowT_bands (y : Int) : ∀ {bs : List Band}, bandsOk bs → (∃ b ∈ bs, b.y ≤ y ∧ y < b.e ∧ rowT y (rectsOf bs) = b.rects ∧ spansOk (-1048577) b.s ∧ ∀ c ∈ bs, c.y ≤ y → y < c.e → c = b) ∨ (rowT y (rectsOf bs) = [] ∧ ∀ b ∈ bs, ¬ (b.y ≤ y ∧ y < b.e))
  | [], _ => .inr ⟨rfl, by simp⟩
  | b :: bs, h => by
    have hf := bands_from h
    have hsplit : rectsOf (b :: bs) = b.rects ++ rectsOf bs := rfl
    have htl : ∀ r ∈ rectsOf bs, ∃ c ∈ bs, r.Y = c.y ∧ r.Y + r.H = c.e := fun r hr => by
      obtain ⟨c, h1, h2⟩ := mem_rects.1 hr; exact ⟨c, h1, rect_band h2⟩
    have hbs : ∀ c ∈ bs, c.y < c.e := by
      have : ∀ {l : List Band}, bandsOk l → ∀ c ∈ l, c.y < c.e := by
        intro l
        induction l with
        | nil => intro _ c hc; cases hc
        | cons d l ih => intro hl c hc; rcases List.mem_cons.1 hc with rfl | hc; exact hl.1.1; exact ih hl.2.2 c hc
      exact this h.2.2
    by_cases he : b.e ≤ y
    · have hd : rowT y (rectsOf (b :: bs)) = rowT y (rectsOf bs) := by
        unfold rowT rowD
        rw [hsplit, dw_all fun r hr => decide_eq_true (by have := rect_band hr; omega)]
      rw [hd]
      rcases rowT_bands y h.2.2 with ⟨c, h1, h2, h3, h4, h5, h6⟩ | ⟨h1, h2⟩
      · refine .inl ⟨c, List.mem_cons_of_mem _ h1, h2, h3, h4, h5, fun d hd h7 h8 => ?_⟩
        rcases List.mem_cons.1 hd with rfl | hd
        · omega
        · exact h6 d hd h7 h8
      · refine .inr ⟨h1, fun c hc => ?_⟩
        rcases List.mem_cons.1 hc with rfl | hc
        · omega
        · exact h2 c hc
    · have hD : rowD y (rectsOf (b :: bs)) = b.rects ++ rectsOf bs := by
        unfold rowD
        rw [hsplit]
        refine dw_no fun r hr => ?_
        rw [decide_eq_false_iff_not]
        rcases List.mem_append.1 hr with hr | hr
        · have := rect_band hr; omega
        · obtain ⟨c, h1, h2, h3⟩ := htl r hr
          have := hf c h1; have := hbs c h1; omega
      have htn : (rectsOf bs).takeWhile (fun r => decide (r.Y ≤ y)) = [] := tw_no fun r hr => by
        rw [decide_eq_false_iff_not]
        obtain ⟨c, h1, h2, h3⟩ := htl r hr
        have := hf c h1; omega
      by_cases hy : b.y ≤ y
      · refine .inl ⟨b, List.mem_cons_self, hy, by omega, ?_, h.1.2.2, fun c hc h7 h8 => ?_⟩
        · unfold rowT
          rw [hD, tw_all fun r hr => decide_eq_true (by have := rect_band hr; omega), htn, List.append_nil]
        · rcases List.mem_cons.1 hc with rfl | hc
          · rfl
          · have := hf c hc; omega
      · refine .inr ⟨?_, fun c hc => ?_⟩
        · unfold rowT
          rw [hD]
          refine tw_no fun r hr => ?_
          rw [decide_eq_false_iff_not]
          rcases List.mem_append.1 hr with hr | hr
          · have := rect_band hr; omega
          · obtain ⟨c, h1, h2, h3⟩ := htl r hr
            have := hf c h1; have := h.1.1; omega
        · rcases List.mem_cons.1 hc with rfl | hc
          · omega
          · have := hf c hc; have := h.1.1; omega
theorem acr_in {a : List Rect} (h : Canon a) (x y : Int) : acrB x (rowT y a) = true ↔ inL a x y := by
  obtain ⟨bs, h1, rfl⟩ := h
  rw [inL_rectsOf]
  rcases rowT_bands y h1 with ⟨b, k1, k2, k3, k4, k5, k6⟩ | ⟨k1, k2⟩
  · rw [k4, acr_spans k5]
    constructor
    · intro hs; exact ⟨b, k1, k2, k3, hs⟩
    · rintro ⟨c, c1, c2, c3, c4⟩; rw [← k6 c c1 c2 c3]; exact c4
  · rw [k1]
    constructor
    · intro hs; simp [acrB, rowX] at hs
    · rintro ⟨c, c1, c2, c3, c4⟩; exact absurd ⟨c2, c3⟩ (k2 c c1)
theorem rowT_mem {a : List Rect} (h : Canon a) {y : Int} {r : Rect} : r ∈ rowT y a ↔ r ∈ a ∧ r.Y ≤ y ∧ y < r.Y + r.H := by
  obtain ⟨bs, h1, rfl⟩ := h
  rcases rowT_bands y h1 with ⟨b, k1, k2, k3, k4, k5, k6⟩ | ⟨k1, k2⟩
  · rw [k4]
    constructor
    · intro hr; have := rect_band hr; exact ⟨mem_rects.2 ⟨b, k1, hr⟩, by omega, by omega⟩
    · rintro ⟨hr, h2, h3⟩
      obtain ⟨c, c1, c2⟩ := mem_rects.1 hr
      have := rect_band c2
      rw [← k6 c c1 (by omega) (by omega)]; exact c2
  · rw [k1]
    constructor
    · intro hr; cases hr
    · rintro ⟨hr, h2, h3⟩
      obtain ⟨c, c1, c2⟩ := mem_rects.1 hr
      have := rect_band c2
      exact absurd ⟨by omega, by omega⟩ (k2 c c1)
end
section
abbrev fY (r : Rect) : Int × Int := (r.Y, r.H)
abbrev fX (r : Rect) : Int × Int := (r.X, r.W)
def ysJ (a b : List Rect) : List Int := cutsOf fY [a, b].flatten
def xsJ (p q : List Rect) : List Int := cutsOf fX [p, q].flatten
def cellJ (k : Bool → Bool → Bool) (y h : Int) (p q : List Rect) (j : Nat) : List Rect := if k (acrB (xsJ p q)[j]! p) (acrB (xsJ p q)[j]! q) = true then [⟨(xsJ p q)[j]!, y, (xsJ p q)[j + 1]! - (xsJ p q)[j]!, h⟩] else []
def rowJ (k : Bool → Bool → Bool) (y h : Int) (p q : List Rect) (n : Nat) : List Rect := (List.range n).flatMap (cellJ k y h p q)
def outJ (k : Bool → Bool → Bool) (a b : List Rect) (n : Nat) : List Rect := (List.range n).flatMap fun i => rowJ k (ysJ a b)[i]! ((ysJ a b)[i + 1]! - (ysJ a b)[i]!) (rowT (ysJ a b)[i]! a) (rowT (ysJ a b)[i]! b) ((xsJ (rowT (ysJ a b)[i]! a) (rowT (ysJ a b)[i]! b)).length - 1)
def joinL (k : Bool → Bool → Bool) (a b : List Rect) : List Rect := outJ k a b ((ysJ a b).length - 1)
theorem rowJ_succ (k : Bool → Bool → Bool) (y h : Int) (p q : List Rect) (n : Nat) : rowJ k y h p q (n + 1) = rowJ k y h p q n ++ cellJ k y h p q n := by unfold rowJ; rw [List.range_succ, List.flatMap_append]; simp
theorem outJ_succ (k : Bool → Bool → Bool) (a b : List Rect) (n : Nat) : outJ k a b (n + 1) = outJ k a b n ++ rowJ k (ysJ a b)[n]! ((ysJ a b)[n + 1]! - (ysJ a b)[n]!) (rowT (ysJ a b)[n]! a) (rowT (ysJ a b)[n]! b) ((xsJ (rowT (ysJ a b)[n]! a) (rowT (ysJ a b)[n]! b)).length - 1) := by unfold outJ; rw [List.range_succ, List.flatMap_append]; simp
theorem rowJ_len (k : Bool → Bool → Bool) (y h : Int) (p q : List Rect) : ∀ n, (rowJ k y h p q n).length ≤ n
  | 0 => by simp [rowJ]
  | n + 1 => by
    rw [rowJ_succ, List.length_append]
    have := rowJ_len k y h p q n
    have : (cellJ k y h p q n).length ≤ 1 := by unfold cellJ; split <;> simp
    omega
theorem rowT_len (y : Int) (a : List Rect) : (rowT y a).length ≤ a.length := by
  unfold rowT rowD
  exact Nat.le_trans (List.takeWhile_sublist _).length_le (List.dropWhile_sublist _).length_le
theorem fl2 (a b : List Rect) : [a, b].flatten = a ++ b := by simp
theorem xsJ_len (p q : List Rect) : (xsJ p q).length ≤ 2 * (p.length + q.length) := by
  have := cuts_len fX [p, q].flatten
  rw [fl2, List.length_append] at this
  unfold xsJ; rw [fl2]; exact this
theorem ysJ_len (p q : List Rect) : (ysJ p q).length ≤ 2 * (p.length + q.length) := by
  have := cuts_len fY [p, q].flatten
  rw [fl2, List.length_append] at this
  unfold ysJ; rw [fl2]; exact this
theorem dw_mono {p p' : Rect → Bool} (h : ∀ r, p' r = true → p r = true) : ∀ l : List Rect, (l.dropWhile p').dropWhile p = l.dropWhile p
  | [] => rfl
  | r :: l => by
    rw [List.dropWhile_cons]
    split
    · rename_i hc
      rw [dw_mono h l, List.dropWhile_cons, if_pos (h r hc)]
    · rfl
theorem rowD_mono {y y' : Int} (h : y' ≤ y) (l : List Rect) : rowD y (rowD y' l) = rowD y l := dw_mono (fun r hr => by have := of_decide_eq_true hr; exact decide_eq_true (by omega)) l
theorem rowX_mono {y y' : Int} (h : y' ≤ y) (l : List Rect) : rowX y (rowX y' l) = rowX y l := dw_mono (fun r hr => by have := of_decide_eq_true hr; exact decide_eq_true (by omega)) l
theorem same_in {a b c : List Rect} (hc : Canon c) (hsub : ∀ r ∈ c, r ∈ [a, b].flatten) {i : Nat} (hi : i + 1 < (ysJ a b).length) (hrow : ∀ r ∈ rowT (ysJ a b)[i]! c, r ∈ [rowT (ysJ a b)[i]! a, rowT (ysJ a b)[i]! b].flatten) {j : Nat} (hj : j + 1 < (xsJ (rowT (ysJ a b)[i]! a) (rowT (ysJ a b)[i]! b)).length) {x z : Int}
    (h1 : (ysJ a b)[i]! ≤ z) (h2 : z < (ysJ a b)[i + 1]!) (h3 : (xsJ (rowT (ysJ a b)[i]! a) (rowT (ysJ a b)[i]! b))[j]! ≤ x) (h4 : x < (xsJ (rowT (ysJ a b)[i]! a) (rowT (ysJ a b)[i]! b))[j + 1]!) :
    inL c (xsJ (rowT (ysJ a b)[i]! a) (rowT (ysJ a b)[i]! b))[j]! (ysJ a b)[i]! ↔ inL c x z := by
  have gy : ∀ r ∈ c, (r.Y ≤ (ysJ a b)[i]! ∨ (ysJ a b)[i + 1]! ≤ r.Y) ∧ (r.Y + r.H ≤ (ysJ a b)[i]! ∨ (ysJ a b)[i + 1]! ≤ r.Y + r.H) := fun r hr =>
    ⟨cuts_gap (f := fY) ⟨r, hsub r hr, .inl rfl⟩ hi, cuts_gap (f := fY) ⟨r, hsub r hr, .inr rfl⟩ hi⟩
  have gx : ∀ r ∈ rowT (ysJ a b)[i]! c, (r.X ≤ (xsJ (rowT (ysJ a b)[i]! a) (rowT (ysJ a b)[i]! b))[j]! ∨ (xsJ (rowT (ysJ a b)[i]! a) (rowT (ysJ a b)[i]! b))[j + 1]! ≤ r.X) ∧ (r.X + r.W ≤ (xsJ (rowT (ysJ a b)[i]! a) (rowT (ysJ a b)[i]! b))[j]! ∨ (xsJ (rowT (ysJ a b)[i]! a) (rowT (ysJ a b)[i]! b))[j + 1]! ≤ r.X + r.W) := fun r hr =>
    ⟨cuts_gap (f := fX) ⟨r, hrow r hr, .inl rfl⟩ hj, cuts_gap (f := fX) ⟨r, hrow r hr, .inr rfl⟩ hj⟩
  constructor
  · rintro ⟨r, hr, k1, k2, k3, k4⟩
    have g1 := gy r hr
    have g2 := gx r ((rowT_mem hc).2 ⟨hr, k3, k4⟩)
    exact ⟨r, hr, by omega, by omega, by omega, by omega⟩
  · rintro ⟨r, hr, k1, k2, k3, k4⟩
    have g1 := gy r hr
    have g2 := gx r ((rowT_mem hc).2 ⟨hr, by omega, by omega⟩)
    exact ⟨r, hr, by omega, by omega, by omega, by omega⟩
theorem join_mem {k : Bool → Bool → Bool} {a b : List Rect} {r : Rect} : r ∈ joinL k a b ↔ ∃ i j, i + 1 < (ysJ a b).length ∧ j + 1 < (xsJ (rowT (ysJ a b)[i]! a) (rowT (ysJ a b)[i]! b)).length ∧
    k (acrB (xsJ (rowT (ysJ a b)[i]! a) (rowT (ysJ a b)[i]! b))[j]! (rowT (ysJ a b)[i]! a)) (acrB (xsJ (rowT (ysJ a b)[i]! a) (rowT (ysJ a b)[i]! b))[j]! (rowT (ysJ a b)[i]! b)) = true ∧
    r = ⟨(xsJ (rowT (ysJ a b)[i]! a) (rowT (ysJ a b)[i]! b))[j]!, (ysJ a b)[i]!, (xsJ (rowT (ysJ a b)[i]! a) (rowT (ysJ a b)[i]! b))[j + 1]! - (xsJ (rowT (ysJ a b)[i]! a) (rowT (ysJ a b)[i]! b))[j]!, (ysJ a b)[i + 1]! - (ysJ a b)[i]!⟩ := by
  unfold joinL outJ rowJ
  simp only [List.mem_flatMap, List.mem_range]
  constructor
  · rintro ⟨i, hi, j, hj, hr⟩
    unfold cellJ at hr
    split at hr
    · rename_i hk
      rw [List.mem_singleton] at hr
      exact ⟨i, j, by omega, by omega, hk, hr⟩
    · cases hr
  · rintro ⟨i, j, hi, hj, hk, hr⟩
    refine ⟨i, by omega, j, by omega, ?_⟩
    unfold cellJ
    rw [if_pos hk, hr]; exact List.mem_singleton.2 rfl
theorem add_lt {A B v : Int} (h : v < B) : v < A + (B - A) := by omega
theorem join_in {k : Bool → Bool → Bool} (hk : k false false = false) {a b : List Rect} (ha : Canon a) (hb : Canon b) (x z : Int) : inL (joinL k a b) x z ↔ k (decide (inL a x z)) (decide (inL b x z)) = true := by
  have sa : ∀ {i j : Nat}, i + 1 < (ysJ a b).length → j + 1 < (xsJ (rowT (ysJ a b)[i]! a) (rowT (ysJ a b)[i]! b)).length → (ysJ a b)[i]! ≤ z → z < (ysJ a b)[i + 1]! → (xsJ (rowT (ysJ a b)[i]! a) (rowT (ysJ a b)[i]! b))[j]! ≤ x → x < (xsJ (rowT (ysJ a b)[i]! a) (rowT (ysJ a b)[i]! b))[j + 1]! →
      acrB (xsJ (rowT (ysJ a b)[i]! a) (rowT (ysJ a b)[i]! b))[j]! (rowT (ysJ a b)[i]! a) = decide (inL a x z) ∧ acrB (xsJ (rowT (ysJ a b)[i]! a) (rowT (ysJ a b)[i]! b))[j]! (rowT (ysJ a b)[i]! b) = decide (inL b x z) := fun hi hj h1 h2 h3 h4 => by
    constructor
    · rw [Bool.eq_iff_iff, acr_in ha, decide_eq_true_eq]
      exact same_in ha (fun r hr => by rw [fl2]; exact List.mem_append.2 (.inl hr)) hi (fun r hr => by rw [fl2]; exact List.mem_append.2 (.inl hr)) hj h1 h2 h3 h4
    · rw [Bool.eq_iff_iff, acr_in hb, decide_eq_true_eq]
      exact same_in hb (fun r hr => by rw [fl2]; exact List.mem_append.2 (.inr hr)) hi (fun r hr => by rw [fl2]; exact List.mem_append.2 (.inr hr)) hj h1 h2 h3 h4
  constructor
  · rintro ⟨r, hr, k1, k2, k3, k4⟩
    obtain ⟨i, j, hi, hj, hkk, rfl⟩ := join_mem.1 hr
    simp only at k1 k2 k3 k4
    obtain ⟨e1, e2⟩ := sa hi hj k3 (by omega) k1 (by omega)
    rw [← e1, ← e2]; exact hkk
  · intro hkk
    have hex : ∃ c r, (c = a ∨ c = b) ∧ Canon c ∧ r ∈ c ∧ r.has x z := by
      by_cases h1 : inL a x z
      · obtain ⟨r, q1, q2⟩ := h1; exact ⟨a, r, .inl rfl, ha, q1, q2⟩
      · by_cases h2 : inL b x z
        · obtain ⟨r, q1, q2⟩ := h2; exact ⟨b, r, .inr rfl, hb, q1, q2⟩
        · rw [decide_eq_false h1, decide_eq_false h2, hk] at hkk; cases hkk
    obtain ⟨c, r, hcc, hC, hr, k1, k2, k3, k4⟩ := hex
    have hm : r ∈ [a, b].flatten := by rw [fl2]; rcases hcc with rfl | rfl; exact List.mem_append.2 (.inl hr); exact List.mem_append.2 (.inr hr)
    obtain ⟨i, hi, i1, i2⟩ := cuts_find (f := fY) hm k3 k4
    have g := cuts_gap (f := fY) (y := r.Y) ⟨r, hm, .inl rfl⟩ hi
    have hrow : r ∈ [rowT (ysJ a b)[i]! a, rowT (ysJ a b)[i]! b].flatten := by
      have : r ∈ rowT (ysJ a b)[i]! c := (rowT_mem hC).2 ⟨hr, by unfold ysJ; omega, by unfold ysJ; omega⟩
      rw [fl2]; rcases hcc with rfl | rfl; exact List.mem_append.2 (.inl this); exact List.mem_append.2 (.inr this)
    obtain ⟨j, hj, j1, j2⟩ := cuts_find (f := fX) hrow k1 k2
    obtain ⟨e1, e2⟩ := sa (i := i) (j := j) hi hj i1 i2 j1 j2
    refine ⟨_, join_mem.2 ⟨i, j, hi, hj, by rw [e1, e2]; exact hkk, rfl⟩, j1, ?_, i1, ?_⟩
    · exact add_lt j2
    · exact add_lt i2
theorem fl_rok {a b : List Rect} (ha : ∀ r ∈ a, rok r) (hb : ∀ r ∈ b, rok r) : ∀ r ∈ [a, b].flatten, rok r := fun r hr => by rw [fl2] at hr; exact (List.mem_append.1 hr).elim (ha r) (hb r)
theorem ysJ_bnd {a b : List Rect} (ha : ∀ r ∈ a, rok r) (hb : ∀ r ∈ b, rok r) {i : Nat} (hi : i < (ysJ a b).length) : -1048576 ≤ (ysJ a b)[i]! ∧ (ysJ a b)[i]! ≤ 1048576 := by
  obtain ⟨r, q1, q2⟩ := cuts_mem.1 (List.mem_iff_getElem?.2 ⟨i, getE hi⟩)
  have := fl_rok ha hb r q1; unfold rok at this
  unfold ysJ; simp only [fY] at q2 ⊢; omega
theorem xsJ_bnd {a b : List Rect} (ha : ∀ r ∈ a, rok r) (hb : ∀ r ∈ b, rok r) {i : Nat} (hi : i < (xsJ a b).length) : -1048576 ≤ (xsJ a b)[i]! ∧ (xsJ a b)[i]! ≤ 1048576 := by
  obtain ⟨r, q1, q2⟩ := cuts_mem.1 (List.mem_iff_getElem?.2 ⟨i, getE hi⟩)
  have := fl_rok ha hb r q1; unfold rok at this
  unfold xsJ; simp only [fX] at q2 ⊢; omega
theorem rowT_sub {y : Int} {a : List Rect} {r : Rect} (h : r ∈ rowT y a) : r ∈ a := by
  unfold rowT rowD at h
  exact (List.dropWhile_sublist _).subset ((List.takeWhile_sublist _).subset h)
theorem join_counts {k : Bool → Bool → Bool} {a b : List Rect} (ha : ∀ r ∈ a, rok r) (hb : ∀ r ∈ b, rok r) {r : Rect} (h : r ∈ joinL k a b) : countsB r = true := by
  obtain ⟨i, j, hi, hj, -, rfl⟩ := join_mem.1 h
  have y1 := ysJ_bnd ha hb (i := i) (by omega)
  have y2 := ysJ_bnd ha hb (i := i + 1) hi
  have hra : ∀ r ∈ rowT (ysJ a b)[i]! a, rok r := fun r h => ha r (rowT_sub h)
  have hrb : ∀ r ∈ rowT (ysJ a b)[i]! b, rok r := fun r h => hb r (rowT_sub h)
  have x1 := xsJ_bnd hra hrb (i := j) (by omega)
  have x2 := xsJ_bnd hra hrb (i := j + 1) hj
  have y3 : (ysJ a b)[i]! < (ysJ a b)[i + 1]! := cuts_lt fY [a, b].flatten (Nat.lt_succ_self i) hi
  have x3 : (xsJ (rowT (ysJ a b)[i]! a) (rowT (ysJ a b)[i]! b))[j]! < (xsJ (rowT (ysJ a b)[i]! a) (rowT (ysJ a b)[i]! b))[j + 1]! := cuts_lt fX _ (Nat.lt_succ_self j) hj
  unfold countsB fitsB
  simp only [Bool.and_eq_true, decide_eq_true_eq]
  omega
theorem join_eq {k : Bool → Bool → Bool} (hk : k false false = false) {a b c : List Rect} (ha : Canon a) (hb : Canon b) (har : ∀ r ∈ a, rok r) (hbr : ∀ r ∈ b, rok r) (hc : Canon c) (hi : ∀ x z, inL c x z ↔ k (decide (inL a x z)) (decide (inL b x z)) = true) : bandOf (joinL k a b) = c := by
  refine (bandOf_eq hc fun x z => ?_).symm
  rw [hi, ← join_in hk ha hb]
  have : (joinL k a b).filter countsB = joinL k a b := List.filter_eq_self.2 fun r hr => join_counts har hbr hr
  rw [this]
end
section
theorem bandsOk_mem : ∀ {bs : List Band}, bandsOk bs → ∀ b ∈ bs, bandOk b
  | [], _, b, h => by cases h
  | c :: bs, ⟨h1, h2, h3⟩, b, h => by
    rcases List.mem_cons.1 h with rfl | h
    · exact h1
    · exact bandsOk_mem h3 b h
theorem canon_rok {c : List Rect} (hc : Canon c) (h : ∀ x z, inL c x z → -1048576 ≤ x ∧ x < 1048576 ∧ -1048576 ≤ z ∧ z < 1048576) : ∀ r ∈ c, rok r := by
  obtain ⟨bs, h1, rfl⟩ := hc
  intro r hr
  obtain ⟨b, hb, hrb⟩ := mem_rects.1 hr
  have hbo := bandsOk_mem h1 b hb
  have hrr := hrb
  unfold Band.rects at hrb
  obtain ⟨p, hp, rfl⟩ := List.mem_map.1 hrb
  have hs := spansOk_mem hbo.2.2 p hp
  have hy := hbo.1
  have k1 := h p.1 b.y ⟨_, hr, Int.le_refl _, by show p.1 < p.1 + (p.2 - p.1); omega, Int.le_refl _, by show b.y < b.y + (b.e - b.y); omega⟩
  have k2 := h (p.2 - 1) (b.e - 1) ⟨_, hr, by show p.1 ≤ p.2 - 1; omega, by show p.2 - 1 < p.1 + (p.2 - p.1); omega, by show b.y ≤ b.e - 1; omega, by show b.e - 1 < b.y + (b.e - b.y); omega⟩
  unfold rok
  dsimp only
  omega
theorem inL_bnd {l : List Rect} (h : ∀ r ∈ l, rok r) {x z : Int} (hi : inL l x z) : -1048576 ≤ x ∧ x < 1048576 ∧ -1048576 ≤ z ∧ z < 1048576 := by
  obtain ⟨r, hr, k1, k2, k3, k4⟩ := hi
  have := h r hr; unfold rok at this
  omega
theorem bandOf_rok (l : List Rect) : ∀ r ∈ bandOf l, rok r :=
  canon_rok (bandOf_canon l) fun x z hi => inL_bnd (fun r hr => countsB_rok (List.mem_filter.1 hr).2) ((bandOf_in l x z).1 hi)
theorem canon_nil : Canon [] := ⟨[], trivial, rfl⟩
theorem canon_one {r : Rect} (h : rok r) : Canon [r] := by
  unfold rok at h
  refine ⟨[⟨r.Y, r.Y + r.H, [(r.X, r.X + r.W)]⟩], ⟨⟨by show r.Y < r.Y + r.H; omega, by simp, by show -1048577 < r.X; omega, by show r.X < r.X + r.W; omega, trivial⟩, trivial, trivial⟩, ?_⟩
  simp only [rectsOf, Band.rects, List.flatMap_cons, List.flatMap_nil, List.map_cons, List.map_nil, List.append_nil]
  congr 1
  rw [show r.X + r.W - r.X = r.W from by omega, show r.Y + r.H - r.Y = r.H from by omega]
theorem bandOf_one (r : Rect) : bandOf [r] = if countsB r = true then [r] else [] := by
  split
  · rename_i h
    exact (bandOf_eq (canon_one (countsB_rok h)) fun x z => by simp only [List.filter_cons, h, if_true, List.filter_nil]).symm
  · rename_i h
    exact (bandOf_eq canon_nil fun x z => by rw [List.filter_cons, if_neg h, List.filter_nil]).symm
end
section
def Gr (c : List Rect) (xs ys : List Int) : Prop := (∀ x y, x ∉ xs → (inL c (x - 1) y ↔ inL c x y)) ∧ ∀ x y, y ∉ ys → (inL c x (y - 1) ↔ inL c x y)
theorem gr_cons {r : Rect} {l : List Rect} {xs ys : List Int} (h : Gr l xs ys) : Gr (r :: l) (r.X :: (r.X + r.W) :: xs) (r.Y :: (r.Y + r.H) :: ys) := by
  constructor
  · intro x y hx
    simp only [List.mem_cons, not_or] at hx
    rw [inL_cons, inL_cons, h.1 x y hx.2.2]
    unfold Rect.has
    have h1 := hx.1
    have h2 := hx.2.1
    constructor
    · rintro (k | k)
      · exact .inl ⟨by omega, by omega, k.2.2⟩
      · exact .inr k
    · rintro (k | k)
      · exact .inl ⟨by omega, by omega, k.2.2⟩
      · exact .inr k
  · intro x y hx
    simp only [List.mem_cons, not_or] at hx
    rw [inL_cons, inL_cons, h.2 x y hx.2.2]
    unfold Rect.has
    have h1 := hx.1
    have h2 := hx.2.1
    constructor
    · rintro (k | k)
      · exact .inl ⟨k.1, k.2.1, by omega, by omega⟩
      · exact .inr k
    · rintro (k | k)
      · exact .inl ⟨k.1, k.2.1, by omega, by omega⟩
      · exact .inr k
theorem gr_list : ∀ l : List Rect, ∃ xs ys, xs.length ≤ 2 * l.length ∧ ys.length ≤ 2 * l.length ∧ Gr l xs ys
  | [] => ⟨[], [], by simp, by simp, fun x y _ => ⟨fun h => absurd h inL_nil, fun h => absurd h inL_nil⟩, fun x y _ => ⟨fun h => absurd h inL_nil, fun h => absurd h inL_nil⟩⟩
  | r :: l => by
    obtain ⟨xs, ys, h1, h2, h3⟩ := gr_list l
    exact ⟨_, _, by simp only [List.length_cons]; omega, by simp only [List.length_cons]; omega, gr_cons h3⟩
theorem gr_op {k : Bool → Bool → Bool} {a b c : List Rect} {xs ys xs' ys' : List Int} (ha : Gr a xs ys) (hb : Gr b xs' ys') (hc : ∀ x z, inL c x z ↔ k (decide (inL a x z)) (decide (inL b x z)) = true) : Gr c (xs ++ xs') (ys ++ ys') := by
  constructor
  · intro x y hx
    simp only [List.mem_append, not_or] at hx
    rw [hc, hc]; simp only [ha.1 x y hx.1, hb.1 x y hx.2]
  · intro x y hx
    simp only [List.mem_append, not_or] at hx
    rw [hc, hc]; simp only [ha.2 x y hx.1, hb.2 x y hx.2]
theorem spans_ends : ∀ {s : List Span} {lo : Int}, spansOk lo s → ∀ p ∈ s, ¬ inS s (p.1 - 1) ∧ ¬ inS s p.2
  | [], _, _, p, h => by cases h
  | q :: s, lo, ⟨h1, h2, h3⟩, p, h => by
    rcases List.mem_cons.1 h with rfl | h
    · refine ⟨fun k => ?_, fun k => ?_⟩
      · rcases inS_cons.1 k with k | k
        · omega
        · have := spansOk_lo h3 _ k; omega
      · rcases inS_cons.1 k with k | k
        · omega
        · have := spansOk_lo h3 _ k; omega
    · obtain ⟨e1, e2⟩ := spans_ends h3 p h
      have := spansOk_mem h3 p h
      refine ⟨fun k => ?_, fun k => ?_⟩
      · rcases inS_cons.1 k with k | k
        · omega
        · exact e1 k
      · rcases inS_cons.1 k with k | k
        · omega
        · exact e2 k
theorem inB_at : ∀ {bs : List Band}, bandsOk bs → ∀ b ∈ bs, ∀ y, b.y ≤ y → y < b.e → ∀ x, inB bs x y ↔ inS b.s x
  | [], _, b, h, _, _, _, _ => by cases h
  | c :: bs, h, b, hb, y, h1, h2, x => by
    have hf := bands_from h
    rw [inB_cons]
    rcases List.mem_cons.1 hb with rfl | hb
    · constructor
      · rintro (k | ⟨d, hd, k1, k2, k3⟩)
        · exact k.2.2
        · have := hf d hd; omega
      · intro k; exact .inl ⟨h1, h2, k⟩
    · have := hf b hb
      rw [inB_at h.2.2 b hb y h1 h2 x]
      constructor
      · rintro (k | k)
        · omega
        · exact k
      · exact .inr
theorem bands_end : ∀ {bs : List Band}, bandsOk bs → ∀ b ∈ bs, ∀ {s : List Span} {lo : Int}, spansOk lo s → (∀ x, inB bs x b.e ↔ inS s x) → s ≠ b.s
  | [], _, b, h, _, _, _, _ => by cases h
  | c :: bs, h, b, hb, s, lo, hs, hrow => by
    rcases List.mem_cons.1 hb with rfl | hb
    · exact band_end h hs hrow
    · refine bands_end h.2.2 b hb hs fun x => ?_
      rw [← hrow x, inB_cons]
      have h1 := bands_from h b hb
      have h2 := (bandsOk_mem h.2.2 b hb).1
      constructor
      · exact .inr
      · rintro (k | k)
        · omega
        · exact k
theorem canon_lines {bs : List Band} (hb : bandsOk bs) {xs ys : List Int} (hg : Gr (rectsOf bs) xs ys) : ∀ b ∈ bs, b.y ∈ ys ∧ b.e ∈ ys ∧ ∀ p ∈ b.s, p.1 ∈ xs ∧ p.2 ∈ xs := by
  intro b hm
  have hbo := bandsOk_mem hb b hm
  obtain ⟨x0, hx0⟩ := spans_some hbo
  refine ⟨?_, ?_, fun p hp => ⟨?_, ?_⟩⟩
  · refine Classical.byContradiction fun hn => ?_
    have h := fun x => hg.2 x b.y hn
    simp only [inL_rectsOf] at h
    obtain ⟨c, hc, k1, k2, k3⟩ := (h x0).2 ((inB_at hb b hm b.y (Int.le_refl _) hbo.1 x0).2 hx0)
    have hce : c.e = b.y := by
      rcases Int.lt_trichotomy c.e b.y with q | q | q
      · omega
      · exact q
      · have e1 := inB_at hb c hc b.y (by omega) q
       
        have e2 := inB_at hb c hc (b.y - 1) k1 k2
        exfalso
        have : ∀ {bs : List Band}, bandsOk bs → ∀ b ∈ bs, ∀ c ∈ bs, c.y ≤ b.y - 1 → b.y < c.e → False := by
          intro bs
          induction bs with
          | nil => intro _ b h; cases h
          | cons d bs ih =>
            intro hh b hb c hc g1 g2
            have hf := bands_from hh
            rcases List.mem_cons.1 hb with rfl | hb'
            · rcases List.mem_cons.1 hc with rfl | hc
              · omega
              · have := hf c hc; have := hh.1.1; omega
            · skip
              rcases List.mem_cons.1 hc with rfl | hc
              · have := hf b hb'; omega
              · exact ih hh.2.2 b hb' c hc g1 g2
        exact this hb b hm c hc k1 q
    have hco := bandsOk_mem hb c hc
    refine bands_end hb c hc hbo.2.2 (fun x => by rw [hce]; exact inB_at hb b hm b.y (Int.le_refl _) hbo.1 x) ?_
    refine spans_uniq hbo.2.2 hco.2.2 fun x => ?_
    rw [← inB_at hb b hm b.y (Int.le_refl _) hbo.1 x, ← h x, inB_at hb c hc (b.y - 1) k1 k2 x]
  · refine Classical.byContradiction fun hn => ?_
    have h := fun x => hg.2 x b.e hn
    simp only [inL_rectsOf] at h
    exact bands_end hb b hm hbo.2.2 (fun x => by rw [← h x]; exact inB_at hb b hm (b.e - 1) (by have := hbo.1; omega) (by omega) x) rfl
  · refine Classical.byContradiction fun hn => ?_
    have h := hg.1 p.1 b.y hn
    simp only [inL_rectsOf, inB_at hb b hm b.y (Int.le_refl _) hbo.1] at h
    exact (spans_ends hbo.2.2 p hp).1 (h.2 ⟨p, hp, Int.le_refl _, (spansOk_mem hbo.2.2 p hp).2⟩)
  · refine Classical.byContradiction fun hn => ?_
    have h := hg.1 p.2 b.y hn
    simp only [inL_rectsOf, inB_at hb b hm b.y (Int.le_refl _) hbo.1] at h
    have := (spansOk_mem hbo.2.2 p hp).2
    exact (spans_ends hbo.2.2 p hp).2 (h.1 ⟨p, hp, by omega, by omega⟩)
theorem rise_len : ∀ (l xs : List Int), l.Pairwise (· < ·) → (∀ v ∈ l, v ∈ xs) → l.length ≤ xs.length
  | [], _, _, _ => by simp
  | v :: t, xs, h, hm => by
    have hv := hm v List.mem_cons_self
    rw [List.pairwise_cons] at h
    have := rise_len t (xs.erase v) h.2 fun u hu => (List.mem_erase_of_ne (by have := h.1 u hu; omega)).2 (hm u (List.mem_cons_of_mem _ hu))
    rw [List.length_erase_of_mem hv] at this
    have := List.length_pos_of_mem hv
    simp only [List.length_cons]; omega
theorem spans_rise : ∀ {s : List Span} {lo : Int}, spansOk lo s → (s.map (·.1)).Pairwise (· < ·)
  | [], _, _ => List.Pairwise.nil
  | p :: s, lo, ⟨h1, h2, h3⟩ => by
    rw [List.map_cons, List.pairwise_cons]
    refine ⟨fun v hv => ?_, spans_rise h3⟩
    obtain ⟨q, hq, rfl⟩ := List.mem_map.1 hv
    have := spansOk_mem h3 q hq
    omega
theorem bands_rise : ∀ {bs : List Band}, bandsOk bs → (bs.map (·.y)).Pairwise (· < ·)
  | [], _ => List.Pairwise.nil
  | b :: bs, h => by
    rw [List.map_cons, List.pairwise_cons]
    refine ⟨fun v hv => ?_, bands_rise h.2.2⟩
    obtain ⟨c, hc, rfl⟩ := List.mem_map.1 hv
    have := bands_from h c hc
    have := h.1.1
    omega
theorem band_len {bs : List Band} (hb : bandsOk bs) {xs ys : List Int} (hg : Gr (rectsOf bs) xs ys) {b : Band} (h : b ∈ bs) : b.rects.length ≤ xs.length := by
  have k := rise_len (b.s.map (·.1)) xs (spans_rise (bandsOk_mem hb b h).2.2) fun v hv => by
    obtain ⟨p, hp, rfl⟩ := List.mem_map.1 hv
    exact ((canon_lines hb hg b h).2.2 p hp).1
  unfold Band.rects
  rw [List.length_map] at k ⊢
  exact k
theorem flat_len : ∀ (bs : List Band) (m : Nat), (∀ b ∈ bs, b.rects.length ≤ m) → (rectsOf bs).length ≤ bs.length * m
  | [], m, _ => by simp [rectsOf]
  | b :: bs, m, h => by
    have h1 := h b List.mem_cons_self
    have h2 := flat_len bs m fun c hc => h c (List.mem_cons_of_mem _ hc)
    rw [show rectsOf (b :: bs) = b.rects ++ rectsOf bs from rfl, List.length_append, List.length_cons, Nat.add_mul]
    omega
theorem canon_len {c : List Rect} (hc : Canon c) {xs ys : List Int} (hg : Gr c xs ys) : c.length ≤ ys.length * xs.length := by
  obtain ⟨bs, hb, rfl⟩ := hc
  have h1 := flat_len bs xs.length fun b h => band_len hb hg h
  have h2 := rise_len (bs.map (·.y)) ys (bands_rise hb) fun v hv => by
    obtain ⟨b, hbm, rfl⟩ := List.mem_map.1 hv
    exact (canon_lines hb hg b hbm).1
  rw [List.length_map] at h2
  exact Nat.le_trans h1 (Nat.mul_le_mul_right _ h2)
theorem rowT_few {c : List Rect} (hc : Canon c) {xs ys : List Int} (hg : Gr c xs ys) (y : Int) : (rowT y c).length ≤ xs.length := by
  obtain ⟨bs, hb, rfl⟩ := hc
  rcases rowT_bands y hb with ⟨b, h1, h2, h3, h4, -⟩ | ⟨h, -⟩
  · rw [h4]; exact band_len hb hg h1
  · rw [h]; simp
theorem canon_y {c : List Rect} (hc : Canon c) {xs ys : List Int} (hg : Gr c xs ys) {r : Rect} (h : r ∈ c) : r.Y ∈ ys ∧ r.Y + r.H ∈ ys := by
  obtain ⟨bs, hb, rfl⟩ := hc
  obtain ⟨b, h1, h2⟩ := mem_rects.1 h
  have := rect_band h2
  have k := canon_lines hb hg b h1
  rw [this.2, this.1]
  exact ⟨k.1, k.2.1⟩
theorem ysJ_few {a b : List Rect} (ha : Canon a) (hb : Canon b) {xs ys xs' ys' : List Int} (hga : Gr a xs ys) (hgb : Gr b xs' ys') : (ysJ a b).length ≤ ys.length + ys'.length := by
  rw [← List.length_append]
  refine rise_len _ _ ?_ fun v hv => ?_
  · rw [List.pairwise_iff_getElem]
    intro i j hi hj hij
    have hj2 : j < (cutsOf fY [a, b].flatten).length := hj
    have := cuts_lt fY [a, b].flatten hij hj2
    rw [getElem!_pos _ i (by omega), getElem!_pos _ j hj2] at this
    exact this
  · unfold ysJ at hv
    rw [fl2] at hv
    obtain ⟨r, hr, hv⟩ := cuts_mem.1 hv
    rcases List.mem_append.1 hr with hr | hr
    · have := canon_y ha hga hr
      refine List.mem_append.2 (.inl ?_)
      rcases hv with rfl | rfl
      · exact this.1
      · exact this.2
    · have := canon_y hb hgb hr
      refine List.mem_append.2 (.inr ?_)
      rcases hv with rfl | rfl
      · exact this.1
      · exact this.2
structure Reg (n : Nat) (c : List Rect) : Prop where
  canon : Canon c
  ok : ∀ r ∈ c, rok r
  few : ∃ xs ys, xs.length ≤ n ∧ ys.length ≤ n ∧ Gr c xs ys
theorem Reg.mono {n m : Nat} {c : List Rect} (h : Reg n c) (k : n ≤ m) : Reg m c := ⟨h.1, h.2, let ⟨xs, ys, h1, h2, h3⟩ := h.3; ⟨xs, ys, by omega, by omega, h3⟩⟩
theorem Reg.len {n : Nat} {c : List Rect} (h : Reg n c) : c.length ≤ n * n := by
  obtain ⟨xs, ys, h1, h2, h3⟩ := h.3
  exact Nat.le_trans (canon_len h.1 h3) (Nat.mul_le_mul h2 h1)
theorem Reg.row {n : Nat} {c : List Rect} (h : Reg n c) (y : Int) : (rowT y c).length ≤ n := by
  obtain ⟨xs, ys, h1, h2, h3⟩ := h.3
  exact Nat.le_trans (rowT_few h.1 h3 y) h1
theorem Reg.ys {n m : Nat} {a b : List Rect} (h : Reg n a) (k : Reg m b) : (ysJ a b).length ≤ n + m := by
  obtain ⟨xs, ys, h1, h2, h3⟩ := h.3
  obtain ⟨xs', ys', k1, k2, k3⟩ := k.3
  have := ysJ_few h.1 k.1 h3 k3
  omega
theorem gr_congr {a b : List Rect} {xs ys : List Int} (h : Gr a xs ys) (k : ∀ x z, inL b x z ↔ inL a x z) : Gr b xs ys := ⟨fun x y hx => by rw [k, k]; exact h.1 x y hx, fun x y hx => by rw [k, k]; exact h.2 x y hx⟩
theorem Reg.of (l : List Rect) : Reg (2 * l.length) (bandOf l) := ⟨bandOf_canon l, bandOf_rok l, by
  obtain ⟨xs, ys, h1, h2, h3⟩ := gr_list (l.filter countsB)
  have := List.length_filter_le countsB l
  exact ⟨xs, ys, by omega, by omega, gr_congr h3 (bandOf_in l)⟩⟩
theorem Reg.nil : Reg 0 [] := ⟨canon_nil, by simp, [], [], by simp, by simp, fun x y _ => ⟨fun h => absurd h inL_nil, fun h => absurd h inL_nil⟩, fun x y _ => ⟨fun h => absurd h inL_nil, fun h => absurd h inL_nil⟩⟩
theorem outJ_lenM (k : Bool → Bool → Bool) (a b : List Rect) (m : Nat) (hm : ∀ y, (rowT y a).length + (rowT y b).length ≤ m) : ∀ n, (outJ k a b n).length ≤ n * (2 * m)
  | 0 => by simp [outJ]
  | n + 1 => by
    rw [outJ_succ, List.length_append, Nat.add_mul]
    have h1 := outJ_lenM k a b m hm n
    have h2 := rowJ_len k (ysJ a b)[n]! ((ysJ a b)[n + 1]! - (ysJ a b)[n]!) (rowT (ysJ a b)[n]! a) (rowT (ysJ a b)[n]! b) ((xsJ (rowT (ysJ a b)[n]! a) (rowT (ysJ a b)[n]! b)).length - 1)
    have h3 := xsJ_len (rowT (ysJ a b)[n]! a) (rowT (ysJ a b)[n]! b)
    have h4 := hm (ysJ a b)[n]!
    omega
end
section
open Classical in
noncomputable def paintL (w : Nat) (V : Int → Int → Prop) (f : Int → Int → Int → Int) (px : List Int) : List Int :=
  (List.range px.length).map fun i => if V (i % w : Nat) (i / w : Nat) then f (i % w : Nat) (i / w : Nat) px[i]! else px[i]!
theorem paintL_len (w : Nat) (V : Int → Int → Prop) (f : Int → Int → Int → Int) (px : List Int) : (paintL w V f px).length = px.length := by unfold paintL; rw [List.length_map, List.length_range]
theorem place_at {w : Nat} {x y : Int} (hx : 0 ≤ x ∧ x < w) (hy : 0 ≤ y) : ((y * w + x).toNat % w : Nat) = x.toNat ∧ ((y * w + x).toNat / w : Nat) = y.toNat := by
  obtain ⟨a, rfl⟩ := Int.eq_ofNat_of_zero_le hx.1
  obtain ⟨b, rfl⟩ := Int.eq_ofNat_of_zero_le hy
  have h : a < w := by omega
  rw [show ((b : Int) * w + a).toNat = b * w + a from by rw [show ((b : Int) * w + a) = ((b * w + a : Nat) : Int) from by simp]; rfl]
  simp only [Int.toNat_natCast]
  constructor
  · rw [Nat.mul_comm, Nat.mul_add_mod, Nat.mod_eq_of_lt h]
  · rw [Nat.mul_comm, Nat.mul_add_div (by omega), Nat.div_eq_of_lt h, Nat.add_zero]
open Classical in
theorem paintL_get {w : Nat} {V : Int → Int → Prop} {f : Int → Int → Int → Int} {px : List Int} {i : Nat} (h : i < px.length) : (paintL w V f px)[i]! = if V (i % w : Nat) (i / w : Nat) then f (i % w : Nat) (i / w : Nat) px[i]! else px[i]! := by
  rw [getElem!_pos (paintL w V f px) i (by rw [paintL_len]; exact h)]
  unfold paintL
  rw [List.getElem_map, List.getElem_range]
open Classical in
theorem paintL_at {w : Nat} {V : Int → Int → Prop} {f : Int → Int → Int → Int} {px : List Int} {x y : Int} (hx : 0 ≤ x ∧ x < w) (hy : 0 ≤ y) (h : (y * w + x).toNat < px.length) :
    (paintL w V f px)[(y * w + x).toNat]! = if V x y then f x y px[(y * w + x).toNat]! else px[(y * w + x).toNat]! := by
  obtain ⟨e1, e2⟩ := place_at hx hy
  rw [paintL_get h, e1, e2, Int.toNat_of_nonneg hx.1, Int.toNat_of_nonneg hy]
theorem paintL_not {w : Nat} {V : Int → Int → Prop} {f : Int → Int → Int → Int} {px : List Int} {x y : Int} (hx : 0 ≤ x ∧ x < w) (hy : 0 ≤ y) (h : (y * w + x).toNat < px.length) (hV : ¬ V x y) :
    (paintL w V f px)[(y * w + x).toNat]! = px[(y * w + x).toNat]! := by rw [paintL_at hx hy h, if_neg hV]
theorem paintL_yes {w : Nat} {V : Int → Int → Prop} {f : Int → Int → Int → Int} {px : List Int} {x y : Int} (hx : 0 ≤ x ∧ x < w) (hy : 0 ≤ y) (h : (y * w + x).toNat < px.length) (hV : V x y) :
    (paintL w V f px)[(y * w + x).toNat]! = f x y px[(y * w + x).toNat]! := by rw [paintL_at hx hy h, if_pos hV]
theorem listI_ext {a b : List Int} (h : a.length = b.length) (k : ∀ i, i < a.length → a[i]! = b[i]!) : a = b := by
  refine List.ext_getElem h fun i h1 h2 => ?_
  have := k i h1
  rw [getElem!_pos a i h1, getElem!_pos b i h2] at this
  exact this
theorem place_of {w i : Nat} {n : Nat} (hw : 0 < w) (h : i < n) : 0 ≤ ((i % w : Nat) : Int) ∧ ((i % w : Nat) : Int) < w ∧ 0 ≤ ((i / w : Nat) : Int) ∧ (((i / w : Nat) : Int) * w + ((i % w : Nat) : Int)).toNat = i := by
  have := Nat.mod_lt i hw
  refine ⟨Int.natCast_nonneg _, Int.ofNat_lt.2 this, Int.natCast_nonneg _, ?_⟩
  rw [show (((i / w : Nat) : Int) * w + ((i % w : Nat) : Int)) = ((i / w * w + i % w : Nat) : Int) from by simp, Int.toNat_natCast, Nat.mul_comm, Nat.div_add_mod]
theorem px_ext {w h : Nat} {a b : List Int} (ha : a.length = w * h) (hb : b.length = w * h) (k : ∀ x y : Int, 0 ≤ x → x < w → 0 ≤ y → y < h → a[(y * w + x).toNat]! = b[(y * w + x).toNat]!) : a = b := by
  refine listI_ext (by omega) fun i hi => ?_
  have hw : 0 < w := by rcases Nat.eq_zero_or_pos w with h | h; rw [h, Nat.zero_mul] at ha; omega; exact h
  obtain ⟨h1, h2, h3, h4⟩ := place_of hw hi
  have h5 : i / w < h := Nat.div_lt_of_lt_mul (by omega)
  have := k _ _ h1 h2 h3 (by omega)
  rw [h4] at this
  exact this
theorem place_lt {w h : Nat} {x y : Int} (hx : 0 ≤ x) (hx2 : x < w) (hy : 0 ≤ y) (hy2 : y < h) : (y * w + x).toNat < w * h ∧ 0 ≤ y * w + x := by
  obtain ⟨a, rfl⟩ := Int.eq_ofNat_of_zero_le hx
  obtain ⟨b, rfl⟩ := Int.eq_ofNat_of_zero_le hy
  have h1 : a < w := by omega
  have h2 : b + 1 ≤ h := by omega
  rw [show ((b : Int) * w + a) = ((b * w + a : Nat) : Int) from by simp, Int.toNat_natCast]
  have := Nat.mul_le_mul_right w h2
  rw [Nat.add_mul, Nat.one_mul] at this
  rw [Nat.mul_comm w h]
  omega
theorem place_ne {w : Nat} {x y a b : Int} (hx : 0 ≤ x ∧ x < w) (hy : 0 ≤ y) (ha : 0 ≤ a ∧ a < w) (hb : 0 ≤ b) (h : (y * w + x).toNat = (b * w + a).toNat) : a = x ∧ b = y := by
  obtain ⟨e1, e2⟩ := place_at hx hy
  obtain ⟨e3, e4⟩ := place_at ha hb
  rw [h] at e1 e2
  omega
theorem paint_put {w h : Nat} {V : Int → Int → Prop} {f : Int → Int → Int → Int} {px : List Int} {x y v : Int} (hl : px.length = w * h) (hx : 0 ≤ x) (hx2 : x < w) (hy : 0 ≤ y) (hy2 : y < h) (hv : v = f x y px[(y * w + x).toNat]!) {V' : Int → Int → Prop} (hV : ∀ a b : Int, 0 ≤ a → a < w → 0 ≤ b → b < h → (V' a b ↔ V a b ∨ (a = x ∧ b = y))) :
    (paintL w V f px).set (y * w + x).toNat v = paintL w V' f px := by
  have hp := (place_lt hx hx2 hy hy2).1
  refine px_ext (h := h) (by rw [List.length_set, paintL_len, hl]) (by rw [paintL_len, hl]) fun a b ha ha2 hb hb2 => ?_
  have hq := (place_lt ha ha2 hb hb2).1
  rw [getElem!_pos _ _ (by rw [List.length_set, paintL_len]; omega), List.getElem_set]
  split
  · rename_i e
    obtain ⟨rfl, rfl⟩ := place_ne ⟨hx, hx2⟩ hy ⟨ha, ha2⟩ hb e
    rw [paintL_yes ⟨ha, ha2⟩ hb (by omega) ((hV a b ha ha2 hb hb2).2 (.inr ⟨rfl, rfl⟩)), hv]
  · rename_i e
    rw [← getElem!_pos (paintL w V f px) _ (by rw [paintL_len]; omega)]
    rw [paintL_at ⟨ha, ha2⟩ hb (by omega), paintL_at ⟨ha, ha2⟩ hb (by omega)]
    have : V' a b ↔ V a b := by
      rw [hV a b ha ha2 hb hb2]
      constructor
      · rintro (k | ⟨rfl, rfl⟩)
        · exact k
        · exact absurd rfl e
      · exact .inl
    by_cases hc : V a b
    · rw [if_pos hc, if_pos (this.2 hc)]
    · rw [if_neg hc, if_neg (fun q => hc (this.1 q))]
theorem paint_congr {w h : Nat} {V V' : Int → Int → Prop} {f g : Int → Int → Int → Int} {px : List Int} (hl : px.length = w * h) (hV : ∀ a b : Int, 0 ≤ a → a < w → 0 ≤ b → b < h → (V' a b ↔ V a b)) (hf : ∀ a b : Int, 0 ≤ a → a < w → 0 ≤ b → b < h → V a b → g a b px[(b * w + a).toNat]! = f a b px[(b * w + a).toNat]!) : paintL w V f px = paintL w V' g px := by
  refine px_ext (h := h) (by rw [paintL_len, hl]) (by rw [paintL_len, hl]) fun a b ha ha2 hb hb2 => ?_
  have hq := (place_lt ha ha2 hb hb2).1
  rw [paintL_at ⟨ha, ha2⟩ hb (by omega), paintL_at ⟨ha, ha2⟩ hb (by omega)]
  have := hV a b ha ha2 hb hb2
  by_cases hc : V a b
  · rw [if_pos hc, if_pos (this.2 hc)]; exact (hf a b ha ha2 hb hb2 hc).symm
  · rw [if_neg hc, if_neg (fun q => hc (this.1 q))]
theorem paint_none {w h : Nat} {V : Int → Int → Prop} {f : Int → Int → Int → Int} {px : List Int} (hl : px.length = w * h) (hV : ∀ a b : Int, 0 ≤ a → a < w → 0 ≤ b → b < h → ¬ V a b) : paintL w V f px = px := by
  refine px_ext (h := h) (by rw [paintL_len, hl]) hl fun a b ha ha2 hb hb2 => ?_
  have hq := (place_lt ha ha2 hb hb2).1
  exact paintL_not ⟨ha, ha2⟩ hb (by omega) (hV a b ha ha2 hb hb2)
theorem inL_take {l : List Rect} {k : Nat} (hk : k < l.length) {x y : Int} : inL (l.take (k + 1)) x y ↔ inL (l.take k) x y ∨ l[k]!.has x y := by
  rw [List.take_succ_eq_append_getElem hk, inL_append, getElem!_pos l k hk, inL_cons]
  constructor
  · rintro (h | h | h)
    · exact .inl h
    · exact .inr h
    · exact absurd h inL_nil
  · rintro (h | h)
    · exact .inl h
    · exact .inr (.inl h)
end
section
open Go.RowKit Go.Sort
set_option maxRecDepth 10000
abbrev gT (w h : Nat) (px : List Int) : T := .agg [I64 w, I64 h, .islc (encL cU px) px.length none]
def flF (p : Int) : Int → Int → Int → Int := fun _ _ _ => p
def rowV (V : Int → Int → Prop) (y fr to : Int) (a b : Int) : Prop := V a b ∨ (b = y ∧ fr ≤ a ∧ a < to)
section
variable {q : Bool} {P : Program} {tab : Tab} {im : List Nat} {ds : List (Option Nat)} {l : List Oper} {E : Env} {H : Hp} {K : Env → Hp → Prop} {d : Nat} {ty : TypeId} {pos : String} {after : Array Edge}
theorem VX.max2 [Dr] {x y : Operand} {t1 t2 : TypeId} {a b : Int} (hx : E.opd x = some (I64 a)) (hy : E.opd y = some (I64 b)) (k : VX q P tab im ds l ((d, I64 (max a b)) :: E) H K) : VX q P tab im ds (⟨some d, .call ⟨.builtin .max, #[x, y], #[t1, t2]⟩, ty, pos, after, none⟩ :: l) E H K := by
  refine VX.meek (t := I64 (max a b)) ?_ k
  have e : (if b > a then b else a) = max a b := by rw [Int.max_def]; split <;> split <;> omega
  simp only [opM, optL, hx, hy, mMins, mMin, Bool.false_eq_true, if_false, e]
theorem VX.min2 [Dr] {x y : Operand} {t1 t2 : TypeId} {a b : Int} (hx : E.opd x = some (I64 a)) (hy : E.opd y = some (I64 b)) (k : VX q P tab im ds l ((d, I64 (min a b)) :: E) H K) : VX q P tab im ds (⟨some d, .call ⟨.builtin .min, #[x, y], #[t1, t2]⟩, ty, pos, after, none⟩ :: l) E H K := by
  refine VX.meek (t := I64 (min a b)) ?_ k
  have e : (if b < a then b else a) = min a b := by rw [Int.min_def]; split <;> split <;> omega
  simp only [opM, optL, hx, hy, mMins, mMin, if_true, e]
end
theorem cells_put {s : List Int} {m : Nat} {v : Int} (h : m < s.length) : putL (encL cU s) (m * 1) [U8 v] = encL cU (s.set m v) := by
  have := encL_put cU s m 0 s[m]! v [U8 v] (getE h) (Nat.le_refl _) rfl
  rw [cU_sz, Nat.add_zero] at this
  exact this
theorem cv_g {v : Vw} {w h : Nat} {a b : T} (k : Cv v a b) : CvL v [I64 w, I64 h, a] [I64 w, I64 h, b] := .cons (.pure rfl) (.cons (.pure rfl) (.cons k .nil))
theorem fill1_t [Dr] (w h : Nat) (px : List Int) (V : Int → Int → Prop) (p y fr to : Int) (c : Option Nat) (hw : w ≤ 128) (hh : h ≤ 128) (hl : px.length = w * h) (hy : 0 ≤ y) (hy2 : y < h) (hf : 0 ≤ fr) (hft : fr ≤ to) (ht : to ≤ w) :
    CallT Tryz.prog 60 [I64 y, I64 fr, I64 to, .iptr [U8 p] 0, .ptr 0 0] [.c [I64 w, I64 h, .slc 1 0 px.length 1 c], .c (encL cU (paintL w V (flF p) px))]
      (fun t H' => t = .tup [] ∧ H' = [.c [I64 w, I64 h, .slc 1 0 px.length 1 c], .c (encL cU (paintL w (rowV V y fr to) (flF p) px))]) := by
  refine CallT.intro tab_ok Tryz.func60 rfl (by kernel_rfl) (Nat.le_of_ble_eq_true rfl) ?_
  refine VC.reg tab_ok [] rfl ?_
  iterate 2 refine VX.meek rfl ?_
  refine VX.nil ?_
  refine VC.block ?_
  refine VC.loopS (σ := Nat) (fun k => (to - fr).toNat - k) (fun k => k ≤ (to - fr).toNat) (fun k => [(8, I64 (fr + k)), (4, .ptr 0 0)]) (fun k => [.c [I64 w, I64 h, .slc 1 0 px.length 1 c], .c (encL cU (paintL w (rowV V y fr (fr + k)) (flF p) px))]) [0, 2, 3] rfl (0) ?_ ?_ ?_
  · refine ⟨[some 0, some 1], rfl, by first | trivial | decide, rfl, ?_, ?_⟩ <;> (repeat' first | exact trivial | exact CvB_n | exact CvB_d | refine CvE_app ?_ ?_ | refine CvE_cons rfl ?_ ?_ | refine CvH_cons ?_ ?_ | refine CvB_c rfl ?_ | fail) <;> first | exact au_v | (first | exact cv_g (Cv.slc rfl (.inl rfl)) | exact Cv.eq (congrArg I64 (by simp)) rfl | exact CvL.eq (congrArg (encL cU) (paint_congr hl (fun a b _ _ _ _ => by unfold rowV; constructor; (rintro (h | h); exact h; exfalso; omega); exact .inl) (fun _ _ _ _ _ _ _ => rfl))) (encL_pure cU _))
  · (try dsimp only); omega
  rintro k hk
  refine VC.seq ?_
  refine VC.reg tab_ok [] rfl ?_
  iterate 3 refine VX.meek rfl ?_
  refine VX.nil ?_
  refine VC.cond rfl (fun hc0 => ?_) (fun hc0 => ?_)
  · (try simp only [au_std] at hc0); have hin := in_place (x := fr + k) hw hh (by omega) (by omega) hy hy2; have hpl := paintL_len w (rowV V y fr (fr + k)) (flF p) px
    refine VC.skip ?_
    refine VC.seq ?_
    refine VC.block ?_
    refine VC.regN tab_ok [] rfl ?_
    refine VX.meek rfl ?_
    first | refine VX.meek rfl ?_ | refine VX.loadI rfl rfl au_l ?_ | refine VX.loadP rfl rfl rfl au_l ?_
    iterate 2 refine VX.meek rfl ?_
    first | refine VX.meek rfl ?_ | refine VX.loadI rfl rfl au_l ?_ | refine VX.loadP rfl rfl rfl au_l ?_
    first | refine VX.mul rfl rfl (by omega) ?_ | refine VX.meek rfl ?_
    refine VX.meek rfl ?_
    first | refine VX.add rfl rfl (by omega) ?_ | refine VX.meek rfl ?_
    first | refine VX.meek rfl ?_ | refine VX.loadI rfl rfl au_l ?_ | refine VX.loadP rfl rfl rfl au_l ?_
    first | refine VX.idxI rfl rfl rfl rfl rfl rfl (by omega) ?_ | refine VX.idxO0 rfl rfl rfl rfl rfl rfl rfl (by omega) ?_ | refine VX.idxO0 rfl rfl rfl rfl rfl rfl au_z (by omega) ?_ | refine VX.idxO rfl rfl rfl rfl rfl rfl rfl (by omega) ?_ | refine VX.idxI rfl rfl rfl rfl rfl au_z (by omega) ?_ | refine VX.idxO rfl rfl rfl rfl rfl rfl au_z (by omega) ?_ | refine VX.meek rfl ?_
    refine VX.store rfl rfl rfl rfl rfl (by rw [encL_len, cU_sz]; dsimp only; omega) rfl ?_
    refine VX.nil ?_
    refine VC.regN tab_ok [] rfl ?_
    refine VX.meek rfl ?_
    first | refine VX.add rfl rfl (by omega) ?_ | refine VX.meek rfl ?_
    refine VX.meek rfl ?_
    refine VX.nil ?_
    refine ⟨k + 1, by (try dsimp only); omega, ?_, (by refine ⟨[some 0, some 1], rfl, by first | trivial | decide, rfl, ?_, ?_⟩ <;> (repeat' first | exact trivial | exact CvB_n | exact CvB_d | refine CvE_app ?_ ?_ | refine CvE_cons rfl ?_ ?_ | refine CvH_cons ?_ ?_ | refine CvB_c rfl ?_ | fail) <;> first | exact au_v | (first | exact cv_g (Cv.slc rfl (.inl rfl)) | exact Cv.eq (congrArg I64 (by omega)) rfl | exact CvL.eq ((cells_put (by omega)).trans (congrArg (encL cU) (paint_put hl (by omega) (by omega) hy hy2 rfl (fun a b _ _ _ _ => by unfold rowV; by_cases hV : V a b; simp [hV]; simp only [hV, false_or, iff_false]; omega)))) (encL_pure cU _)))⟩
    (try dsimp only); omega
  · (try simp only [au_std] at hc0); have e : fr + k = to := (by omega); rw [e]
    refine VC.exit ?_
    exact ⟨trivial, _, rfl, rfl, rfl⟩
theorem gspans_t [Dr] (w h : Nat) (px : List Int) (l : List Rect) (p : Int) (c : Option Nat) (hw : w ≤ 128) (hh : h ≤ 128) (hl : px.length = w * h) (hr : ∀ r ∈ l, rok r) (hn : l.length ≤ 1048576) :
    CallT Tryz.prog 59 [.agg [I64 w, I64 h, .slc 1 0 px.length 1 c], regT l, .clo 60 [] [.iptr [U8 p] 0, .ptr 0 0]] [.c [I64 w, I64 h, .slc 1 0 px.length 1 c], .c (encL cU px)]
      (fun t H' => t = .tup [] ∧ H' = [.c [I64 w, I64 h, .slc 1 0 px.length 1 c], .c (encL cU (paintL w (inL l) (flF p) px))]) := by
  refine CallT.intro tab_ok Tryz.func59 rfl (by kernel_rfl) (Nat.le_of_ble_eq_true rfl) ?_
  refine VC.reg tab_ok [3, 4] rfl ?_
  refine VX.newI rfl rfl ?_
  refine VX.newI rfl rfl ?_
  refine VX.nil ?_
  refine VC.scope ?_
  refine VC.seq ?_
  refine VC.label ?_
  refine VC.reg tab_ok [] rfl ?_
  first | refine VX.meek rfl ?_ | refine VX.loadI rfl rfl au_l ?_ | refine VX.loadP rfl rfl rfl au_l ?_
  refine VX.callP0 rfl rfl rfl (rects_p l hn) ?_
  iterate 2 refine VX.meek rfl ?_
  refine VX.nil ?_
  refine VC.block ?_
  refine VC.loopS (σ := Nat) (fun k => l.length - k) (fun k => k ≤ l.length) (fun k => [(14, I64 k), (2, .clo 60 [] [.iptr [U8 p] 0, .ptr 0 0]), (3, .iptr [I64 w, I64 h, .slc 1 0 px.length 1 none] 0)]) (fun k => [.c [I64 w, I64 h, .slc 1 0 px.length 1 c], .c (encL cU (paintL w (inL (l.take k)) (flF p) px))]) [12, 13] rfl (0) ?_ ?_ ?_
  · refine ⟨[some 0, some 1], rfl, by first | trivial | decide, rfl, ?_, ?_⟩ <;> (repeat' first | exact trivial | exact CvB_n | exact CvB_d | refine CvE_app ?_ ?_ | refine CvE_cons rfl ?_ ?_ | refine CvH_cons ?_ ?_ | refine CvB_c rfl ?_ | fail) <;> first | exact au_v | (first | exact cv_g (Cv.slc rfl (.inl rfl)) | exact Cv.iptr (cv_g (Cv.slc rfl (.inr rfl))) | exact Cv.clo CvL.nil (CvL.cons (Cv.pure rfl) (CvL.cons (Cv.ptr rfl) CvL.nil)) | exact CvL.eq (congrArg (encL cU) (paint_none hl (fun a b _ _ _ _ => by rw [List.take_zero]; exact inL_nil)).symm) (encL_pure cU _))
  · (try dsimp only); omega
  rintro k hk
  refine VC.reg tab_ok [] rfl ?_
  refine VX.meek rfl ?_
  refine VX.nil ?_
  refine VC.seq ?_
  refine VC.cond rfl (fun hc0 => ?_) (fun hc0 => ?_)
  · (try simp only [au_std] at hc0); have hkl : k < l.length := (by omega); have hrk := hr l[k]! (List.mem_iff_getElem?.2 ⟨k, getE hkl⟩); unfold rok at hrk
    refine VC.skip ?_
    refine VC.seq ?_
    refine VC.block ?_
    refine VC.reg tab_ok [] rfl ?_
    first | refine VX.idxI rfl rfl rfl rfl rfl rfl (by omega) ?_ | refine VX.idxO0 rfl rfl rfl rfl rfl rfl rfl (by omega) ?_ | refine VX.idxO0 rfl rfl rfl rfl rfl rfl au_z (by omega) ?_ | refine VX.idxO rfl rfl rfl rfl rfl rfl rfl (by omega) ?_ | refine VX.idxI rfl rfl rfl rfl rfl au_z (by omega) ?_ | refine VX.idxO rfl rfl rfl rfl rfl rfl au_z (by omega) ?_ | refine VX.meek rfl ?_
    first | refine VX.meek rfl ?_ | refine VX.loadI rfl rfl au_l ?_ | refine VX.loadP rfl rfl rfl au_l ?_
    refine VX.new rfl rfl ?_
    refine VX.store rfl rfl rfl rfl rfl au_sR rfl ?_
    refine VX.nil ?_
    refine VC.drw tab_ok [] [_, _, _, _, _, _, _, _, _, _, _, _, _] rfl (by kernel_rfl) (by kernel_rfl) ?_
    refine VX.meek rfl ?_
    first | refine VX.meek rfl ?_ | refine VX.loadI rfl rfl au_l ?_ | refine VX.loadP rfl rfl rfl au_l ?_
    refine VX.max2 rfl rfl ?_
    refine VX.meek rfl ?_
    first | refine VX.meek rfl ?_ | refine VX.loadI rfl rfl au_l ?_ | refine VX.loadP rfl rfl rfl au_l ?_
    refine VX.meek rfl ?_
    first | refine VX.meek rfl ?_ | refine VX.loadI rfl rfl au_l ?_ | refine VX.loadP rfl rfl rfl au_l ?_
    first | refine VX.add rfl rfl (by omega) ?_ | refine VX.meek rfl ?_
    refine VX.meek rfl ?_
    first | refine VX.meek rfl ?_ | refine VX.loadI rfl rfl au_l ?_ | refine VX.loadP rfl rfl rfl au_l ?_
    refine VX.min2 rfl rfl ?_
    iterate 2 refine VX.meek rfl ?_
    refine VX.nil ?_
    refine VX.nil ?_
    generalize hfr : max l[k]!.X 0 = fr; generalize hto : min (l[k]!.X + l[k]!.W) (w : Int) = to
    refine VC.seq ?_
    refine VC.reg tab_ok [] rfl ?_
    iterate 3 refine VX.meek rfl ?_
    refine VX.nil ?_
    refine VC.cond rfl (fun hc1 => ?_) (fun hc1 => ?_)
    · (try simp only [au_std] at hc1)
      refine VC.exit ?_
      refine VC.regN tab_ok [] rfl ?_
      first | refine VX.add rfl rfl (by omega) ?_ | refine VX.meek rfl ?_
      refine VX.meek rfl ?_
      refine VX.nil ?_
      refine ⟨k + 1, by (try dsimp only); omega, ?_, (by refine ⟨[some 0, some 1], rfl, by first | trivial | decide, rfl, ?_, ?_⟩ <;> (repeat' first | exact trivial | exact CvB_n | exact CvB_d | refine CvE_app ?_ ?_ | refine CvE_cons rfl ?_ ?_ | refine CvH_cons ?_ ?_ | refine CvB_c rfl ?_ | fail) <;> first | exact au_v | (first | exact cv_g (Cv.slc rfl (.inl rfl)) | exact Cv.iptr (cv_g (Cv.slc rfl (.inr rfl))) | exact Cv.clo CvL.nil (CvL.cons (Cv.pure rfl) (CvL.cons (Cv.ptr rfl) CvL.nil)) | exact CvL.eq (congrArg (encL cU) (paint_congr hl (fun a b _ _ _ _ => by rw [inL_take hkl]; unfold Rect.has; by_cases hV : inL (l.take k) a b; simp [hV]; simp only [hV, false_or, iff_false]; omega) (fun _ _ _ _ _ _ _ => rfl))) (encL_pure cU _)))⟩
      (try dsimp only); omega
    · (try simp only [au_std] at hc1)
      refine VC.skip ?_
      refine VC.reg tab_ok [] rfl ?_
      refine VX.meek rfl ?_
      first | refine VX.meek rfl ?_ | refine VX.loadI rfl rfl au_l ?_ | refine VX.loadP rfl rfl rfl au_l ?_
      refine VX.max2 rfl rfl ?_
      refine VX.meek rfl ?_
      refine VX.nil ?_
      generalize hy0 : max l[k]!.Y 0 = y0
      refine VC.block ?_
      refine VC.loopS (σ := Nat) (fun j => (h - y0).toNat + 1 - j) (fun j => y0 + j ≤ h ∨ j = 0) (fun j => [(10, I64 (y0 + j)), (2, .clo 60 [] [.iptr [U8 p] 0, .ptr 0 0]), (3, .iptr [I64 w, I64 h, .slc 1 0 px.length 1 none] 0), (7, .ptr 2 0)]) (fun j => [.c [I64 w, I64 h, .slc 1 0 px.length 1 c], .c (encL cU (paintL w (fun a b => inL (l.take k) a b ∨ (l[k]!.has a b ∧ b < y0 + j)) (flF p) px)), .c [I64 l[k]!.X, I64 l[k]!.Y, I64 l[k]!.W, I64 l[k]!.H]]) [8, 9, 12, 13, 14] rfl (0) ?_ ?_ ?_
      · refine ⟨[some 0, some 1, some 2], rfl, by first | trivial | decide, rfl, ?_, ?_⟩ <;> (repeat' first | exact trivial | exact CvB_n | exact CvB_d | refine CvE_app ?_ ?_ | refine CvE_cons rfl ?_ ?_ | refine CvH_cons ?_ ?_ | refine CvB_c rfl ?_ | fail) <;> first | exact au_v | (first | exact cv_g (Cv.slc rfl (.inl rfl)) | exact Cv.iptr (cv_g (Cv.slc rfl (.inr rfl))) | exact Cv.clo CvL.nil (CvL.cons (Cv.pure rfl) (CvL.cons (Cv.ptr rfl) CvL.nil)) | exact Cv.eq (congrArg I64 (by simp)) rfl | exact CvL.eq (congrArg (encL cU) (paint_congr hl (fun a b _ _ _ _ => by unfold Rect.has; by_cases hV : inL (l.take k) a b; simp [hV]; simp only [hV, false_or, iff_false]; omega) (fun _ _ _ _ _ _ _ => rfl))) (encL_pure cU _))
      · (try dsimp only); omega
      rintro j hj
      refine VC.seq ?_
      refine VC.reg tab_ok [] rfl ?_
      iterate 2 refine VX.meek rfl ?_
      first | refine VX.meek rfl ?_ | refine VX.loadI rfl rfl au_l ?_ | refine VX.loadP rfl rfl rfl au_l ?_
      refine VX.meek rfl ?_
      first | refine VX.meek rfl ?_ | refine VX.loadI rfl rfl au_l ?_ | refine VX.loadP rfl rfl rfl au_l ?_
      first | refine VX.add rfl rfl (by omega) ?_ | refine VX.meek rfl ?_
      refine VX.meek rfl ?_
      refine VX.nil ?_
      refine VC.cond rfl (fun hc2 => ?_) (fun hc2 => ?_)
      · (try simp only [au_std] at hc2)
        refine VC.skip ?_
        refine VC.seq ?_
        refine VC.block ?_
        refine VC.seq ?_
        refine VC.reg tab_ok [] rfl ?_
        iterate 2 refine VX.meek rfl ?_
        first | refine VX.meek rfl ?_ | refine VX.loadI rfl rfl au_l ?_ | refine VX.loadP rfl rfl rfl au_l ?_
        refine VX.meek rfl ?_
        refine VX.nil ?_
        refine VC.cond rfl (fun hc3 => ?_) (fun hc3 => ?_)
        · (try simp only [au_std] at hc3)
          refine VC.exit ?_
          refine VC.regN tab_ok [] rfl ?_
          first | refine VX.add rfl rfl (by omega) ?_ | refine VX.meek rfl ?_
          refine VX.meek rfl ?_
          refine VX.nil ?_
          refine ⟨k + 1, by (try dsimp only); omega, ?_, (by refine ⟨[some 0, some 1], rfl, by first | trivial | decide, rfl, ?_, ?_⟩ <;> (repeat' first | exact trivial | exact CvB_n | exact CvB_d | refine CvE_app ?_ ?_ | refine CvE_cons rfl ?_ ?_ | refine CvH_cons ?_ ?_ | refine CvB_c rfl ?_ | fail) <;> first | exact au_v | (first | exact cv_g (Cv.slc rfl (.inl rfl)) | exact Cv.iptr (cv_g (Cv.slc rfl (.inr rfl))) | exact Cv.clo CvL.nil (CvL.cons (Cv.pure rfl) (CvL.cons (Cv.ptr rfl) CvL.nil)) | exact CvL.eq (congrArg (encL cU) (paint_congr hl (fun a b _ _ _ _ => by rw [inL_take hkl]; unfold Rect.has; by_cases hV : inL (l.take k) a b; simp [hV]; simp only [hV, false_or, iff_false]; omega) (fun _ _ _ _ _ _ _ => rfl))) (encL_pure cU _)))⟩
          (try dsimp only); omega
        · (try simp only [au_std] at hc3); have hft : fr < to := (by omega); have hrow : (paintL w (rowV (fun a b => inL (l.take k) a b ∨ (l[k]!.has a b ∧ b < y0 + j)) (y0 + j) fr to) (flF p) px) = paintL w (fun a b => inL (l.take k) a b ∨ (l[k]!.has a b ∧ b < y0 + (j + 1 : Nat))) (flF p) px := paint_congr hl (fun a b _ _ _ _ => by unfold rowV Rect.has; by_cases hV : inL (l.take k) a b; simp [hV]; simp only [hV, false_or, iff_false]; omega) (fun _ _ _ _ _ _ _ => rfl)
          refine VC.skip ?_
          refine VC.regN tab_ok [] rfl ?_
          iterate 4 refine VX.meek rfl ?_
          refine VX.callT rfl rfl (CallT.frame (fill1_t w h px (fun a b => inL (l.take k) a b ∨ (l[k]!.has a b ∧ b < y0 + j)) p (y0 + j) fr to c hw hh hl (by omega) (by omega) (by omega) (by omega) (by omega)) [0, 1] rfl au_ci au_ci ?_)
          rintro _ _ ⟨rfl, rfl⟩
          refine frK au_co au_co ?_
          refine VX.nil ?_
          refine VC.regN tab_ok [] rfl ?_
          refine VX.meek rfl ?_
          first | refine VX.add rfl rfl (by omega) ?_ | refine VX.meek rfl ?_
          refine VX.meek rfl ?_
          refine VX.nil ?_
          refine ⟨j + 1, by (try dsimp only); omega, ?_, (by refine ⟨[some 0, some 1, some 2], rfl, by first | trivial | decide, rfl, ?_, ?_⟩ <;> (repeat' first | exact trivial | exact CvB_n | exact CvB_d | refine CvE_app ?_ ?_ | refine CvE_cons rfl ?_ ?_ | refine CvH_cons ?_ ?_ | refine CvB_c rfl ?_ | fail) <;> first | exact au_v | (first | exact cv_g (Cv.slc rfl (.inl rfl)) | exact Cv.iptr (cv_g (Cv.slc rfl (.inr rfl))) | exact Cv.clo CvL.nil (CvL.cons (Cv.pure rfl) (CvL.cons (Cv.ptr rfl) CvL.nil)) | exact Cv.eq (congrArg I64 (by omega)) rfl | exact CvL.eq (congrArg (encL cU) hrow) (encL_pure cU _)))⟩
          (try dsimp only); omega
      · (try simp only [au_std] at hc2)
        refine VC.exit ?_
        refine VC.regN tab_ok [] rfl ?_
        first | refine VX.add rfl rfl (by omega) ?_ | refine VX.meek rfl ?_
        refine VX.meek rfl ?_
        refine VX.nil ?_
        refine ⟨k + 1, by (try dsimp only); omega, ?_, (by refine ⟨[some 0, some 1], rfl, by first | trivial | decide, rfl, ?_, ?_⟩ <;> (repeat' first | exact trivial | exact CvB_n | exact CvB_d | refine CvE_app ?_ ?_ | refine CvE_cons rfl ?_ ?_ | refine CvH_cons ?_ ?_ | refine CvB_c rfl ?_ | fail) <;> first | exact au_v | (first | exact cv_g (Cv.slc rfl (.inl rfl)) | exact Cv.iptr (cv_g (Cv.slc rfl (.inr rfl))) | exact Cv.clo CvL.nil (CvL.cons (Cv.pure rfl) (CvL.cons (Cv.ptr rfl) CvL.nil)) | exact CvL.eq (congrArg (encL cU) (paint_congr hl (fun a b _ _ _ _ => by rw [inL_take hkl]; unfold Rect.has; by_cases hV : inL (l.take k) a b; simp [hV]; simp only [hV, false_or, iff_false]; omega) (fun _ _ _ _ _ _ _ => rfl))) (encL_pure cU _)))⟩
        (try dsimp only); omega
  · (try simp only [au_std] at hc0); obtain rfl : k = l.length := (by omega); rw [List.take_length]
    refine VC.exit ?_
    exact ⟨trivial, _, rfl, rfl, rfl⟩
theorem fill_p [Dr] (w h : Nat) (px : List Int) (l : List Rect) (p : Int) (hw : w ≤ 128) (hh : h ≤ 128) (hl : px.length = w * h) (hb : ∀ v ∈ px, 0 ≤ v ∧ v < 256) (hr : ∀ r ∈ l, rok r) (hn : l.length ≤ 1048576) :
    CallP Tryz.prog 20 [gT w h px, regT l, U8 p] (gT w h (paintL w (inL l) (flF p) px)) := by
  have hpl := paintL_len w (inL l) (flF p) px
  refine CallP.intro2 au_pu au_pu ?_
  refine CallT.intro tab_ok Tryz.func20 rfl (by kernel_rfl) (Nat.le_of_ble_eq_true rfl) ?_
  refine VC.reg tab_ok [3, 4, 5] rfl ?_
  refine VX.newI rfl rfl ?_
  refine VX.newI rfl rfl ?_
  refine VX.newI rfl rfl ?_
  refine VX.new rfl rfl ?_
  refine VX.nil ?_
  refine VC.reg tab_ok [] rfl ?_
  first | refine VX.meek rfl ?_ | refine VX.loadI rfl rfl au_l ?_ | refine VX.loadP rfl rfl rfl au_l ?_
  refine VX.callT rfl rfl (CallT.frame (twin_t ⟨w, h, px⟩ ⟨hw, hh, hl, hb⟩) [] rfl au_ci au_ci ?_)
  rintro _ _ ⟨rfl, rfl⟩
  refine frK au_co au_co ?_
  refine VX.new rfl rfl ?_
  refine VX.store rfl rfl rfl rfl rfl au_sR rfl ?_
  refine VX.nil ?_
  refine VC.reg tab_ok [] rfl ?_
  first | refine VX.meek rfl ?_ | refine VX.loadI rfl rfl au_l ?_ | refine VX.loadP rfl rfl rfl au_l ?_
  first | refine VX.meek rfl ?_ | refine VX.loadI rfl rfl au_l ?_ | refine VX.loadP rfl rfl rfl au_l ?_
  refine VX.meek rfl ?_
  refine VX.callT rfl rfl (CallT.frame (gspans_t w h px l p (some px.length) hw hh hl hr hn) [3, 2] rfl au_ci au_ci ?_)
  rintro _ _ ⟨rfl, rfl⟩
  refine frK au_co au_co ?_
  refine VX.nil ?_
  refine VC.reg tab_ok [] rfl ?_
  first | refine VX.meek rfl ?_ | refine VX.loadI rfl rfl au_l ?_ | refine VX.loadP rfl rfl rfl au_l ?_
  refine VX.store rfl rfl rfl rfl rfl au_sR rfl ?_
  refine VX.nil ?_
  refine VC.ret ?_
  refine ⟨trivial, _, rfl, Cv.agg (CvL.cons (Cv.pure rfl) (CvL.cons (Cv.pure rfl) (CvL.cons (by rw [hpl]; exact Cv.fslc0 ⟨rfl, by simp⟩ (CvL.pure (encL_pure cU _))) CvL.nil)))⟩
end
section
open Go.RowKit Go.Sort
set_option maxRecDepth 10000
end
section
open Go.RowKit Go.Sort
set_option maxRecDepth 10000
set_option maxHeartbeats 4000000
def rowP (ys : List Int) (a : List Rect) : Nat → List Rect
  | 0 => a
  | i + 1 => rowD ys[i]! a
def rowPX (xs : List Int) (p : List Rect) : Nat → List Rect
  | 0 => p
  | j + 1 => rowX xs[j]! p
theorem rowP_row {f : Rect → Int × Int} {l a : List Rect} {i : Nat} (hi : i < (cutsOf f l).length) : rowD (cutsOf f l)[i]! (rowP (cutsOf f l) a i) = rowD (cutsOf f l)[i]! a := by
  cases i with
  | zero => rfl
  | succ i => exact rowD_mono (by have := cuts_lt f l (i := i) (j := i + 1) (Nat.lt_succ_self i) hi; omega) a
theorem rowPX_row {f : Rect → Int × Int} {l a : List Rect} {i : Nat} (hi : i < (cutsOf f l).length) : rowX (cutsOf f l)[i]! (rowPX (cutsOf f l) a i) = rowX (cutsOf f l)[i]! a := by
  cases i with
  | zero => rfl
  | succ i => exact rowX_mono (by have := cuts_lt f l (i := i) (j := i + 1) (Nat.lt_succ_self i) hi; omega) a
theorem rowP_sub {ys : List Int} {a : List Rect} {i : Nat} {r : Rect} (h : r ∈ rowP ys a i) : r ∈ a := by
  cases i with
  | zero => exact h
  | succ i => exact (List.dropWhile_sublist _).subset h
theorem rowP_len (ys : List Int) (a : List Rect) (i : Nat) : (rowP ys a i).length ≤ a.length := by
  cases i with
  | zero => exact Nat.le_refl _
  | succ i => exact (List.dropWhile_sublist _).length_le
theorem rowPX_sub {ys : List Int} {a : List Rect} {i : Nat} {r : Rect} (h : r ∈ rowPX ys a i) : r ∈ a := by
  cases i with
  | zero => exact h
  | succ i => exact (List.dropWhile_sublist _).subset h
theorem rowPX_len (ys : List Int) (a : List Rect) (i : Nat) : (rowPX ys a i).length ≤ a.length := by
  cases i with
  | zero => exact Nat.le_refl _
  | succ i => exact (List.dropWhile_sublist _).length_le
theorem rowW_at [Dr] (y : Int) (ys : List Int) (i : Nat) (a : List Rect) (hr : ∀ r ∈ a, rok r) (hn : a.length ≤ 1048576) (h : rowD y (rowP ys a i) = rowD y a) : CallT Tryz.prog 86 [.ptr 0 0, I64 y] [.c [.islc (encL cR (rowP ys a i)) (rowP ys a i).length none]]
    (fun t H' => t = .islc (encL cR (rowD y a)) (rowT y a).length none ∧ H' = [.c [.islc (encL cR (rowD y a)) (rowD y a).length none]]) := by
  have k := row_t y (rowP ys a i) (fun r hq => hr r (rowP_sub hq)) (Nat.le_trans (rowP_len ys a i) hn)
  have e : rowT y (rowP ys a i) = rowT y a := by unfold rowT; rw [h]
  rw [h, e] at k; exact k
theorem acrW_at [Dr] (x : Int) (xs : List Int) (j : Nat) (p : List Rect) (hr : ∀ r ∈ p, rok r) (hn : p.length ≤ 1048576) (h : rowX x (rowPX xs p j) = rowX x p) : CallT Tryz.prog 88 [.ptr 0 0, I64 x] [.c [.islc (encL cR (rowPX xs p j)) (rowPX xs p j).length none]]
    (fun t H' => t = BL (acrB x p) ∧ H' = [.c [.islc (encL cR (rowX x p)) (rowX x p).length none]]) := by
  have k := across_t x (rowPX xs p j) (fun r hq => hr r (rowPX_sub hq)) (Nat.le_trans (rowPX_len xs p j) hn)
  have e : acrB x (rowPX xs p j) = acrB x p := by unfold acrB; rw [h]
  rw [h, e] at k; exact k
theorem islc_row {v : Vw} (y : Int) (a : List Rect) (n : Nat) : Cv v (.islc (encL cR (rowD y a)) n none) (.islc (encL cR (rowT y a)) n none) := by
  have e : rowD y a = rowT y a ++ (rowD y a).dropWhile (fun r => decide (r.Y ≤ y)) := by unfold rowT; rw [List.takeWhile_append_dropWhile]
  rw [e, encL_append]
  exact .islcT (CvL.pure (encL_pure cR _)) (.inl rfl)
theorem join_p [Dr] (k : Bool → Bool → Bool) (g : FuncId) (hg : ∀ x y, CallP Tryz.prog g [BL x, BL y] (BL (k x y))) (hk : k false false = false) (a b c : List Rect) (ha : Canon a) (hb : Canon b) (har : ∀ r ∈ a, rok r) (hbr : ∀ r ∈ b, rok r) (m : Nat) (hrow : ∀ y, (rowT y a).length + (rowT y b).length ≤ m) (hm : m ≤ 500) (hys : (ysJ a b).length ≤ 500) (hab : a.length + b.length ≤ 500000) (hc : Canon c) (hi : ∀ x z, inL c x z ↔ k (decide (inL a x z)) (decide (inL b x z)) = true) :
    CallP Tryz.prog 58 [.agg [.clo g [] []], regT a, regT b] (regT c) := by
  have hys := ysJ_len a b
  have hye := join_eq hk ha hb har hbr hc hi
  have hfr := fl_rok har hbr
  have hfl : [a, b].flatten.length = a.length + b.length := by rw [fl2, List.length_append]
  refine CallP.intro2 au_pu au_pu ?_
  refine CallT.intro tab_ok Tryz.func58 rfl (by kernel_rfl) (Nat.le_of_ble_eq_true rfl) ?_
  refine VC.reg tab_ok [3, 4, 5] rfl ?_
  refine VX.newI rfl rfl ?_
  refine VX.newI rfl rfl ?_
  refine VX.newI rfl rfl ?_
  refine VX.new rfl rfl ?_
  refine VX.nil ?_
  refine VC.drw tab_ok [] [_, _, _, _, _, _] rfl (by kernel_rfl) (by kernel_rfl) ?_
  first | refine VX.meek rfl ?_ | refine VX.loadI rfl rfl au_l ?_ | refine VX.loadP rfl rfl rfl au_l ?_
  refine VX.callP0 rfl rfl rfl (rects_p a (by omega)) ?_
  first | refine VX.meek rfl ?_ | refine VX.loadI rfl rfl au_l ?_ | refine VX.loadP rfl rfl rfl au_l ?_
  refine VX.callP0 rfl rfl rfl (rects_p b (by omega)) ?_
  iterate 2 refine VX.meek rfl ?_
  refine VX.nil ?_
  refine VX.nil ?_
  refine VC.reg tab_ok [28] rfl ?_
  iterate 2 refine VX.meek rfl ?_
  refine VX.newI rfl rfl ?_
  refine VX.callP rfl rfl (cuts_p fY 85 join1_p [a, b] (by simp) (by omega) (fun r h => by have := hfr r h; unfold rok at this; simp only [fY]; omega)) au_wk (show T.pureL [.clo _ [] [], .islc [.islc (encL cR a) a.length none, .islc (encL cR b) b.length none] 2 (some 2)] = true from by simp [T.pureL, T.pure, encL_pure]) ?_; change VX _ _ _ _ _ _ ((29, .islc (encL cI (ysJ a b)) (ysJ a b).length none) :: _) _ _
  refine VX.meek rfl ?_
  refine VX.nil ?_
  refine VC.reg tab_ok [] rfl ?_
  iterate 4 refine VX.meek rfl ?_
  refine VX.new rfl rfl ?_
  refine VX.new rfl rfl ?_
  refine VX.store rfl rfl rfl rfl rfl au_sR rfl ?_
  refine VX.store rfl rfl rfl rfl rfl au_sR rfl ?_
  refine VX.nil ?_
  refine VC.reg tab_ok [] rfl ?_
  refine VX.meek rfl ?_
  refine VX.nil ?_
  refine VC.seq ?_
  refine VC.reg tab_ok [] rfl ?_
  refine VX.meek rfl ?_
  refine VX.nil ?_
  refine VC.block ?_
  refine VC.loopS2 (σ1 := Nat) (σ2 := List T) (fun i _ => (ysJ a b).length - i) (fun i tl => (i < (ysJ a b).length ∨ i = 0) ∧ T.pureL tl = true) (fun i _ => [(13, I64 i), (12, .slc 3 0 (outJ k a b i).length 4 none)]) (fun i tl => [.c [NIL], .c [.islc (encL cR (rowP (ysJ a b) a i)) (rowP (ysJ a b) a i).length none], .c [.islc (encL cR (rowP (ysJ a b) b i)) (rowP (ysJ a b) b i).length none], .c (encL cR (outJ k a b i) ++ tl)]) [3, 6, 9, 10, 11] rfl (0) ([]) ?_ ?_ ?_
  · refine ⟨[some 0, some 1, some 2, none], rfl, by first | trivial | decide, rfl, ?_, ?_⟩ <;> (repeat' first | exact trivial | exact CvB_n | exact CvB_d | refine CvE_app ?_ ?_ | refine CvE_cons rfl ?_ ?_ | refine CvH_cons ?_ ?_ | refine CvB_c rfl ?_ | fail) <;> first | exact au_v | (exact CvL.cons (Cv.pure (encL_pure cR _)) CvL.nil)
  · exact ⟨.inr rfl, rfl⟩
  rintro i tl ⟨hil, htl⟩
  refine VC.seq ?_
  refine VC.reg tab_ok [] rfl ?_
  refine VX.meek rfl ?_
  first | refine VX.add rfl rfl (by omega) ?_ | refine VX.meek rfl ?_
  iterate 3 refine VX.meek rfl ?_
  refine VX.nil ?_
  refine VC.cond rfl (fun hc0 => ?_) (fun hc0 => ?_)
  · (try simp only [au_std] at hc0); have hi1 : i + 1 < (ysJ a b).length := (by omega); have hy1 := ysJ_bnd har hbr (i := i) (by omega); have hy2 := ysJ_bnd har hbr (i := i + 1) hi1; have hol := outJ_lenM k a b m hrow i; have hrm := hrow (ysJ a b)[i]!; have hom : i * (2 * m) ≤ 500 * 1000 := Nat.mul_le_mul (by omega) (by omega)
    have hD1 := rowP_row (f := fY) (l := [a, b].flatten) (a := a) (i := i) (by unfold ysJ at hi1; omega)
    have hD2 := rowP_row (f := fY) (l := [a, b].flatten) (a := b) (i := i) (by unfold ysJ at hi1; omega)
    have hos := outJ_succ k a b i
    have hpl := rowT_len (ysJ a b)[i]! a; have hql := rowT_len (ysJ a b)[i]! b
    refine VC.skip ?_
    refine VC.seq ?_
    refine VC.block ?_
    refine VC.drw tab_ok [] [_, _, _, _, _, _, _, _, _, _, _, _, _, _, _, _] rfl (by kernel_rfl) (by kernel_rfl) ?_
    iterate 2 refine VX.meek rfl ?_
    first | refine VX.idxI rfl rfl rfl rfl rfl rfl (by omega) ?_ | refine VX.idxO0 rfl rfl rfl rfl rfl rfl rfl (by omega) ?_ | refine VX.idxO0 rfl rfl rfl rfl rfl rfl au_z (by omega) ?_ | refine VX.idxO rfl rfl rfl rfl rfl rfl rfl (by omega) ?_ | refine VX.idxI rfl rfl rfl rfl rfl au_z (by omega) ?_ | refine VX.idxO rfl rfl rfl rfl rfl rfl au_z (by omega) ?_ | refine VX.meek rfl ?_
    first | refine VX.meek rfl ?_ | refine VX.loadI rfl rfl au_l ?_ | refine VX.loadP rfl rfl rfl au_l ?_
    iterate 2 refine VX.meek rfl ?_
    first | refine VX.add rfl rfl (by omega) ?_ | refine VX.meek rfl ?_
    refine VX.idxI (m := i + 1) rfl rfl rfl rfl rfl (by omega) (by omega) ?_
    first | refine VX.meek rfl ?_ | refine VX.loadI rfl rfl au_l ?_ | refine VX.loadP rfl rfl rfl au_l ?_
    iterate 2 refine VX.meek rfl ?_
    first | refine VX.idxI rfl rfl rfl rfl rfl rfl (by omega) ?_ | refine VX.idxO0 rfl rfl rfl rfl rfl rfl rfl (by omega) ?_ | refine VX.idxO0 rfl rfl rfl rfl rfl rfl au_z (by omega) ?_ | refine VX.idxO rfl rfl rfl rfl rfl rfl rfl (by omega) ?_ | refine VX.idxI rfl rfl rfl rfl rfl au_z (by omega) ?_ | refine VX.idxO rfl rfl rfl rfl rfl rfl au_z (by omega) ?_ | refine VX.meek rfl ?_
    first | refine VX.meek rfl ?_ | refine VX.loadI rfl rfl au_l ?_ | refine VX.loadP rfl rfl rfl au_l ?_
    first | refine VX.sub rfl rfl (by omega) ?_ | refine VX.meek rfl ?_
    iterate 2 refine VX.meek rfl ?_
    refine VX.nil ?_
    refine VX.nil ?_
    refine VC.reg tab_ok [] rfl ?_
    refine VX.meek rfl ?_
    refine VX.callT rfl rfl (CallT.frame (rowW_at (ysJ a b)[i]! (ysJ a b) i a har (by omega) hD1) [1] rfl au_ci au_ci ?_)
    rintro _ _ ⟨rfl, rfl⟩
    refine frK au_co au_co ?_
    refine VX.meek rfl ?_
    refine VX.callT rfl rfl (CallT.frame (rowW_at (ysJ a b)[i]! (ysJ a b) i b hbr (by omega) hD2) [2] rfl au_ci au_ci ?_)
    rintro _ _ ⟨rfl, rfl⟩
    refine frK au_co au_co ?_
    refine VX.new rfl rfl ?_
    refine VX.new rfl rfl ?_
    refine VX.store rfl rfl rfl rfl rfl au_sR rfl ?_
    refine VX.store rfl rfl rfl rfl rfl au_sR rfl ?_
    refine VX.nil ?_
    refine VC.view ([]) ([.c [NIL], .c [.islc (encL cR (rowD (ysJ a b)[i]! a)) (rowD (ysJ a b)[i]! a).length none], .c [.islc (encL cR (rowD (ysJ a b)[i]! b)) (rowD (ysJ a b)[i]! b).length none], .c (encL cR (outJ k a b i) ++ tl), .c [.islc (encL cR (rowT (ysJ a b)[i]! a)) (rowT (ysJ a b)[i]! a).length none], .c [.islc (encL cR (rowT (ysJ a b)[i]! b)) (rowT (ysJ a b)[i]! b).length none]]) [3, 6, 9, 10, 11, 12, 13, 14, 15, 16, 17] rfl (by refine ⟨[some 0, some 1, some 2, some 3, some 4, some 5], rfl, by first | trivial | decide, rfl, ?_, ?_⟩ <;> (repeat' first | exact trivial | exact CvB_n | exact CvB_d | refine CvE_app ?_ ?_ | refine CvE_cons rfl ?_ ?_ | refine CvH_cons ?_ ?_ | refine CvB_c rfl ?_ | fail) <;> first | exact au_v | (first | exact CvL.cons (islc_row _ _ _) CvL.nil | exact CvL.cons (Cv.pure (encL_pure cR _)) CvL.nil | exact CvL.pure (pureL_append (encL_pure cR _) htl))) ?_
    refine VC.reg tab_ok [61] rfl ?_
    first | refine VX.meek rfl ?_ | refine VX.loadI rfl rfl au_l ?_ | refine VX.loadP rfl rfl rfl au_l ?_
    first | refine VX.meek rfl ?_ | refine VX.loadI rfl rfl au_l ?_ | refine VX.loadP rfl rfl rfl au_l ?_
    refine VX.newI rfl rfl ?_
    refine VX.callP rfl rfl (cuts_p fX 87 join2_p [(rowT (ysJ a b)[i]! a), (rowT (ysJ a b)[i]! b)] (by simp) (by rw [fl2, List.length_append]; omega) (fun r h => by have := fl_rok (fun r h => har r (rowT_sub h)) (fun r h => hbr r (rowT_sub h)) r h; unfold rok at this; simp only [fX]; omega)) au_wk (show T.pureL [.clo _ [] [], .islc [.islc (encL cR (rowT (ysJ a b)[i]! a)) (rowT (ysJ a b)[i]! a).length none, .islc (encL cR (rowT (ysJ a b)[i]! b)) (rowT (ysJ a b)[i]! b).length none] 2 (some 2)] = true from by simp [T.pureL, T.pure, encL_pure]) ?_; change VX _ _ _ _ _ _ ((62, .islc (encL cI (xsJ (rowT (ysJ a b)[i]! a) (rowT (ysJ a b)[i]! b))) (xsJ (rowT (ysJ a b)[i]! a) (rowT (ysJ a b)[i]! b)).length none) :: _) _ _; have hxl := xsJ_len (rowT (ysJ a b)[i]! a) (rowT (ysJ a b)[i]! b)
    refine VX.meek rfl ?_
    refine VX.nil ?_
    refine VC.reg tab_ok [] rfl ?_
    refine VX.meek rfl ?_
    refine VX.nil ?_
    refine VC.block ?_
    refine VC.loopS2 (σ1 := Nat) (σ2 := List T) (fun j _ => (xsJ (rowT (ysJ a b)[i]! a) (rowT (ysJ a b)[i]! b)).length - j) (fun j tl => (j < (xsJ (rowT (ysJ a b)[i]! a) (rowT (ysJ a b)[i]! b)).length ∨ j = 0) ∧ T.pureL tl = true) (fun j _ => [(19, I64 j), (12, .slc 3 0 (outJ k a b i ++ rowJ k (ysJ a b)[i]! ((ysJ a b)[i + 1]! - (ysJ a b)[i]!) (rowT (ysJ a b)[i]! a) (rowT (ysJ a b)[i]! b) j).length 4 none)]) (fun j tl => [.c [NIL], .c [.islc (encL cR (rowD (ysJ a b)[i]! a)) (rowD (ysJ a b)[i]! a).length none], .c [.islc (encL cR (rowD (ysJ a b)[i]! b)) (rowD (ysJ a b)[i]! b).length none], .c (encL cR (outJ k a b i ++ rowJ k (ysJ a b)[i]! ((ysJ a b)[i + 1]! - (ysJ a b)[i]!) (rowT (ysJ a b)[i]! a) (rowT (ysJ a b)[i]! b) j) ++ tl), .c [.islc (encL cR (rowPX (xsJ (rowT (ysJ a b)[i]! a) (rowT (ysJ a b)[i]! b)) (rowT (ysJ a b)[i]! a) j)) (rowPX (xsJ (rowT (ysJ a b)[i]! a) (rowT (ysJ a b)[i]! b)) (rowT (ysJ a b)[i]! a) j).length none], .c [.islc (encL cR (rowPX (xsJ (rowT (ysJ a b)[i]! a) (rowT (ysJ a b)[i]! b)) (rowT (ysJ a b)[i]! b) j)) (rowPX (xsJ (rowT (ysJ a b)[i]! a) (rowT (ysJ a b)[i]! b)) (rowT (ysJ a b)[i]! b) j).length none]]) [3, 6, 9, 10, 11, 13, 14, 15, 16, 17, 18] rfl (0) (tl) ?_ ?_ ?_
    · refine ⟨[some 0, some 1, some 2, some 3, some 4, some 5], rfl, by first | trivial | decide, rfl, ?_, ?_⟩ <;> (repeat' first | exact trivial | exact CvB_n | exact CvB_d | refine CvE_app ?_ ?_ | refine CvE_cons rfl ?_ ?_ | refine CvH_cons ?_ ?_ | refine CvB_c rfl ?_ | fail) <;> first | exact au_v | (first | exact Cv.slcE rfl (by simp [rowJ]) (.inl rfl) | exact CvL.cons (Cv.pure (encL_pure cR _)) CvL.nil | exact CvL.eq (by simp [rowJ]) (pureL_append (encL_pure cR _) htl))
    · exact ⟨.inr rfl, htl⟩
    rintro j tl2 ⟨hjl, htl2⟩
    refine VC.seq ?_
    refine VC.reg tab_ok [] rfl ?_
    refine VX.meek rfl ?_
    first | refine VX.add rfl rfl (by omega) ?_ | refine VX.meek rfl ?_
    iterate 3 refine VX.meek rfl ?_
    refine VX.nil ?_
    refine VC.cond rfl (fun hc1 => ?_) (fun hc1 => ?_)
    · (try simp only [au_std] at hc1); have hj1 : j + 1 < (xsJ (rowT (ysJ a b)[i]! a) (rowT (ysJ a b)[i]! b)).length := (by omega); have hra : ∀ r ∈ (rowT (ysJ a b)[i]! a), rok r := fun r h => har r (rowT_sub h); have hrb : ∀ r ∈ (rowT (ysJ a b)[i]! b), rok r := fun r h => hbr r (rowT_sub h); have hx1 := xsJ_bnd hra hrb (i := j) (by omega); have hx2 := xsJ_bnd hra hrb (i := j + 1) hj1; have hrl := rowJ_len k (ysJ a b)[i]! ((ysJ a b)[i + 1]! - (ysJ a b)[i]!) (rowT (ysJ a b)[i]! a) (rowT (ysJ a b)[i]! b) j; have hrs := rowJ_succ k (ysJ a b)[i]! ((ysJ a b)[i + 1]! - (ysJ a b)[i]!) (rowT (ysJ a b)[i]! a) (rowT (ysJ a b)[i]! b) j
      have hX1 := rowPX_row (f := fX) (l := [(rowT (ysJ a b)[i]! a), (rowT (ysJ a b)[i]! b)].flatten) (a := (rowT (ysJ a b)[i]! a)) (i := j) (by unfold xsJ at hj1; omega)
      have hX2 := rowPX_row (f := fX) (l := [(rowT (ysJ a b)[i]! a), (rowT (ysJ a b)[i]! b)].flatten) (a := (rowT (ysJ a b)[i]! b)) (i := j) (by unfold xsJ at hj1; omega)
      have hol2 : (outJ k a b i ++ rowJ k (ysJ a b)[i]! ((ysJ a b)[i + 1]! - (ysJ a b)[i]!) (rowT (ysJ a b)[i]! a) (rowT (ysJ a b)[i]! b) j).length ≤ 2097152 := (by rw [List.length_append]; omega)
      have hlc2 : (encL cR (outJ k a b i ++ rowJ k (ysJ a b)[i]! ((ysJ a b)[i + 1]! - (ysJ a b)[i]!) (rowT (ysJ a b)[i]! a) (rowT (ysJ a b)[i]! b) j) ++ tl2).length = (outJ k a b i ++ rowJ k (ysJ a b)[i]! ((ysJ a b)[i + 1]! - (ysJ a b)[i]!) (rowT (ysJ a b)[i]! a) (rowT (ysJ a b)[i]! b) j).length * 4 + tl2.length := (by rw [List.length_append, encL_len, cR_sz])
      refine VC.skip ?_
      refine VC.seq ?_
      refine VC.block ?_
      refine VC.drw tab_ok [] [_, _, _, _, _, _, _, _, _, _, _, _, _, _, _, _] rfl (by kernel_rfl) (by kernel_rfl) ?_
      iterate 2 refine VX.meek rfl ?_
      first | refine VX.idxI rfl rfl rfl rfl rfl rfl (by omega) ?_ | refine VX.idxO0 rfl rfl rfl rfl rfl rfl rfl (by omega) ?_ | refine VX.idxO0 rfl rfl rfl rfl rfl rfl au_z (by omega) ?_ | refine VX.idxO rfl rfl rfl rfl rfl rfl rfl (by omega) ?_ | refine VX.idxI rfl rfl rfl rfl rfl au_z (by omega) ?_ | refine VX.idxO rfl rfl rfl rfl rfl rfl au_z (by omega) ?_ | refine VX.meek rfl ?_
      first | refine VX.meek rfl ?_ | refine VX.loadI rfl rfl au_l ?_ | refine VX.loadP rfl rfl rfl au_l ?_
      iterate 2 refine VX.meek rfl ?_
      first | refine VX.add rfl rfl (by omega) ?_ | refine VX.meek rfl ?_
      refine VX.idxI (m := j + 1) rfl rfl rfl rfl rfl (by omega) (by omega) ?_
      first | refine VX.meek rfl ?_ | refine VX.loadI rfl rfl au_l ?_ | refine VX.loadP rfl rfl rfl au_l ?_
      iterate 2 refine VX.meek rfl ?_
      first | refine VX.idxI rfl rfl rfl rfl rfl rfl (by omega) ?_ | refine VX.idxO0 rfl rfl rfl rfl rfl rfl rfl (by omega) ?_ | refine VX.idxO0 rfl rfl rfl rfl rfl rfl au_z (by omega) ?_ | refine VX.idxO rfl rfl rfl rfl rfl rfl rfl (by omega) ?_ | refine VX.idxI rfl rfl rfl rfl rfl au_z (by omega) ?_ | refine VX.idxO rfl rfl rfl rfl rfl rfl au_z (by omega) ?_ | refine VX.meek rfl ?_
      first | refine VX.meek rfl ?_ | refine VX.loadI rfl rfl au_l ?_ | refine VX.loadP rfl rfl rfl au_l ?_
      first | refine VX.sub rfl rfl (by omega) ?_ | refine VX.meek rfl ?_
      iterate 2 refine VX.meek rfl ?_
      refine VX.nil ?_
      refine VX.nil ?_
      refine VC.drwC tab_ok [] [_, _, _, _, _, _] ([.c [NIL], .c [.islc (encL cR (rowD (ysJ a b)[i]! a)) (rowD (ysJ a b)[i]! a).length none], .c [.islc (encL cR (rowD (ysJ a b)[i]! b)) (rowD (ysJ a b)[i]! b).length none], .c (encL cR (outJ k a b i ++ rowJ k (ysJ a b)[i]! ((ysJ a b)[i + 1]! - (ysJ a b)[i]!) (rowT (ysJ a b)[i]! a) (rowT (ysJ a b)[i]! b) j) ++ tl2), .d, .d]) [false, false, false, true, false, true] rfl (by kernel_rfl) (by kernel_rfl) (by kernel_rfl) (by repeat' first | exact seen_nil | refine seen_dead ?_ | refine seen_same ?_) ?_
      refine VD.meek rfl ?_
      refine VD.meek rfl ?_
      refine VD.meek rfl ?_
      refine VD.call (t := BL (acrB (xsJ (rowT (ysJ a b)[i]! a) (rowT (ysJ a b)[i]! b))[j]! (rowT (ysJ a b)[i]! a))) (F1 := [.c [NIL], .c [.islc (encL cR (rowD (ysJ a b)[i]! a)) (rowD (ysJ a b)[i]! a).length none], .c [.islc (encL cR (rowD (ysJ a b)[i]! b)) (rowD (ysJ a b)[i]! b).length none], .c (encL cR (outJ k a b i ++ rowJ k (ysJ a b)[i]! ((ysJ a b)[i + 1]! - (ysJ a b)[i]!) (rowT (ysJ a b)[i]! a) (rowT (ysJ a b)[i]! b) j) ++ tl2), .c [.islc (encL cR (rowX (xsJ (rowT (ysJ a b)[i]! a) (rowT (ysJ a b)[i]! b))[j]! (rowT (ysJ a b)[i]! a))) (rowX (xsJ (rowT (ysJ a b)[i]! a) (rowT (ysJ a b)[i]! b))[j]! (rowT (ysJ a b)[i]! a)).length none], .c [.islc (encL cR (rowPX (xsJ (rowT (ysJ a b)[i]! a) (rowT (ysJ a b)[i]! b)) (rowT (ysJ a b)[i]! b) j)) (rowPX (xsJ (rowT (ysJ a b)[i]! a) (rowT (ysJ a b)[i]! b)) (rowT (ysJ a b)[i]! b) j).length none]]) rfl rfl ?_ ?_ ?_
      · refine CallT.frame (acrW_at (xsJ (rowT (ysJ a b)[i]! a) (rowT (ysJ a b)[i]! b))[j]! (xsJ (rowT (ysJ a b)[i]! a) (rowT (ysJ a b)[i]! b)) j (rowT (ysJ a b)[i]! a) hra (by omega) hX1) [4] rfl au_ci au_ci ?_
        rintro _ _ ⟨rfl, rfl⟩
        refine frK au_co au_co ?_
        exact ⟨rfl, rfl⟩
      · exact (by repeat' first | exact seen_nil | refine seen_dead ?_ | refine seen_same ?_)
      refine VD.meek rfl ?_
      refine VD.call (t := BL (acrB (xsJ (rowT (ysJ a b)[i]! a) (rowT (ysJ a b)[i]! b))[j]! (rowT (ysJ a b)[i]! b))) (F1 := [.c [NIL], .c [.islc (encL cR (rowD (ysJ a b)[i]! a)) (rowD (ysJ a b)[i]! a).length none], .c [.islc (encL cR (rowD (ysJ a b)[i]! b)) (rowD (ysJ a b)[i]! b).length none], .c (encL cR (outJ k a b i ++ rowJ k (ysJ a b)[i]! ((ysJ a b)[i + 1]! - (ysJ a b)[i]!) (rowT (ysJ a b)[i]! a) (rowT (ysJ a b)[i]! b) j) ++ tl2), .c [.islc (encL cR (rowX (xsJ (rowT (ysJ a b)[i]! a) (rowT (ysJ a b)[i]! b))[j]! (rowT (ysJ a b)[i]! a))) (rowX (xsJ (rowT (ysJ a b)[i]! a) (rowT (ysJ a b)[i]! b))[j]! (rowT (ysJ a b)[i]! a)).length none], .c [.islc (encL cR (rowX (xsJ (rowT (ysJ a b)[i]! a) (rowT (ysJ a b)[i]! b))[j]! (rowT (ysJ a b)[i]! b))) (rowX (xsJ (rowT (ysJ a b)[i]! a) (rowT (ysJ a b)[i]! b))[j]! (rowT (ysJ a b)[i]! b)).length none]]) rfl rfl ?_ ?_ ?_
      · refine CallT.frame (acrW_at (xsJ (rowT (ysJ a b)[i]! a) (rowT (ysJ a b)[i]! b))[j]! (xsJ (rowT (ysJ a b)[i]! a) (rowT (ysJ a b)[i]! b)) j (rowT (ysJ a b)[i]! b) hrb (by omega) hX2) [5] rfl au_ci au_ci ?_
        rintro _ _ ⟨rfl, rfl⟩
        refine frK au_co au_co ?_
        exact ⟨rfl, rfl⟩
      · exact (by repeat' first | exact seen_nil | refine seen_dead ?_ | refine seen_same ?_)
      refine VD.nil ?_
      refine VX.callP0 rfl rfl rfl (hg (acrB (xsJ (rowT (ysJ a b)[i]! a) (rowT (ysJ a b)[i]! b))[j]! (rowT (ysJ a b)[i]! a)) (acrB (xsJ (rowT (ysJ a b)[i]! a) (rowT (ysJ a b)[i]! b))[j]! (rowT (ysJ a b)[i]! b))) ?_
      refine VX.nil ?_
      refine VC.cond rfl (fun hc2 => ?_) (fun hc2 => ?_)
      · have hcj : cellJ k (ysJ a b)[i]! ((ysJ a b)[i + 1]! - (ysJ a b)[i]!) (rowT (ysJ a b)[i]! a) (rowT (ysJ a b)[i]! b) j = [⟨(xsJ (rowT (ysJ a b)[i]! a) (rowT (ysJ a b)[i]! b))[j]!, (ysJ a b)[i]!, (xsJ (rowT (ysJ a b)[i]! a) (rowT (ysJ a b)[i]! b))[j + 1]! - (xsJ (rowT (ysJ a b)[i]! a) (rowT (ysJ a b)[i]! b))[j]!, ((ysJ a b)[i + 1]! - (ysJ a b)[i]!)⟩] := if_pos hc2
        rw [hcj] at hrs
        refine VC.regN tab_ok [97] rfl ?_
        iterate 6 refine VX.meek rfl ?_
        refine VX.newI rfl rfl ?_
        refine VX.append rfl rfl rfl rfl rfl rfl rfl rfl (by rw [hlc2]; omega) (by dsimp only; omega) (by omega) rfl rfl ?_
        refine VX.meek rfl ?_
        refine VX.nil ?_
        refine VC.regN tab_ok [] rfl ?_
        refine VX.meek rfl ?_
        first | refine VX.add rfl rfl (by omega) ?_ | refine VX.meek rfl ?_
        refine VX.meek rfl ?_
        refine VX.nil ?_
        refine ⟨j + 1, [], by (try dsimp only); omega, ?_, (by refine ⟨[some 0, some 1, some 2, some 6, some 4, some 5], rfl, by first | trivial | decide, rfl, ?_, ?_⟩ <;> (repeat' first | exact trivial | exact CvB_n | exact CvB_d | refine CvE_app ?_ ?_ | refine CvE_cons rfl ?_ ?_ | refine CvH_cons ?_ ?_ | refine CvB_c rfl ?_ | fail) <;> first | exact au_v | (first | exact CvL.cons (Cv.pure (encL_pure cR _)) CvL.nil | exact Cv.slcE rfl (by have hq := congrArg List.length hrs; simp only [List.length_append, List.length_cons, List.length_nil] at hq ⊢; omega) (.inl rfl) | (rw [hrs, ← List.append_assoc]; exact CvL.eq (app_cells rfl rfl) (by simp only [List.append_nil]; exact encL_pure cR _))))⟩
        exact ⟨by omega, by first | rfl | exact htl2⟩
      · have hcj : cellJ k (ysJ a b)[i]! ((ysJ a b)[i + 1]! - (ysJ a b)[i]!) (rowT (ysJ a b)[i]! a) (rowT (ysJ a b)[i]! b) j = [] := if_neg (by rw [hc2]; simp)
        rw [hcj, List.append_nil] at hrs
        refine VC.skip ?_
        refine VC.regN tab_ok [] rfl ?_
        refine VX.meek rfl ?_
        first | refine VX.add rfl rfl (by omega) ?_ | refine VX.meek rfl ?_
        refine VX.meek rfl ?_
        refine VX.nil ?_
        refine ⟨j + 1, tl2, by (try dsimp only); omega, ?_, (by refine ⟨[some 0, some 1, some 2, some 3, some 4, some 5], rfl, by first | trivial | decide, rfl, ?_, ?_⟩ <;> (repeat' first | exact trivial | exact CvB_n | exact CvB_d | refine CvE_app ?_ ?_ | refine CvE_cons rfl ?_ ?_ | refine CvH_cons ?_ ?_ | refine CvB_c rfl ?_ | fail) <;> first | exact au_v | (first | exact CvL.cons (Cv.pure (encL_pure cR _)) CvL.nil | exact Cv.slcE rfl (by rw [hrs]) (.inl rfl) | (rw [hrs]; exact CvL.pure (pureL_append (encL_pure cR _) htl2))))⟩
        exact ⟨by omega, by first | rfl | exact htl2⟩
    · (try simp only [au_std] at hc1); obtain rfl : j = (xsJ (rowT (ysJ a b)[i]! a) (rowT (ysJ a b)[i]! b)).length - 1 := (by omega); rw [← hos]
      refine VC.exit ?_
      refine VC.regN tab_ok [] rfl ?_
      refine VX.meek rfl ?_
      first | refine VX.add rfl rfl (by omega) ?_ | refine VX.meek rfl ?_
      refine VX.meek rfl ?_
      refine VX.nil ?_
      refine ⟨i + 1, tl2, by (try dsimp only); omega, ?_, (by refine ⟨[some 0, some 1, some 2, some 3], rfl, by first | trivial | decide, rfl, ?_, ?_⟩ <;> (repeat' first | exact trivial | exact CvB_n | exact CvB_d | refine CvE_app ?_ ?_ | refine CvE_cons rfl ?_ ?_ | refine CvH_cons ?_ ?_ | refine CvB_c rfl ?_ | fail) <;> first | exact au_v | (first | exact CvL.cons (Cv.pure (encL_pure cR _)) CvL.nil | exact Cv.slc rfl (.inl rfl) | exact CvL.pure (pureL_append (encL_pure cR _) htl2)))⟩
      exact ⟨by omega, htl2⟩
  · (try simp only [au_std] at hc0); obtain rfl : i = (ysJ a b).length - 1 := (by omega); have hjl := outJ_lenM k a b m hrow ((ysJ a b).length - 1); have hjm : ((ysJ a b).length - 1) * (2 * m) ≤ 500 * 1000 := Nat.mul_le_mul (by omega) (by omega)
    have hjo : outJ k a b ((ysJ a b).length - 1) = joinL k a b := rfl
    rw [hjo] at hjl ⊢
    refine VC.view ([(12, .islc (encL cR (joinL k a b)) (joinL k a b).length none)]) ([.c [NIL]]) [6] rfl (by refine ⟨[some 0], rfl, by first | trivial | decide, rfl, ?_, ?_⟩ <;> (repeat' first | exact trivial | exact CvB_n | exact CvB_d | refine CvE_app ?_ ?_ | refine CvE_cons rfl ?_ ?_ | refine CvH_cons ?_ ?_ | refine CvB_c rfl ?_ | fail) <;> first | exact au_v | (exact Cv.fslcA ⟨rfl, by simp⟩ (CvL.pure (encL_pure cR _)))) ?_
    refine VC.exit ?_
    refine VC.reg tab_ok [] rfl ?_
    refine VX.meek rfl ?_
    refine VX.callP0 rfl rfl rfl (of_p (joinL k a b) (by omega) (fun r h => by have := countsB_rok (join_counts har hbr h); unfold rok at this; unfold i64; omega)) ?_
    refine VX.store rfl rfl rfl rfl rfl au_sR rfl ?_
    refine VX.nil ?_
    refine VC.ret ?_
    refine ⟨trivial, _, rfl, ?_⟩; rw [← hye]; exact Cv.agg (CvL.cons (Cv.pure (encL_pure cR _)) CvL.nil)
end
section
open Go.RowKit Go.Sort
set_option maxRecDepth 10000
noncomputable def opL (k : Bool → Bool → Bool) (a b : List Rect) : List Rect := bandOf (joinL k a b)
theorem opL_canon (k : Bool → Bool → Bool) (a b : List Rect) : Canon (opL k a b) := bandOf_canon _
theorem opL_in {k : Bool → Bool → Bool} (hk : k false false = false) {a b : List Rect} (ha : Canon a) (hb : Canon b) (har : ∀ r ∈ a, rok r) (hbr : ∀ r ∈ b, rok r) (x z : Int) : inL (opL k a b) x z ↔ k (decide (inL a x z)) (decide (inL b x z)) = true := by
  unfold opL
  rw [bandOf_in, ← join_in hk ha hb]
  have : (joinL k a b).filter countsB = joinL k a b := List.filter_eq_self.2 fun r hr => join_counts har hbr hr
  rw [this]
theorem minus1_p [Dr] (x y : Bool) : CallP Tryz.prog 57 [BL x, BL y] (BL (x && !y)) := by
  cases x <;> cases y
  all_goals
    refine CallP.intro2 au_pu au_pu ?_
    refine CallT.intro tab_ok Tryz.func57 rfl (by kernel_rfl) (Nat.le_of_ble_eq_true rfl) ?_
    refine VC.reg tab_ok [] rfl ?_
    refine VX.meek rfl ?_
    refine VX.nil ?_
    refine VC.reg tab_ok [] rfl ?_
    iterate 2 refine VX.meek rfl ?_
    refine' VX.merge (d := 9) [_, _, _] rfl ?_ rfl ?_
    rotate_left
    · refine VX.guard rfl rfl (fun hb1_1 => ?_) (fun hb1_1 => ?_)
      · have ghb1_1 := hb1_1
        try simp only [au_std, Bool.not_true, Bool.not_false] at ghb1_1
        refine VX.meek rfl ?_
        refine VX.guardT rfl rfl hb1_1 ?_
        refine VX.meek rfl ?_
        refine VX.pickA rfl (fun _ => rfl) ?_
        exact VX.nil ⟨rfl, rfl⟩
      · refine VX.guardF rfl rfl hb1_1 ?_
        exact VX.pickA rfl (fun h => absurd (h.symm.trans hb1_1) (by decide)) (VX.nil ⟨rfl, rfl⟩)
    refine VX.meek rfl ?_
    refine VX.nil ?_
    refine VC.ret ?_
    exact ⟨trivial, _, rfl, Cv.eq (by first | rfl | (simp [*]; done)) rfl⟩
theorem opL_reg {k : Bool → Bool → Bool} (hk : k false false = false) {n m : Nat} {a b : List Rect} (ha : Reg n a) (hb : Reg m b) : Reg (n + m) (opL k a b) := by
  have hin := opL_in hk ha.1 hb.1 ha.2 hb.2
  refine ⟨opL_canon k a b, bandOf_rok _, ?_⟩
  obtain ⟨xs, ys, h1, h2, h3⟩ := ha.3
  obtain ⟨xs', ys', k1, k2, k3⟩ := hb.3
  exact ⟨xs ++ xs', ys ++ ys', by rw [List.length_append]; omega, by rw [List.length_append]; omega, gr_op h3 k3 hin⟩
theorem join_r [Dr] (k : Bool → Bool → Bool) (g : FuncId) (hg : ∀ x y, CallP Tryz.prog g [BL x, BL y] (BL (k x y))) (hk : k false false = false) {n m : Nat} {a b : List Rect} (ha : Reg n a) (hb : Reg m b) (h : n + m ≤ 500) : CallP Tryz.prog 58 [.agg [.clo g [] []], regT a, regT b] (regT (opL k a b)) := by
  have h1 : n * n ≤ 500 * 500 := Nat.mul_le_mul (by omega) (by omega)
  have h2 : m * m ≤ 500 * 500 := Nat.mul_le_mul (by omega) (by omega)
  have h3 := ha.len
  have h4 := hb.len
  exact join_p k g hg hk a b (opL k a b) ha.1 hb.1 ha.2 hb.2 (n + m) (fun y => Nat.add_le_add (ha.row y) (hb.row y)) h (Nat.le_trans (Reg.ys ha hb) h) (by omega) (opL_canon _ _ _) (opL_in hk ha.1 hb.1 ha.2 hb.2)
def subB (x y : Bool) : Bool := x && !y
theorem minus_p [Dr] {n m : Nat} {a b : List Rect} (ha : Reg n a) (hb : Reg m b) (h : n + m ≤ 500) : CallP Tryz.prog 19 [regT a, regT b] (regT (opL subB a b)) := by
  refine CallP.intro2 au_pu au_pu ?_
  refine CallT.intro tab_ok Tryz.func19 rfl (by kernel_rfl) (Nat.le_of_ble_eq_true rfl) ?_
  refine VC.reg tab_ok [2, 3] rfl ?_
  refine VX.newI rfl rfl ?_
  refine VX.newI rfl rfl ?_
  refine VX.new rfl rfl ?_
  refine VX.nil ?_
  refine VC.reg tab_ok [] rfl ?_
  refine VX.meek rfl ?_
  first | refine VX.meek rfl ?_ | refine VX.loadI rfl rfl au_l ?_ | refine VX.loadP rfl rfl rfl au_l ?_
  first | refine VX.meek rfl ?_ | refine VX.loadI rfl rfl au_l ?_ | refine VX.loadP rfl rfl rfl au_l ?_
  refine VX.callP0 rfl rfl rfl (join_r subB 57 minus1_p rfl ha hb h) ?_
  refine VX.store rfl rfl rfl rfl rfl au_sR rfl ?_
  refine VX.nil ?_
  refine VC.ret ?_
  exact ⟨trivial, _, rfl, Cv.agg (CvL.cons (Cv.pure (encL_pure cR _)) CvL.nil)⟩
end
section
open Go.RowKit Go.Sort
set_option maxRecDepth 10000
theorem rect_ext {a b : Rect} : a = b ↔ a.X = b.X ∧ a.Y = b.Y ∧ a.W = b.W ∧ a.H = b.H := ⟨fun h => by subst h; exact ⟨rfl, rfl, rfl, rfl⟩, fun ⟨h1, h2, h3, h4⟩ => by cases a; cases b; simp at h1 h2 h3 h4; subst h1 h2 h3 h4; rfl⟩
instance : DecidableEq Rect := fun a b => decidable_of_iff _ rect_ext.symm
end
section
open Go.RowKit Go.Sort
set_option maxRecDepth 10000
theorem paintL_bd {w : Nat} {V : Int → Int → Prop} {f : Int → Int → Int → Int} {px : List Int} (hb : ∀ v ∈ px, 0 ≤ v ∧ v < 256) (hf : ∀ x y o, 0 ≤ o ∧ o < 256 → 0 ≤ f x y o ∧ f x y o < 256) : ∀ v ∈ paintL w V f px, 0 ≤ v ∧ v < 256 := by
  intro v hv
  unfold paintL at hv
  obtain ⟨i, hi, rfl⟩ := List.mem_map.1 hv
  split
  · exact hf _ _ _ (bang_bd hb _)
  · exact bang_bd hb _
end
section
open Go.RowKit Go.Sort
set_option maxRecDepth 10000
theorem in_plane {w h : Nat} (hw : 1 ≤ w ∧ w ≤ 128) (hh : 1 ≤ h ∧ h ≤ 128) (x y : Int) : inL (bandOf [⟨0, 0, w, h⟩]) x y ↔ 0 ≤ x ∧ x < w ∧ 0 ≤ y ∧ y < h := by
  have hc : countsB ⟨0, 0, w, h⟩ = true := by unfold countsB fitsB; simp; omega
  rw [bandOf_one, if_pos hc, inL_cons]
  have : ¬ inL [] x y := inL_nil
  unfold Rect.has
  constructor
  · rintro (k | k)
    · dsimp only at k; omega
    · exact absurd k this
  · intro k; exact .inl (by dsimp only; omega)
theorem in_plane0 {w h : Nat} (hw : w ≤ 128) (hh : h ≤ 128) (x y : Int) : inL (bandOf [⟨0, 0, w, h⟩]) x y ↔ 0 ≤ x ∧ x < w ∧ 0 ≤ y ∧ y < h := by
  by_cases h1 : 1 ≤ w ∧ 1 ≤ h
  · exact in_plane ⟨h1.1, hw⟩ ⟨h1.2, hh⟩ x y
  · have hc : ¬ countsB ⟨0, 0, w, h⟩ = true := by unfold countsB fitsB; simp; omega
    rw [bandOf_one, if_neg hc]
    exact ⟨fun k => absurd k inL_nil, fun k => by omega⟩
end
section
open Go.RowKit
def AllI (p : Nat → Prop) : List Nat → Prop
  | [] => True
  | i :: is => p i ∧ AllI p is
theorem allI_at {p : Nat → Prop} : ∀ {is : List Nat}, AllI p is → ∀ i ∈ is, p i
  | [], _, i, h => by cases h
  | j :: is, ⟨h1, h2⟩, i, h => by
    rcases List.mem_cons.1 h with rfl | h
    · exact h1
    · exact allI_at h2 i h
def AnyV [Dr] (P : Program) (tab : Tab) (im : List Nat) (l : List Oper) (K : Env → Hp → Prop) : Nat → Array Bool → Env → Hp → Prop
  | 0, listed, E, H => Region.ready .any l.toArray listed = [] ∧ K E H
  | f + 1, listed, E, H => (Region.ready .any l.toArray listed = [] → K E H) ∧
      AllI (fun i => ∃ o, l[i]? = some o ∧ VX false P tab im (l.map (·.dst)) [o] E H fun E' H' => AnyV P tab im l K f (listed.setIfInBounds i true) E' H') (Region.ready .any l.toArray listed)
section
variable {z : Bool} {P : Program} {tab : Tab} {n kb lb : Nat} {im : List Nat} {l : List Oper} {E : Env} {H : Hp} {K : Env → Hp → Prop} {X0 : Nat → Prop} {a : Act} {M : Mp}
theorem op_ok [Dr] (hT : TabOk P tab) {o : Oper} {i : Nat} {KV : Env → Hp → Prop} {r : Option Nat} {Q : Exit → Act → World → Prop} {KA : Act → World → Prop} (ho : l[i]? = some o) (hd : dstB n l = true) (hs : St n kb E H X0 a M)
    (hv : VX false P tab im (l.map (·.dst)) [o] E H KV) (hK : ∀ E' H' a' M', KV E' H' → Evo X0 M M' → St n kb E' H' X0 a' M' → KA a' M'.w) : wpOpIn (FW r) 0 P l.toArray Q i KA a M.w := by
  have hdo : ∀ k, o.dst = some k → k < n := fun k hk => by
    unfold dstB at hd
    rw [List.all_eq_true] at hd
    have := hd o (List.mem_of_getElem? ho)
    rw [hk] at this; simpa using this
  have hv : vcSeq P tab im (l.toArray.toList.map (·.dst)) [o] E H (fun E' H' => ∃ E1, Sub E1 E' ∧ KV E1 H') := hv E (Sub.refl E)
  have hg := vcGuard_ok (ops := l.toArray) hs hv
  unfold wpOpIn
  simp only [List.getElem?_toArray, ho]
  split
  · rename_i hw
    rw [if_pos hw] at hg
    refine vcOp_ok hT hs hdo (fun E' H' a' M' hk he hs' => ?_) hg
    obtain ⟨E1, h1, h2⟩ := hk
    exact hK E1 H' a' M' h2 he (hs'.eqv h1)
  · rename_i hw
    rw [if_neg hw] at hg
    obtain ⟨E1, h1, h2⟩ := hg
    exact ⟨fun _ _ => trivial, hK E1 H _ M h2 (Evo.refl _ _) ((hs.put (Evo.refl _ _) hs.sim (t := .v undef) rfl hdo).eqv h1)⟩
theorem any_ok [Dr] (hT : TabOk P tab) {r : Option Nat} {Q : Exit → Act → World → Prop} (hd : dstB n l = true) : ∀ (f : Nat) (listed : Array Bool) {E : Env} {H : Hp} {a : Act} {M : Mp}, St n kb E H X0 a M → (∀ E' H' a' M', K E' H' → Evo X0 M M' → St n kb E' H' X0 a' M' → Q .normal a' M'.w) → AnyV P tab im l K f listed E H → wpAnyIn (FW r) 0 P .any l.toArray Q f listed a M.w
  | 0, listed, E, H, a, M, hs, hK, hv => ⟨hv.1, hK E H a M hv.2 (Evo.refl _ _) hs⟩
  | f + 1, listed, E, H, a, M, hs, hK, hv => by
    refine ⟨fun h0 => hK E H a M (hv.1 h0) (Evo.refl _ _) hs, fun i hi => ?_⟩
    obtain ⟨o, ho, hx⟩ := allI_at hv.2 i hi
    exact op_ok hT ho hd hs hx fun E' H' a' M' k1 k2 k3 => any_ok hT hd f _ k3 (fun E2 H2 a2 M2 q1 q2 q3 => hK E2 H2 a2 M2 q1 (k2.trans q2) q3) k1
theorem VC.any [Dr] {id : Nat} {QT : Exit → Env → Hp → Prop} (hT : TabOk P tab) (im : List Nat) (hm : P.follows .mixedOrders = true) (hd : dstB n l = true) (h : AnyV P tab im l (QT .normal) l.length (Array.replicate l.length false) E H) : VC z P n lb (.region id l.toArray true) QT E H := by
  intro X0 M a r0 kb hz hs
  refine wpIn_region_any hm ?_
  let M1 : Mp := ⟨M.β, M.X, { M.w with drawn := M.w.drawn + 1 }⟩
  have hE1 : Evo X0 M M1 := ⟨fun _ _ h => h, fun _ _ h => h, fun _ _ _ => rfl, fun _ _ h => h, rfl, ⟨rfl, fun _ => Nat.le_succ _⟩, rfl, Nat.le_refl _⟩
  have hs1 : St n kb E H X0 a M1 := ⟨fun d t ht => by obtain ⟨u, q1, q2⟩ := hs.tm d t ht; exact ⟨u, q1, Rep.stays hE1.stays _ _ q2⟩, hs.sz, hs.df.evo hE1, hs.ge, hs.sim.world hE1 fun _ _ => rfl⟩
  exact any_ok (r := r0) (Q := Lift n kb lb X0 M QT) hT hd l.toArray.size _ hs1 (fun E' H' a' M' k1 k2 k3 => ⟨E', H', M', k1, rfl, (hE1.trans k2).toK lb, k3⟩) h
theorem AnyV.more [Dr] {f : Nat} {listed : Array Bool} (is : List Nat) (hr : Region.ready .any l.toArray listed = is) (hn : is ≠ []) (h : AllI (fun i => ∃ o, l[i]? = some o ∧ VX false P tab im (l.map (·.dst)) [o] E H fun E' H' => AnyV P tab im l K f (listed.setIfInBounds i true) E' H') is) : AnyV P tab im l K (f + 1) listed E H :=
  ⟨fun h0 => absurd (hr.symm.trans h0) hn, by rw [hr]; exact h⟩
theorem AnyV.fin [Dr] {f : Nat} {listed : Array Bool} (hr : Region.ready .any l.toArray listed = []) (h : K E H) : AnyV P tab im l K f listed E H := by
  cases f with
  | zero => exact ⟨hr, h⟩
  | succ f => exact ⟨fun _ => h, by rw [hr]; trivial⟩
end
end
section
open Go.RowKit Go.Sort
set_option maxRecDepth 10000
end
section
open Go.RowKit Go.Sort
set_option maxRecDepth 10000
end
section
open Go.RowKit Go.Sort
set_option maxRecDepth 10000
set_option maxHeartbeats 4000000
section
variable {q : Bool} {P : Program} {tab : Tab} {im : List Nat} {ds : List (Option Nat)} {l : List Oper} {E : Env} {H : Hp} {K : Env → Hp → Prop} {d : Nat} {ty : TypeId} {pos : String} {after : Array Edge}
theorem VX.quo [Dr] {x y : Operand} {t t2 : Nat} {a c : Int} (hx : E.opd x = some (I64 a)) (hy : E.opd y = some (I64 c)) (ha : 0 ≤ a) (ha2 : a ≤ 9000000000000000000) (hc : 0 < c) (k : VX q P tab im ds l ((d, I64 (a / c)) :: E) H K) : VX q P tab im ds (⟨some d, .binOp .quo t x y t2, ty, pos, after, none⟩ :: l) E H K := by
  refine VX.meek (t := I64 (a / c)) ?_ k
  have h1 : a / c ≤ a := Int.ediv_le_self c ha
  have h2 : 0 ≤ a / c := Int.ediv_nonneg ha (by omega)
  have hc' : ¬ c = 0 := by omega
  simp only [opM, hx, hy, mBin, binInt]
  rw [if_neg hc', Int.tdiv_eq_ediv_of_nonneg ha, wrap_in (by omega)]
  rfl
theorem VX.rem [Dr] {x y : Operand} {t t2 : Nat} {a c : Int} (hx : E.opd x = some (I64 a)) (hy : E.opd y = some (I64 c)) (ha : 0 ≤ a) (hc : 0 < c) (k : VX q P tab im ds l ((d, I64 (a % c)) :: E) H K) : VX q P tab im ds (⟨some d, .binOp .rem t x y t2, ty, pos, after, none⟩ :: l) E H K := by
  refine VX.meek (t := I64 (a % c)) ?_ k
  have hc' : ¬ c = 0 := by omega
  simp only [opM, hx, hy, mBin, binInt]
  rw [if_neg hc', Int.tmod_eq_emod_of_nonneg ha]
  rfl
end
def coordB (n : Int) : Bool := decide (-1048576 ≤ n) && decide (n ≤ 1048576)
end
section
open Go.RowKit Go.Sort
set_option maxRecDepth 10000
end
section
open Go.RowKit Go.Sort
set_option maxRecDepth 10000
section
variable {P : Program} {tab : Tab} {im : List Nat} {ops : Array Oper} {l : List Oper} {E : Env} {Hm F : Hp} {K : Env → Hp → Prop} {wd : List Bool} {d : Nat} {ty : TypeId} {pos : String} {after : Array Edge}
theorem VD.add [Dr] {x y : Operand} {t t2 : Nat} {a b : Int} (hx : E.opd x = some (I64 a)) (hy : E.opd y = some (I64 b)) (h : -9223372036854775808 ≤ a + b ∧ a + b ≤ 9223372036854775807) (k : VD P tab im ops Hm l wd ((d, I64 (a + b)) :: E) F K) : VD P tab im ops Hm (⟨some d, .binOp .add t x y t2, ty, pos, after, none⟩ :: l) (false :: wd) E F K :=
  VD.meek (t := I64 (a + b)) (by simp only [opM, hx, hy, mBin, binInt, wrap_in h]; rfl) k
theorem VD.mul [Dr] {x y : Operand} {t t2 : Nat} {a b : Int} (hx : E.opd x = some (I64 a)) (hy : E.opd y = some (I64 b)) (h : -9223372036854775808 ≤ a * b ∧ a * b ≤ 9223372036854775807) (k : VD P tab im ops Hm l wd ((d, I64 (a * b)) :: E) F K) : VD P tab im ops Hm (⟨some d, .binOp .mul t x y t2, ty, pos, after, none⟩ :: l) (false :: wd) E F K :=
  VD.meek (t := I64 (a * b)) (by simp only [opM, hx, hy, mBin, binInt, wrap_in h]; rfl) k
end
def atG (w h : Nat) (px : List Int) (x y : Int) : Int := if inB' w h x y = true then px[(y * w + x).toNat]! else 0
theorem inB_iff {w h : Nat} {x y : Int} : inB' w h x y = true ↔ 0 ≤ x ∧ x < w ∧ 0 ≤ y ∧ y < h := by unfold inB'; simp only [Bool.and_eq_true, decide_eq_true_eq]; omega
theorem mApp_empty {tab : Tab} {H : Hp} {t1 t2 : Nat} {y : T} {i j : TyI} {e n2 : Nat} {ys : List T} {cs : List T} (hT : tab t1 = some i) (hk : i.k = .sl e) (hj : tab e = some j) (hs : srcCells tab (lookH H) t2 j.sz y = some (ys, n2)) (h2 : n2 * j.by_ ≤ 2 ^ 47) (h3 : n2 ≤ 2 ^ 47) (h4 : n2 * j.sz = ys.length) :
    mAppend tab H t1 t2 (.islc cs 0 (some 0)) y = some (.slc H.length 0 n2 j.sz none, H ++ [.c ys]) := by
  simp only [mAppend, hT, hk, hj, hs]
  rw [if_pos ⟨h2, h3, h4⟩]
end
section
open Go.RowKit Go.Sort
set_option maxRecDepth 10000
end
section
open Go.RowKit Go.Sort
set_option maxRecDepth 10000
end
section
open Go.RowKit Go.Sort
set_option maxRecDepth 10000
theorem gnew_p [Dr] (w h : Nat) (p : Int) (hw : 1 ≤ w ∧ w ≤ 128) (hh : 1 ≤ h ∧ h ≤ 128) : CallP Tryz.prog 15 [I64 w, I64 h, U8 p] (.tup [gT w h (List.replicate (w * h) p), I64 0]) := new_yes w h p hw hh
theorem gset_n [Dr] (w h : Nat) (px : List Int) (n : Nat) (hn : px.length = n) (x y p : Int) (hw : w ≤ 128) (hh : h ≤ 128) (hl : px.length = w * h) (hb : ∀ v ∈ px, 0 ≤ v ∧ v < 256) (hx : 0 ≤ x ∧ x < w) (hy : 0 ≤ y ∧ y < h) :
    CallP Tryz.prog 16 [.agg [I64 w, I64 h, .islc (encL cU px) n none], I64 x, I64 y, U8 p] (.agg [I64 w, I64 h, .islc (encL cU (px.set (y * w + x).toNat p)) n none]) := by
  have k := gset_p ⟨w, h, px⟩ ⟨hw, hh, hl, hb⟩ x y p
  have e : Pic.set ⟨w, h, px⟩ x y p = ⟨w, h, px.set (y * w + x).toNat p⟩ := if_pos (show inB' w h x y = true from inB_iff.2 ⟨hx.1, hx.2, hy.1, hy.2⟩)
  rw [e] at k
  subst hn
  have k2 : CallP Tryz.prog 16 [gT w h px, I64 x, I64 y, U8 p] (gT w h (px.set (y * w + x).toNat p)) := k
  simp only [gT, List.length_set] at k2
  exact k2
theorem gat_p [Dr] (w h : Nat) (px : List Int) (x y : Int) (hw : w ≤ 128) (hh : h ≤ 128) (hl : px.length = w * h) (hb : ∀ v ∈ px, 0 ≤ v ∧ v < 256) : CallP Tryz.prog 34 [gT w h px, I64 x, I64 y] (U8 (atG w h px x y)) := at_p ⟨w, h, px⟩ ⟨hw, hh, hl, hb⟩ x y
theorem repl_at (n i : Nat) : (List.replicate n (0 : Int))[i]! = 0 := by
  rw [List.getElem!_eq_getElem?_getD, List.getElem?_replicate]; split <;> rfl
end
section
open Go.RowKit Go.Sort
set_option maxRecDepth 10000
section
variable {q : Bool} {P : Program} {tab : Tab} {im : List Nat} {ds : List (Option Nat)} {l : List Oper} {E : Env} {H : Hp} {K : Env → Hp → Prop} {d : Nat} {ty : TypeId} {pos : String} {after : Array Edge}
theorem VX.remU [Dr] {x y : Operand} {t t2 : Nat} {a c : Int} (hx : E.opd x = some (U8 a)) (hy : E.opd y = some (U8 c)) (ha : 0 ≤ a) (hc : 0 < c) (k : VX q P tab im ds l ((d, U8 (a % c)) :: E) H K) : VX q P tab im ds (⟨some d, .binOp .rem t x y t2, ty, pos, after, none⟩ :: l) E H K := by
  refine VX.meek (t := U8 (a % c)) ?_ k
  have hc' : ¬ c = 0 := by omega
  simp only [opM, hx, hy, mBin, binInt]
  rw [if_neg hc', Int.tmod_eq_emod_of_nonneg ha]
  rfl
end
abbrev I8 (n : Int) : T := .v (.int .i8 n)
def cS : Cd Rect := ⟨4, fun s => [I8 s.X, I8 s.Y, U8 s.W, U8 s.H], fun _ => rfl, fun _ => rfl, fun _ => rfl, by decide⟩
theorem cS_sz : cS.sz = 4 := rfl
theorem au_sS {p : Prop} (h : p := by first | rfl | exact Nat.le_of_ble_eq_true rfl | omega | (simp only [encL_len, List.length_append, List.length_cons, List.length_nil, List.length_replicate, Nat.zero_add, cI_sz, cU_sz, cR_sz, cLR_sz, cS_sz]; omega) | (simp [encL_len, cI_sz, cU_sz, cR_sz, cLR_sz, cS_sz]; done) | (simp [encL_len, cI_sz, cU_sz, cR_sz, cLR_sz, cS_sz]; omega)) : p := h
def smOk (s : Rect) : Prop := -128 ≤ s.X ∧ s.X ≤ 127 ∧ -128 ≤ s.Y ∧ s.Y ≤ 127 ∧ 0 ≤ s.W ∧ s.W < 256 ∧ 0 ≤ s.H ∧ s.H < 256
end
section
open Go.RowKit
def visH (fl : Bool) (F : Hp) : Hp := if fl then F else List.replicate F.length .d
theorem visH_len (fl : Bool) (F : Hp) : (visH fl F).length = F.length := by unfold visH; cases fl <;> simp
theorem blkH_dead : ∀ (n b : Nat), blkH (List.replicate n .d) b = .d
  | 0, _ => rfl
  | n + 1, 0 => rfl
  | n + 1, b + 1 => blkH_dead n b
def wOkG : List Wr → Hp → Prop
  | [], _ => True
  | (b, o, xs) :: W, F => match lookH F b with
    | some cs => o + xs.length ≤ cs.length ∧ xs.all cellB = true ∧ wOkG W (setH F b (.c (putL cs o xs)))
    | none => False
theorem appW_snocG {b o : Nat} {xs : List T} : ∀ (W V : List Wr) (F : Hp), wOkG (W ++ (b, o, xs) :: V) F → ∃ cs, lookH (appW W F) b = some cs ∧ o + xs.length ≤ cs.length ∧ xs.all cellB = true ∧ appW (W ++ [(b, o, xs)]) F = setH (appW W F) b (.c (putL cs o xs))
  | [], V, F, h => by
    simp only [List.nil_append, wOkG] at h
    split at h
    · rename_i cs hc
      exact ⟨cs, hc, h.1, h.2.1, by simp only [List.nil_append, appW, hc]⟩
    · exact h.elim
  | (b', o', xs') :: W, V, F, h => by
    simp only [List.cons_append, wOkG] at h
    split at h
    · rename_i cs hc
      obtain ⟨cs2, k1, k2, k3, k4⟩ := appW_snocG W V _ h.2.2
      refine ⟨cs2, ?_, k2, k3, ?_⟩
      · simp only [appW, hc]; exact k1
      · simp only [List.cons_append, appW, hc]; exact k4
    · exact h.elim
inductive RunT [Dr] (P : Program) (tab : Tab) (im : List Nat) (ops : Array Oper) : List Oper → Env → Hp → List Stp → List Bool → List (Option Wr) → Env → Hp → Prop
  | nil (E : Env) (F : Hp) : RunT P tab im ops [] E F [] [] [] E F
  | one {o : Oper} {l : List Oper} {E : Env} {F : Hp} {s : Stp} {f : Bool} {r : List Stp} {fs : List Bool} {ws : List (Option Wr)} {E' : Env} {F' : Hp} (h : StpOk P tab im ops o E (visH f F) s)
      (k : RunT P tab im ops l (E.put o.dst s.t) (F ++ newsOf s.nb) r fs ws E' F') : RunT P tab im ops (o :: l) E F (s :: r) (f :: fs) (none :: ws) E' F'
  | sto {o : Oper} {l : List Oper} {E : Env} {F : Hp} {t : Nat} {a x : Operand} {b q : Nat} {tx : T} {i : TyI} {r : List Stp} {fs : List Bool} {ws : List (Option Wr)} {E' : Env} {F' : Hp} (hg : o.guard = none) (hd : o.dst = none) (ho : o.op = .store t a x) (hT : tab t = some i) (ha : E.opd a = some (.ptr b q)) (hx : E.opd x = some tx)
      (hl : (flat tx).length = i.sz) (k : RunT P tab im ops l E F r fs ws E' F') : RunT P tab im ops (o :: l) E F (⟨.v undef, none⟩ :: r) (false :: fs) (some (b, q, flat tx) :: ws) E' F'
theorem runT_at [Dr] {P : Program} {tab : Tab} {im : List Nat} {ops : Array Oper} {l : List Oper} {E : Env} {F : Hp} {r : List Stp} {fs : List Bool} {ws : List (Option Wr)} {E' : Env} {F' : Hp} (h : RunT P tab im ops l E F r fs ws E' F') :
    r.length = l.length ∧ fs.length = l.length ∧ ws.length = l.length ∧ E' = envAt l r E l.length ∧ F' = hpAt r F l.length ∧
      (∀ k o s f w, l[k]? = some o → r[k]? = some s → fs[k]? = some f → ws[k]? = some w → StpS P tab im ops o (envAt l r E k) (visH f (hpAt r F k)) s w) := by
  induction h with
  | nil E F => exact ⟨rfl, rfl, rfl, rfl, rfl, fun k o s f w h => by simp at h⟩
  | @one o l E F s f r fs ws E' F' h k ih =>
    obtain ⟨h1, h2, h3, h4, h5, h6⟩ := ih
    refine ⟨by simp [h1], by simp [h2], by simp [h3], h4, h5, fun j o' s' f' w ho hs' hh hw => ?_⟩
    cases j with
    | zero => simp at ho hs' hh hw; subst ho hs' hh hw; exact h
    | succ j => exact h6 j o' s' f' w (by simpa using ho) (by simpa using hs') (by simpa using hh) (by simpa using hw)
  | @sto o l E F t a x b q tx i r fs ws E' F' hg hd ho hT ha hx hl k ih =>
    obtain ⟨h1, h2, h3, h4, h5, h6⟩ := ih
    refine ⟨by simp [h1], by simp [h2], by simp [h3], ?_, ?_, fun j o' s' f' w ho' hs' hh hw => ?_⟩
    · rw [h4]; show _ = envAt l r (E.put o.dst _) l.length; rw [hd]; rfl
    · rw [h5]; show _ = hpAt r (F ++ newsOf none) l.length; simp [newsOf]
    · cases j with
      | zero => simp at ho' hs' hh hw; subst ho' hs' hh hw; exact ⟨rfl, hg, hd, t, a, x, tx, i, ho, hT, ha, hx, rfl, hl⟩
      | succ j =>
        have := h6 j o' s' f' w (by simpa using ho') (by simpa using hs') (by simpa using hh) (by simpa using hw)
        have e : envAt (o :: l) (⟨.v undef, none⟩ :: r) E (j + 1) = envAt l r E j := by show envAt l r (E.put o.dst _) j = _; rw [hd]; rfl
        have e2 : hpAt (⟨.v undef, none⟩ :: r) F (j + 1) = hpAt r F j := by show hpAt r (F ++ newsOf none) j = _; simp [newsOf]
        rw [e, e2]; exact this
def lateB (l : List Oper) (fs : List Bool) : Bool := (List.range l.length).all fun k' => !stB l[k']? || (List.range fs.length).all fun k => !(fs.getD k false) || ((masks l []).getD k' 0).testBit k
section
variable {z : Bool} {P : Program} {tab : Tab} {n m kb lb : Nat} {l : List Oper} {E : Env} {H : Hp} {r : List Stp} {fs : List Bool} {ws : List (Option Wr)} {X0 : Nat → Prop} {M0 : Mp} {im : List Nat}
structure RunG [Dr] (P : Program) (tab : Tab) (im : List Nat) (l : List Oper) (m : Nat) (E : Env) (H : Hp) (r : List Stp) (fs : List Bool) (ws : List (Option Wr)) : Prop where
  rl : r.length = (l.take m).length
  hl : fs.length = (l.take m).length
  wl : ws.length = (l.take m).length
  st : ∀ k o s f w, (l.take m)[k]? = some o → r[k]? = some s → fs[k]? = some f → ws[k]? = some w → StpS P tab im l.toArray o (envAt (l.take m) r E k) (visH f (hpAt r H k)) s w
  ok : wOkG (ws.filterMap id) (hpAt r H r.length)
  late : lateB l fs = true
theorem JdS.lookT [Dr] {L : Nat → Prop} {a : Act} {M : Mp} {j : Nat} (hO : OrdB l m) (hF : RunG P tab im l m E H r fs ws) (h : JdS n kb (l.take m) r ws E H X0 j L a M) (hc : Closed l L) {k : Nat} (hk : ¬ L k) {f : Bool} (hkk : fs[k]? = some f) : LookAt M (lookH (visH f (hpAt r H k))) := by
  have hkl : k < (l.take m).length := by rw [← hF.hl]; exact (List.getElem?_eq_some_iff.1 hkk).1
  intro b B O cells hb hcc
  cases f with
  | false => rw [lookH_c] at hcc; unfold visH at hcc; rw [if_neg (by decide), blkH_dead] at hcc; cases hcc
  | true =>
    have hcc' : lookH (hpAt r H k) b = some cells := hcc
    refine Sim.look h.sim b B O cells hb ?_
    have hd := h.sim.D_of hb
    rw [lookH_c] at hcc'
    rw [cells_some]
    unfold lookG
    rw [if_pos hd, appW_other _ _ fun w hw e => ?_]
    · have hlt : b < (hpAt r H k).length := blkH_lt (by rw [hcc']; simp)
      have hkeep := (hpAt_keep (r := r) (H := H) k r.length (by have := hF.rl; omega) (Nat.le_refl _)).2 b hlt
      rw [hkeep]; exact hcc'
    · obtain ⟨i, hi⟩ := List.getElem?_of_mem hw
      have hij : i < j := by
        have := (List.getElem?_eq_some_iff.1 hi).1
        rw [List.length_take] at this; omega
      rw [List.getElem?_take, if_pos hij] at hi
      have hlt : i < cntW ws ws.length := by unfold cntW; rw [List.take_length]; exact (List.getElem?_eq_some_iff.1 hi).1
      obtain ⟨k', w', q1, q2, q3⟩ := cntW_pos hlt
      have hL : L k' := (h.cnt k' w' q2).2 (by omega)
      have hk'l : k' < (l.take m).length := by rw [← hF.wl]; exact q1
      have hol : l[k']? = some (l.take m)[k'] := by have := List.getElem?_eq_getElem hk'l; rw [List.getElem?_take] at this; split at this; exact this; cases this
      have hst := hF.st k' _ _ _ _ (List.getElem?_eq_getElem hk'l) (List.getElem?_eq_getElem (by rw [hF.rl]; exact hk'l)) (List.getElem?_eq_getElem (by rw [hF.hl]; exact hk'l)) q2
      obtain ⟨b', q', xs'⟩ := w'
      obtain ⟨-, -, -, t', x', y', tx', i', hoc', -⟩ := hst
      have hlate := hF.late
      unfold lateB at hlate
      rw [List.all_eq_true] at hlate
      have h1 := hlate k' (List.mem_range.2 (List.getElem?_eq_some_iff.1 hol).1)
      have hsb : stB l[k']? = true := by rw [hol]; generalize (l.take m)[k'] = ok at hoc'; simp [stB, hoc']
      rw [hsb] at h1
      simp only [Bool.not_true, Bool.false_or] at h1
      rw [List.all_eq_true] at h1
      have h2 := h1 k (List.mem_range.2 (List.getElem?_eq_some_iff.1 hkk).1)
      have hfk : fs.getD k false = true := by simp [List.getD, hkk]
      rw [hfk] at h2
      simp only [Bool.not_true, Bool.false_or] at h2
      exact hk (mask_listed hO.back hc k' hL k h2)
theorem JdS.stepT [Dr] (hT : TabOk P tab) (hO : OrdB l m) (hch : chainB l m = true) (hF : RunG P tab im l m E H r fs ws)
    {L : Nat → Prop} {a : Act} {M : Mp} {j : Nat} (h : JdS n kb (l.take m) r ws E H X0 j L a M) (hc : Closed l L) {k : Nat} {o : Oper} (ho : (l.take m)[k]? = some o) (hk : ¬ L k) (hpre : ∀ e ∈ o.after, Region.binds .any e = true → L e.on) (hd : ∀ d, o.dst = some d → d < n)
    {r0 : Option Nat} {Q : Exit → Act → World → Prop} {K : Act → World → Prop} (hK : ∀ a' M' j', Evo X0 M M' → JdS n kb (l.take m) r ws E H X0 j' (fun i => L i ∨ i = k) a' M' → K a' M'.w) : wpOpIn (FW r0) 0 P l.toArray Q k K a M.w := by
  have hr := hF.rl
  have hkl : k < (l.take m).length := (List.getElem?_eq_some_iff.1 ho).1
  have hol : l[k]? = some o := by rw [List.getElem?_take] at ho; split at ho; exact ho; cases ho
  have hkm : k < m := by rw [List.length_take] at hkl; omega
  have hs' : r[k]? = some r[k] := List.getElem?_eq_getElem (by omega)
  obtain ⟨f', hh'⟩ : ∃ x, fs[k]? = some x := ⟨_, List.getElem?_eq_getElem (by rw [hF.hl]; omega)⟩
  obtain ⟨w, hw'⟩ : ∃ x, ws[k]? = some x := ⟨_, List.getElem?_eq_getElem (by rw [hF.wl]; omega)⟩
  have hstp := hF.st k o _ _ _ ho hs' hh' hw'
  generalize r[k] = s at hs' hstp
  have hlook := h.lookT hO hF hc hk hh'
  have hrd := fun (d : Nat) (t : T) => h.read hO hr hc ho hk hpre (d := d) (t := t)
  have hop : ∀ x ∈ o.op.operands.toList, ∀ t, (envAt (l.take m) r E k).opd x = some t → Rep M t (a.eval x) := by
    intro x hx t ht
    cases x with
    | tmp d =>
      obtain ⟨u, h1, h2⟩ := hrd d t (by simp only [readsOf, Oper.looksAt, List.mem_append, List.mem_filterMap]; exact .inl ⟨.tmp d, hx, rfl⟩) ht
      have : a.eval (.tmp d) = u := by show a.tmps.getD d undef = u; simp [h1]
      rw [this]; exact h2
    | const v => simp only [Env.opd] at ht; injection ht with ht; subst ht; exact rep_ofV v
    | func f => simp only [Env.opd] at ht; injection ht with ht; subst ht; exact ⟨[], [], rfl, rfl, rfl⟩
    | global g => simp only [Env.opd] at ht; injection ht with ht; subst ht; exact rfl
  unfold wpOpIn
  simp only [List.getElem?_toArray, hol]
  cases w with
  | some w =>
    obtain ⟨b, q, xs⟩ := w
    obtain ⟨rfl, hg, hdn, t, x, y, tx, i, hoc, hti, hx, hy, rfl, hxl⟩ := hstp
    have hw : Region.wanted o (yielded l.toArray a.tmps) = true := by simp [Region.wanted, hg]
    rw [hw, if_pos rfl]
    have hix := cntW_lt hw'
    have hij : cntW ws k = j := by
      have h1 : ¬ cntW ws k < j := fun hh => hk ((h.cnt k _ hw').2 hh)
      refine Nat.le_antisymm (Nat.le_of_not_lt fun hh => ?_) (by omega)
      obtain ⟨k', w', q1, q2, q3⟩ := cntW_pos hh
      have hk'l : k' < (l.take m).length := by rw [← hF.wl]; exact (List.getElem?_eq_some_iff.1 q2).1
      have ho' : (l.take m)[k']? = some (l.take m)[k'] := List.getElem?_eq_getElem hk'l
      have hst' := hF.st k' _ _ _ _ ho' (List.getElem?_eq_getElem (by omega)) (List.getElem?_eq_getElem (by rw [hF.hl]; omega)) q2
      obtain ⟨b', q', xs'⟩ := w'
      obtain ⟨-, -, -, t', x', y', tx', i', hoc', -⟩ := hst'
      have hol' : l[k']? = some (l.take m)[k'] := by have := ho'; rw [List.getElem?_take] at this; split at this; exact this; cases this
      have hL := mask_next hO.back hc hol hpre (chain_at hch hkm q1 hol hol' hoc hoc')
      have := (h.cnt k' _ q2).1 hL
      omega
    rw [hij] at hix
    have hsp : ws.filterMap id = (ws.filterMap id).take j ++ (b, q, flat tx) :: (ws.filterMap id).drop (j + 1) := by
      have h1 := (List.getElem?_eq_some_iff.1 hix)
      rw [← h1.2, ← List.drop_eq_getElem_cons h1.1, List.take_append_drop]
    have hok := hF.ok
    rw [hsp] at hok
    obtain ⟨cs, k1, k2, k3, k4⟩ := appW_snocG _ _ _ hok
    have htk : (ws.filterMap id).take (j + 1) = (ws.filterMap id).take j ++ [(b, q, flat tx)] := by rw [List.take_add_one, hix]; rfl
    have hrx := hop x (by rw [hoc]; simp [Op.operands]) _ hx
    have hry := hop y (by rw [hoc]; simp [Op.operands]) _ hy
    have hbb : b < H.length ∨ made r H L b := by obtain ⟨B, O, hb, -⟩ := hrx; exact h.sim.D_of hb
    have hbk : lookG r H (appW ((ws.filterMap id).take j) (hpAt r H r.length)) L b = .c cs := by unfold lookG; rw [if_pos hbb]; exact lookH_c.1 k1
    obtain ⟨M', e1, e2, e3⟩ := Sim.stored (P := P) hT h.sim hti hbk hrx hry hxl k2 k3
    have hnd : ∀ c, o.op ≠ .defer c := by rw [hoc]; simp
    refine wpIn_of hnd ?_
    obtain ⟨dst, op, ty, pos, after, guard⟩ := o
    simp only at hoc hdn
    subst hoc hdn
    have hrr : (execOp a.eval ⟨none, .store t x y, ty, pos, after, guard⟩).run P M.w = .ok .skip M'.w := by simp [execOp, e1]
    rw [hrr]
    refine hK _ _ (j + 1) e2 (h.next hO ho hs' hk hd e2 (e3.congr (fun c => ?_) (fun c => by rw [made_none hs' rfl])) (u := undef) rfl (fun k2' w2 hw2 => ?_) (fun w2 hw2 => ?_))
    · rw [lookG_none hs' rfl, htk, k4]
      unfold lookG updL
      by_cases hcb : c = b
      · subst hcb; rw [if_pos hbb, if_pos rfl, blkH_set _ _ _ _ (lookH_lt k1), if_pos rfl]
      · rw [if_neg hcb]
        dsimp only
        by_cases hcd : c < H.length ∨ made r H L c
        · rw [if_pos hcd, if_pos hcd, blkH_set _ _ _ _ (lookH_lt k1), if_neg hcb]
        · rw [if_neg hcd, if_neg hcd]
    · rw [h.cnt k2' w2 hw2]
      constructor
      · rintro (q1 | rfl) <;> omega
      · intro hh
        by_cases h2 : cntW ws k2' < j
        · exact .inl h2
        · refine .inr ?_
          rcases Nat.lt_trichotomy k2' k with q1 | q1 | q1
          · have := cntW_mono q1 hw2; omega
          · exact q1
          · have := cntW_mono q1 hw'; omega
    · rw [htk] at hw2
      rcases List.mem_append.1 hw2 with q1 | q1
      · exact (h.mkd w2 q1).imp id made_or
      · rw [List.mem_singleton] at q1; subst q1; exact hbb.imp id made_or
  | none =>
    have hcn : ∀ k' w, ws[k']? = some (some w) → ((L k' ∨ k' = k) ↔ cntW ws k' < j) := fun k' w hwk => by
      rw [← h.cnt k' w hwk]
      exact ⟨fun hh => hh.resolve_right (fun e => by subst e; rw [hw'] at hwk; injection hwk with hwk; cases hwk), Or.inl⟩
    have hmk : ∀ w ∈ (ws.filterMap id).take j, w.1 < H.length ∨ made r H (fun i => L i ∨ i = k) w.1 := fun w hw => (h.mkd w hw).imp id made_or
    have hgd : ∀ g want d b, o.guard = some (g, want) → (l.toArray[g]?).bind (·.dst) = some d → (envAt (l.take m) r E k).get d = some (.v (.bool b)) → yielded l.toArray a.tmps g = some b := by
      intro g want d b hg hgd hb
      have hgd' : (l[g]?.bind fun x => x.dst) = some d := by simpa using hgd
      obtain ⟨u, h1, h2⟩ := hrd d _ (by simp [readsOf, Oper.looksAt, hg]; exact .inr hgd') hb
      obtain rfl := h2
      simp [yielded, hgd', h1]
    rcases hstp with ⟨h1, h2, g, want, d, x, hg, hgdst, hb, hne⟩ | ⟨hg, hst⟩
    · have hw : Region.wanted o (yielded l.toArray a.tmps) = false := by
        have hgd' : (l[g]?.bind fun x => x.dst) = some d := by simpa using hgdst
        obtain ⟨u, q1, q2⟩ := hrd d _ (by simp [readsOf, Oper.looksAt, hg]; exact .inr hgd') hb
        obtain rfl := q2
        have hy : yielded l.toArray a.tmps g = match u with | .bool b => some b | _ => none := by simp only [yielded, List.getElem?_toArray, hgd', Option.bind_some, q1]; cases u <;> rfl
        simp only [Region.wanted, hg, hy]
        cases u <;> first | rfl | skip
        rename_i b
        cases b <;> cases want <;> first | rfl | exact absurd rfl hne
      rw [hw]
      refine ⟨fun _ _ => trivial, hK _ M j (Evo.refl _ _) (h.next hO ho hs' hk hd (Evo.refl _ _) (h.sim.congr (fun b => lookG_none hs' h2 b) fun b => by rw [made_none hs' h2]) (by rw [h1]; rfl) hcn hmk)⟩
    · have hw : Region.wanted o (yielded l.toArray a.tmps) = true := by
        rcases hg with hg | ⟨g, want, d, hg, hgdst, hb⟩
        · simp [Region.wanted, hg]
        · have hy := hgd g want d want hg hgdst hb
          simp [Region.wanted, hg, hy]
      rw [hw, if_pos rfl]
      have hnd : ∀ c, o.op ≠ .defer c := by
        rcases hst with ⟨t, nb, hm, -⟩ | ⟨f, args, ats, g, fs, cs, ts, hoc, -⟩
        · exact opM_op hm
        · rw [hoc]; simp
      refine wpIn_of hnd ?_
      rcases hst with ⟨t, nb, hm, hst⟩ | ⟨f, args, ats, g, fs, cs, ts, hoc, hf, hts, hcall, hnb⟩
      · have hmk' := opM_ok (M := M) (ρ' := a.eval) hT hlook hop hm
        rcases hst with ⟨hst, hnb⟩ | ⟨⟨e, cs⟩, rfl, hst, hnb⟩
        case inr =>
          obtain ⟨u, w', q1, q2, q3, q4⟩ := imm_new h.sim hmk' (opM_new hm)
          rw [q1]
          exact hK _ _ j q2 (h.next hO ho hs' hk hd q2 ((h.sim.world q2 q3).congr (fun b => lookG_none hs' hnb b) fun b => by rw [made_none hs' hnb]) (by rw [hst]; exact q4) hcn hmk)
        subst hst
        cases nb with
        | none =>
          obtain ⟨u, h1, h2⟩ := hmk'
          rw [h1]
          exact hK _ M j (Evo.refl _ _) (h.next hO ho hs' hk hd (Evo.refl _ _) (h.sim.congr (fun b => lookG_none hs' hnb b) fun b => by rw [made_none hs' hnb]) h2 hcn hmk)
        | some p =>
          obtain ⟨e, cs⟩ := p
          simp only [Option.map_some] at hnb
          rw [visH_len] at hmk'
          obtain ⟨u, ar, h1, h2, h3⟩ := hmk'
          rw [h1]
          have hid : ¬ (hpAt r H k).length < H.length := by have := (hp_start (r := r) (H := H) (k := k) (by omega)).1; omega
          have hnd' : ¬ made r H L (hpAt r H k).length := by
            rintro ⟨j', s', q1, q2, q3, q4⟩
            exact hk (new_ne q1 q2 hs' (by rw [hnb]; simp) q4 ▸ q3)
          have hnd : ¬ ((hpAt r H k).length < H.length ∨ made r H L (hpAt r H k).length) := fun hh => hh.elim hid hnd'
          obtain ⟨Ev, S, hsh⟩ := h.sim.new (nx := (hpAt r H k).length) hnd (w := { M.w with heap := M.w.heap.push (.cells ar e) }) rfl rfl ⟨rfl, fun _ => Nat.le_refl _⟩ rfl (fun j _ hj => by simp at hj) h2
          have hmade : ∀ b, made r H (fun j => L j ∨ j = k) b ↔ made r H L b ∨ b = (hpAt r H k).length := fun b => by
            constructor
            · rintro ⟨j, s', q1, q2, q3 | q3, q4⟩
              · exact .inl ⟨j, s', q1, q2, q3, q4⟩
              · subst q3; exact .inr q4.symm
            · rintro (⟨j, s', q1, q2, q3, q4⟩ | q)
              · exact ⟨j, s', q1, q2, .inl q3, q4⟩
              · exact ⟨k, s, hs', by rw [hnb]; simp, .inr rfl, q.symm⟩
          refine hK _ (newM M _ _) j Ev (h.next hO ho hs' hk hd Ev (S.congr (fun b => ?_) (fun b => ?_)) (h3 _ (if_pos rfl) hsh) hcn hmk)
          · unfold lookG
            by_cases hb : b = (hpAt r H k).length
            · subst hb
              rw [if_pos (.inr ((hmade _).2 (.inr rfl))), if_pos rfl, appW_other _ _ fun w hw e => ?_]
              · exact (new_at hs' hnb).2
              · have := h.mkd w hw
                rw [e] at this
                exact hnd this
            · rw [if_neg hb]
              by_cases hbD : b < H.length ∨ made r H L b
              · rw [if_pos hbD, if_pos (hbD.imp id fun hh => (hmade b).2 (.inl hh))]
              · rw [if_neg hbD, if_neg fun hh => hbD (hh.imp id fun q => ((hmade b).1 q).resolve_right hb)]
          · rw [hmade, or_assoc]
      · obtain ⟨dst, op, ty, pos, after, guard⟩ := o
        simp only at hoc hop hd
        subst hoc
        obtain ⟨us, vs, e1, r1, r2⟩ := hop f (by simp [Op.operands, Call.operands]) _ hf
        have r3 := optL_ok (M := M) (ρ' := a.eval) _ _ (fun x hx t ht => hop x (by simp [Op.operands, Call.operands]; exact .inr (by simpa using hx)) t ht) hts
        have hrr : (execOp a.eval ⟨dst, .call ⟨.value f, args, ats⟩, ty, pos, after, guard⟩).run P M.w = .ok (.enter g (us ++ args.toList.map a.eval ++ vs).toArray) M.w := by
          simp only [execOp, resolve, Sem.run_bind, e1, Deferred.ofValue, Sem.run_pure, Result.andThen_ok, invoke]
          rw [run_goFunc _ _ _ hcall.2.2.1, ← map_arr]
          simp
        rw [hrr]
        refine ⟨fun hh => (by cases hh), callsIn_wide.2 ((hcall.run X0 M _ h.sim.bnd (RepL.append (RepL.append r1 r3) r2)).mono ?_)⟩
        rintro e w' ⟨u, rfl, k1, k2, k3⟩
        exact hK _ _ j k1 (h.next hO ho hs' hk hd k1 ((h.sim.world k1 k3).congr (fun b => lookG_none hs' hnb b) fun b => by rw [made_none hs' hnb]) k2 hcn hmk)
theorem JdS.finT [Dr] {L : Nat → Prop} {a : Act} {M : Mp} {j : Nat} (hO : OrdB l m) (hF : RunG P tab im l m E H r fs ws) (h : JdS n kb (l.take m) r ws E H X0 j L a M) (hL : ∀ k, k < (l.take m).length → L k) : St n kb (envAt (l.take m) r E (l.take m).length) (appW (ws.filterMap id) (hpAt r H (l.take m).length)) X0 a M := by
  have hr := hF.rl
  have hdis : ∀ (i j : Nat) (oi oj : Oper), (l.take m)[i]? = some oi → (l.take m)[j]? = some oj → i ≠ j → ∀ d, oi.dst = some d → oj.dst ≠ some d := fun i j oi oj hi hj hij d hdi => (hO.pair j oj i oi hj hi hij d hdi).1
  have hmd : ∀ b, made r H L b ↔ ¬ b < H.length ∧ b < (hpAt r H r.length).length := fun b => by
    constructor
    · rintro ⟨k, s, q1, q2, -, q4⟩
      have hk := (List.getElem?_eq_some_iff.1 q1).1
      obtain ⟨cs, hcs⟩ := Option.ne_none_iff_exists'.1 q2
      have h1 := (new_at (H := H) q1 hcs).1
      have h2 := (hpAt_keep (r := r) (H := H) (k + 1) r.length hk (Nat.le_refl _)).1
      have h3 := (hp_start (r := r) (H := H) (k := k) (by omega)).1
      omega
    · rintro ⟨h1, h2⟩
      obtain ⟨j, s, q1, q2, q3, q4⟩ := made_all (Nat.le_refl _) h2 h1
      exact ⟨j, s, q2, q3, hL j (by omega), q4⟩
  have htk : (ws.filterMap id).take j = ws.filterMap id := by
    refine List.take_of_length_le (Nat.le_of_not_lt fun hh => ?_)
    have e : (ws.filterMap id).length = cntW ws ws.length := by unfold cntW; rw [List.take_length]
    rw [e] at hh
    obtain ⟨k', w, q1, q2, q3⟩ := cntW_pos hh
    have := (h.cnt k' w q2).1 (hL k' (by rw [← hF.wl]; exact q1))
    omega
  refine ⟨fun d t ht => ?_, h.sz, h.df, h.ge, h.sim.congr (fun b => ?_) (fun b => ?_)⟩
  · obtain ⟨g1, g2⟩ := env_get (E := E) (d := d) hr (Nat.le_refl _) hdis
    by_cases hw : ∃ j oj, j < (l.take m).length ∧ (l.take m)[j]? = some oj ∧ oj.dst = some d
    · obtain ⟨j, oj, hj, hoj, hdj⟩ := hw
      have hs : r[j]? = some r[j] := List.getElem?_eq_getElem (by omega)
      rw [g1 j oj _ hj hoj hs hdj] at ht
      injection ht with ht; subst ht
      exact h.slot j oj _ d hoj hs (hL j hj) hdj
    · rw [g2 fun j oj hj hoj hdj => hw ⟨j, oj, hj, hoj, hdj⟩] at ht
      exact h.old d t ht fun j oj hoj _ hdj => hw ⟨j, oj, (List.getElem?_eq_some_iff.1 hoj).1, hoj, hdj⟩
  · rw [← hr, htk]
    unfold lookG
    by_cases hb : b < H.length ∨ made r H L b
    · rw [if_pos hb]
    · rw [if_neg hb]
      refine Classical.byContradiction fun hne => hb ?_
      have hlt := blkH_lt hne
      rw [appW_len] at hlt
      by_cases hbH : b < H.length
      · exact .inl hbH
      · exact .inr ((hmd b).2 ⟨hbH, hlt⟩)
  · rw [← hr, appW_len, hmd]
    have := (hp_start (r := r) (H := H) (k := r.length) (Nat.le_refl _)).1
    omega
theorem draw_anyT [Dr] (hT : TabOk P tab) (hO : OrdB l m) (hch : chainB l m = true) (hd : dstB n l = true) (hF : RunG P tab im l m E H r fs ws)
    {r0 : Option Nat} {Q : Exit → Act → World → Prop} (hQ : ∀ a M, Evo X0 M0 M → St n kb (envAt (l.take m) r E (l.take m).length) (appW (ws.filterMap id) (hpAt r H (l.take m).length)) X0 a M → wpListIn (FW r0) 0 P l.toArray Q (l.drop m) a M.w) :
    ∀ (fuel : Nat) (listed : Array Bool) (a : Act) (M : Mp) (j : Nat), leftB l listed ≤ fuel → listed.size = l.length → Closed l (lsd listed) → (∀ k, m ≤ k → ¬ lsd listed k) → Evo X0 M0 M → JdS n kb (l.take m) r ws E H X0 j (lsd listed) a M → wpAnyIn (FW r0) 0 P .any l.toArray Q fuel listed a M.w := by
  have hml : (l.take m).length = m := by rw [List.length_take]; have := hO.le; omega
  intro fuel
  have fin : ∀ (fuel : Nat) (listed : Array Bool) (a : Act) (M : Mp) (j : Nat), leftB l listed ≤ fuel → listed.size = l.length → (∀ k, m ≤ k → ¬ lsd listed k) → (∀ k, k < m → lsd listed k) → Evo X0 M0 M → JdS n kb (l.take m) r ws E H X0 j (lsd listed) a M → wpAnyIn (FW r0) 0 P .any l.toArray Q fuel listed a M.w := by
    intro fuel listed a M j hf hsz hno hall hE hJ
    refine tail_any hO fuel listed m a M.w ?_ hsz (Nat.le_refl _) hO.le (fun k => ⟨fun h => ?_, hall k⟩) (hQ a M hE (hJ.finT hO hF fun k hk => hall k (by omega)))
    · have h1 : leftB l listed = l.length - m := by
        unfold leftB
        have e : List.range l.length = List.range m ++ (List.range (l.length - m)).map (m + ·) := by
          rw [← List.range_add, show m + (l.length - m) = l.length from by have := hO.le; omega]
        rw [e, List.countP_append]
        have e1 : (List.range m).countP (fun k => !listed.getD k false) = 0 := by
          rw [List.countP_eq_zero]
          intro k hk
          have := hall k (List.mem_range.1 hk)
          unfold lsd at this
          simpa using this
        have e2 : ((List.range (l.length - m)).map (m + ·)).countP (fun k => !listed.getD k false) = l.length - m := by
          rw [List.countP_eq_length.2]
          · simp
          · intro k hk
            rw [List.mem_map] at hk
            obtain ⟨q, -, rfl⟩ := hk
            have := hno (m + q) (by omega)
            unfold lsd at this
            simpa using this
        omega
      omega
    · exact Nat.lt_of_not_le fun hk => hno k hk h
  induction fuel with
  | zero =>
    intro listed a M j hf hsz hc hno hE hJ
    by_cases hall : ∀ k, k < m → lsd listed k
    · exact fin 0 listed a M j hf hsz hno hall hE hJ
    · exfalso
      have h0 : leftB l listed = 0 := by omega
      unfold leftB at h0
      rw [List.countP_eq_zero] at h0
      apply hall
      intro k hk
      have := h0 k (List.mem_range.2 (by have := hO.le; omega))
      unfold lsd
      simpa using this
  | succ fuel ih =>
    intro listed a M j hf hsz hc hno hE hJ
    by_cases hall : ∀ k, k < m → lsd listed k
    · exact fin _ listed a M j hf hsz hno hall hE hJ
    · have hnext : ∃ i o, i < m ∧ l[i]? = some o ∧ ¬ lsd listed i ∧ ∀ e ∈ o.after, Region.binds .any e = true → lsd listed e.on := by
        have hex : ∃ k, k < m ∧ ¬ lsd listed k := by
          apply Classical.byContradiction
          intro h
          exact hall fun k hk => Classical.byContradiction fun hn => h ⟨k, hk, hn⟩
        obtain ⟨i, ⟨h1, h2⟩, hmin⟩ := least_nat hex
        have hile : i < l.length := by have := hO.le; omega
        have ho : l[i]? = some l[i] := List.getElem?_eq_getElem hile
        refine ⟨i, _, h1, ho, h2, fun e he hb => ?_⟩
        have hlt := back_at l 0 i _ hO.back ho e he hb
        exact Classical.byContradiction fun hn => by have := hmin e.on ⟨by omega, hn⟩; omega
      refine ⟨fun hr0 => ?_, fun i hi => ?_⟩
      · obtain ⟨i, o, h1, h2, h3, h4⟩ := hnext
        have := ready_of hsz h2 h3 h4
        rw [hr0] at this; cases this
      · obtain ⟨o, ho, hn, hp⟩ := ready_facts hsz hi
        have hil := (List.getElem?_eq_some_iff.1 ho).1
        have him : i < m := by
          refine Nat.lt_of_not_le fun hmi => ?_
          apply hall
          intro k hk
          exact mask_next hO.back hc ho hp (hO.full i hmi hil k (by omega))
        have hop : (l.take m)[i]? = some o := by rw [List.getElem?_take, if_pos him]; exact ho
        have hdo : ∀ d, o.dst = some d → d < n := fun d hdd => by
          unfold dstB at hd
          rw [List.all_eq_true] at hd
          have := hd o (List.mem_of_getElem? ho)
          rw [hdd] at this; simpa using this
        refine JdS.stepT hT hO hch hF hJ hc hop hn hp hdo fun a' M' j' hE' hJ' => ?_
        have hiff : ∀ k, lsd (listed.setIfInBounds i true) k ↔ lsd listed k ∨ k = i := lsd_set (by omega)
        have hfun : lsd (listed.setIfInBounds i true) = fun k => lsd listed k ∨ k = i := funext fun k => propext (hiff k)
        refine ih _ a' M' j' ?_ (by simpa using hsz) (fun k ok hok hk e he hb => ?_) (fun k hk h => ?_) (hE.trans hE') (by rw [hfun]; exact hJ')
        · have := leftB_set hsz hil hn; omega
        · rw [hiff] at hk ⊢
          rcases hk with hk | rfl
          · exact .inl (hc k ok hok hk e he hb)
          · rw [ho] at hok; injection hok with hok; subst hok; exact .inl (hp e he hb)
        · rcases (hiff k).1 h with h | h
          · exact hno k hk h
          · omega
theorem VC.drawT [Dr] {id : Nat} {QT : Exit → Env → Hp → Prop} (hT : TabOk P tab) (im : List Nat) (m : Nat) (hm : P.follows .mixedOrders = true) (hB : drawB n m l = true) (hch : chainB l m = true)
    (h : ∃ r fs ws E' F', RunT P tab im l.toArray (l.take m) E H r fs ws E' F' ∧ lateB l fs = true ∧ wOkG (ws.filterMap (·)) F' ∧ vcSeq P tab im (l.map (·.dst)) (l.drop m) E' (appW (ws.filterMap (·)) F') (QT .normal)) : VC z P n lb (.region id l.toArray true) QT E H := by
  intro X0 M a r0 kb hz hs
  obtain ⟨hO, hd⟩ := ord_of hB
  obtain ⟨r, fs, ws, E', F', hrun, hlate, hok, hk⟩ := h
  obtain ⟨h1, h2, h3, h4, h5, h6⟩ := runT_at hrun
  have hF : RunG P tab im l m E H r fs ws := ⟨h1, h2, h3, h6, by rw [h1, ← h5]; exact hok, hlate⟩
  refine wpIn_region_any hm ?_
  let M1 : Mp := ⟨M.β, M.X, { M.w with drawn := M.w.drawn + 1 }⟩
  have hE1 : Evo X0 M M1 := ⟨fun _ _ h => h, fun _ _ h => h, fun _ _ _ => rfl, fun _ _ h => h, rfl, ⟨rfl, fun _ => Nat.le_succ _⟩, rfl, Nat.le_refl _⟩
  have hs1 : St n kb E H X0 a M1 := ⟨fun d t ht => by obtain ⟨u, q1, q2⟩ := hs.tm d t ht; exact ⟨u, q1, Rep.stays hE1.stays _ _ q2⟩, hs.sz, hs.df.evo hE1, hs.ge, hs.sim.world hE1 fun _ _ => rfl⟩
  have hno : ∀ k, ¬ lsd (Array.replicate l.toArray.size false) k := fun k hk => by
    unfold lsd at hk
    by_cases hlt : k < l.length
    · simp [hlt] at hk
    · simp [hlt] at hk
  have hmd : ∀ b, ¬ made r H (lsd (Array.replicate l.toArray.size false)) b := fun b ⟨k, s, _, _, hk, _⟩ => hno k hk
  have := draw_anyT (r0 := r0) (X0 := X0) (M0 := M) (Q := Lift n kb lb X0 M QT) hT hO hch hd hF (fun a' M' hE' hs' => by
    rw [← h4, ← h5] at hs'
    refine vcSeq_ok (im := im) hT _ ?_ hs' (fun E2 H2 a2 M2 k1 k2 k3 => ⟨E2, H2, M2, k1, rfl, (hE'.trans k2).toK lb, k3⟩) hk
    unfold dstB at hd ⊢
    rw [List.all_eq_true] at hd ⊢
    exact fun o ho => hd o (List.mem_of_mem_drop ho)) l.toArray.size (Array.replicate l.toArray.size false) a M1 0 (Nat.le_trans List.countP_le_length (by simp)) (by simp) (fun k o _ hk => absurd hk (hno k)) (fun k _ => hno k) hE1
    ⟨hs1.sim.congr (fun b => by
        unfold lookG
        rw [List.take_zero]
        by_cases hb : b < H.length
        · rw [if_pos (.inl hb)]; exact (hp_start (Nat.le_refl _)).2 b hb
        · rw [if_neg fun hh => hh.elim hb (hmd b)]
          exact Classical.byContradiction fun hne => hb (blkH_lt fun e => hne (by rw [e]))) (fun b => ⟨fun h => h.elim (fun h => h) fun h => absurd h (hmd b), .inl⟩),
     fun k o s d _ _ hk => absurd hk (hno k), fun d t ht _ => hs1.tm d t ht, hs1.sz, hs1.df, hs1.ge, fun k w _ => ⟨fun hk => absurd hk (hno k), fun hh => by omega⟩, fun w hw => by rw [List.take_zero] at hw; cases hw⟩
  exact this
end
def VT [Dr] (P : Program) (tab : Tab) (im : List Nat) (ops : Array Oper) (l : List Oper) (E : Env) (F : Hp) (W : List Wr) (fl : List Bool) (K : Env → Hp → List Bool → Prop) : Prop :=
  ∀ E2, Sub E E2 → ∃ r fs ws E' F', RunT P tab im ops l E2 F r fs ws E' F' ∧ wOkG (W ++ ws.filterMap (·)) F' ∧ ∃ E1, Sub E1 E' ∧ K E1 (appW (W ++ ws.filterMap (·)) F') (fl ++ fs)
section
variable {z : Bool} {P : Program} {tab : Tab} {n lb : Nat} {im : List Nat} {ops : Array Oper} {l : List Oper} {E : Env} {F : Hp} {W : List Wr} {fl : List Bool} {K : Env → Hp → List Bool → Prop}
theorem VT.nil [Dr] (hw : wOkG W F) (h : K E (appW W F) fl) : VT P tab im ops [] E F W fl K := fun E2 he =>
  ⟨[], [], [], E2, F, .nil _ _, by simpa using hw, E, he, by simpa using h⟩
theorem VT.sto [Dr] {t : Nat} {a x : Operand} {ty : TypeId} {pos : String} {after : Array Edge} {b q : Nat} {tx : T} {i : TyI} (hT : tab t = some i) (ha : E.opd a = some (.ptr b q)) (hx : E.opd x = some tx) (hl : (flat tx).length = i.sz) (k : VT P tab im ops l E F (W ++ [(b, q, flat tx)]) (fl ++ [false]) K) : VT P tab im ops (⟨none, .store t a x, ty, pos, after, none⟩ :: l) E F W fl K := fun E2 he => by
  obtain ⟨r, fs, ws, E', F', h1, h2, E1, h3, h4⟩ := k _ he
  refine ⟨⟨.v undef, none⟩ :: r, false :: fs, some (b, q, flat tx) :: ws, E', F', .sto rfl rfl rfl hT (he.opd ha) (he.opd hx) hl h1, ?_, E1, h3, ?_⟩
  · simpa using h2
  · simpa using h4
theorem run_runT [Dr] {f : Bool} {l1 l2 : List Oper} {E1 : Env} {H1 : Hp} {H0 : Hp} {r1 : List Stp} (h : Run P tab im ops l1 E H0 r1 E1 H1) (hno : H1 = H0) (hf : H0 = visH f F) : ∀ {r : List Stp} {fs : List Bool} {ws : List (Option Wr)} {E' : Env} {F' : Hp}, RunT P tab im ops l2 E1 F r fs ws E' F' →
    ∃ r' fs' ws', RunT P tab im ops (l1 ++ l2) E F r' fs' ws' E' F' ∧ ws'.filterMap (·) = ws.filterMap (·) ∧ fs' = List.replicate l1.length f ++ fs := by
  induction h with
  | nil E H => intro r fs ws E' F' k; exact ⟨r, fs, ws, k, rfl, rfl⟩
  | @cons o l E H s r1 E1 H1 h k ih =>
    intro r fs ws E' F' k2
    obtain ⟨x, hx⟩ := run_ext k
    have e : newsOf s.nb = [] := by
      rw [hno, List.append_assoc] at hx
      have := List.append_cancel_left (show H ++ [] = H ++ (newsOf s.nb ++ x) by rw [List.append_nil]; exact hx)
      exact (List.append_eq_nil_iff.1 this.symm).1
    rw [e, List.append_nil] at k ih
    obtain ⟨r', fs', ws', g1, g2, g3⟩ := ih hno hf k2
    refine ⟨s :: r', f :: fs', none :: ws', .one (hf ▸ h) (by rw [e, List.append_nil]; exact g1), by simpa using g2, by rw [g3]; rfl⟩
theorem VT.seg [Dr] {l1 l2 : List Oper} (f : Bool) (hl : l = l1 ++ l2) (h : VX true P tab im (ops.toList.map (·.dst)) l1 E (visH f F) fun E1 H1 => H1 = visH f F ∧ VT P tab im ops l2 E1 F W (fl ++ List.replicate l1.length f) K) : VT P tab im ops l E F W fl K := fun E2 he => by
  subst hl
  obtain ⟨r1, E1, H1, hr, E3, he3, hh, hv⟩ := vcDraw_run (ops := ops) _ _ _ (h E2 he)
  obtain ⟨r, fs, ws, E', F', k1, k2, E4, k3, k4⟩ := hv _ he3
  obtain ⟨r', fs', ws', g1, g2, g3⟩ := run_runT (f := f) hr hh rfl k1
  exact ⟨r', fs', ws', E', F', g1, by rw [g2]; exact k2, E4, k3, by rw [g2, g3, ← List.append_assoc]; exact k4⟩
end
section
variable {z : Bool} {P : Program} {tab : Tab} {n lb : Nat} {E : Env} {H : Hp} {QT : Exit → Env → Hp → Prop}
theorem VC.drwTN [Dr] {id : Nat} {l l2 : List Oper} (hT : TabOk P tab) (im : List Nat) (l1 : List Oper) (fl : List Bool) (hl : l = l1 ++ l2) (hm : P.follows .mixedOrders = true) (hB : drawB n l1.length l = true) (hch : chainB l l1.length = true) (hlt : lateB l fl = true) (h : VT P tab im l.toArray l1 E H [] [] fun E H f => f = fl ∧ VX false P tab im (l.map (·.dst)) l2 E H (QT .normal)) : VC z P n lb (.region id l.toArray true) QT E H := by
  have e1 : l.take l1.length = l1 := by rw [hl, List.take_left]
  have e2 : l.drop l1.length = l2 := by rw [hl, List.drop_left]
  obtain ⟨r, fs, ws, E', F', h1, h2, E1, h3, h5, h4⟩ := h E (Sub.refl E)
  have h5' : fs = fl := by simpa using h5
  refine VC.eqv (VC.drawT hT im l1.length hm hB hch ⟨r, fs, ws, E', F', by rw [e1]; exact h1, by rw [h5']; exact hlt, by simpa using h2, ?_⟩)
  rw [e2]
  have := h4 E' h3
  simpa using this
theorem VC.drwT [Dr] {id : Nat} {l l2 : List Oper} {c : Code} (hT : TabOk P tab) (im : List Nat) (l1 : List Oper) (fl : List Bool) (hl : l = l1 ++ l2) (hm : P.follows .mixedOrders = true) (hB : drawB n l1.length l = true) (hch : chainB l l1.length = true) (hlt : lateB l fl = true) (h : VT P tab im l.toArray l1 E H [] [] fun E H f => f = fl ∧ VX false P tab im (l.map (·.dst)) l2 E H fun E H => VC z P n lb c QT E H) : VC z P n lb (.seq (.region id l.toArray true) c) QT E H := VC.seq (VC.drwTN hT im l1 fl hl hm hB hch hlt h)
end
end
section
open Go.RowKit Go.Sort
set_option maxRecDepth 10000
theorem clone_t [Dr] (r : Rect) (l : List Rect) (hl : (r :: l).length ≤ 1048576) : CallT Tryz.prog 77 [.islc (encL cR (r :: l)) (r :: l).length none] [] (fun t H' => t = .slc 0 0 (r :: l).length 4 none ∧ H' = [.c (encL cR (r :: l))]) := by
  refine CallT.intro tab_ok Tryz.func77 rfl (by kernel_rfl) (Nat.le_of_ble_eq_true rfl) ?_
  refine VC.reg tab_ok [] rfl ?_
  refine VX.meek rfl ?_
  refine VX.nil ?_
  refine VC.seq ?_
  refine VC.reg tab_ok [] rfl ?_
  iterate 2 refine VX.meek rfl ?_
  refine VX.nil ?_
  refine VC.condF rfl ?_
  refine VC.skip ?_
  refine VC.reg tab_ok [5] rfl ?_
  refine VX.newI rfl rfl ?_
  refine VX.meek rfl ?_
  refine VX.appM rfl rfl (mApp_empty rfl rfl rfl (src_isl cR (l := r :: l) rfl rfl rfl) (by dsimp only; omega) (by omega) (by rw [encL_len]; rfl)) ?_
  refine VX.meek rfl ?_
  refine VX.nil ?_
  refine VC.ret ?_
  exact ⟨trivial, _, rfl, rfl, rfl⟩
theorem rectsO_t [Dr] (r : Rect) (l : List Rect) (hl : (r :: l).length ≤ 1048576) : CallT Tryz.prog 41 [regT (r :: l)] [] (fun t H' => t = .slc 0 0 (r :: l).length 4 none ∧ H' = [.c (encL cR (r :: l))]) := by
  refine CallT.intro tab_ok Tryz.func41 rfl (by kernel_rfl) (Nat.le_of_ble_eq_true rfl) ?_
  refine VC.reg tab_ok [1] rfl ?_
  refine VX.newI rfl rfl ?_
  refine VX.meek rfl ?_
  refine VX.nil ?_
  refine VC.reg tab_ok [] rfl ?_
  refine VX.meek rfl ?_
  first | refine VX.meek rfl ?_ | refine VX.loadI rfl rfl au_l ?_ | refine VX.loadP rfl rfl rfl au_l ?_
  refine VX.callT rfl rfl (CallT.frame (clone_t r l hl) [] rfl au_ci au_ci ?_)
  rintro _ _ ⟨rfl, rfl⟩
  refine frK au_co au_co ?_
  refine VX.meek rfl ?_
  refine VX.nil ?_
  refine VC.ret ?_
  exact ⟨trivial, _, rfl, rfl, rfl⟩
def mvR (dx dy : Int) (r : Rect) : Rect := ⟨max (r.X + dx) (-1048576), max (r.Y + dy) (-1048576), min (r.X + dx + r.W) 1048576 - max (r.X + dx) (-1048576), min (r.Y + dy + r.H) 1048576 - max (r.Y + dy) (-1048576)⟩
def farB (dx dy : Int) : Bool := decide (dx < -2097152) || decide (2097152 < dx) || decide (dy < -2097152) || decide (2097152 < dy)
noncomputable def shiftR (R : List Rect) (dx dy : Int) : List Rect := if farB dx dy = true then [] else bandOf (R.map (mvR dx dy))
theorem put_two {s : List Rect} {k o1 o2 : Nat} {r1 r2 : Rect} {x1 x2 : Int} (hk : k < s.length) (h1 : o1 + 1 ≤ 4) (h2 : o2 + 1 ≤ 4) (e1 : putL (cR.cells s[k]!) o1 [I64 x1] = cR.cells r1) (e2 : putL (cR.cells r1) o2 [I64 x2] = cR.cells r2) :
    putL (putL (encL cR s) (k * 4 + o1) [I64 x1]) (k * 4 + o2) [I64 x2] = encL cR (s.set k r2) := by
  have a1 := encL_put cR s k o1 s[k]! r1 [I64 x1] (getE hk) h1 e1
  have hk2 : k < (s.set k r1).length := by rw [List.length_set]; exact hk
  have hg : (s.set k r1)[k]? = some r1 := by rw [List.getElem?_set_self hk]
  have a2 := encL_put cR (s.set k r1) k o2 r1 r2 [I64 x2] hg h2 e2
  rw [List.set_set] at a2
  rw [cR_sz] at a1 a2
  rw [a1, a2]
theorem bang_setR {s : List Rect} {k : Nat} (hk : k < s.length) (r : Rect) : (s.set k r)[k]! = r := by
  rw [getElem!_pos (s.set k r) k (by rw [List.length_set]; exact hk), List.getElem_set_self]
theorem step_mv {f : Rect → Rect} {R : List Rect} {k : Nat} (hk : k < R.length) : ((R.take k).map f ++ R.drop k).set k (f R[k]!) = (R.take (k + 1)).map f ++ R.drop (k + 1) := by
  have hl : ((R.take k).map f).length = k := by rw [List.length_map, List.length_take]; omega
  rw [List.set_append_right _ _ (by omega), hl, Nat.sub_self, take_snoc hk, List.map_append, List.append_assoc]
  congr 1
  rw [List.drop_eq_getElem_cons hk]
  show f R[k]! :: R.drop (k + 1) = [R[k]!].map f ++ R.drop (k + 1)
  rfl
theorem at_mv {f : Rect → Rect} {R : List Rect} {k : Nat} (hk : k < R.length) : ((R.take k).map f ++ R.drop k)[k]! = R[k]! := by
  have hl : ((R.take k).map f).length = k := by rw [List.length_map, List.length_take]; omega
  rw [getElem!_pos ((R.take k).map f ++ R.drop k) k (by rw [List.length_append, hl, List.length_drop]; omega), List.getElem_append_right (by omega), getElem!_pos R k hk]
  simp only [List.getElem_drop, hl, Nat.sub_self, Nat.add_zero]
theorem len_mv {f : Rect → Rect} {R : List Rect} {k : Nat} (hk : k ≤ R.length) : ((R.take k).map f ++ R.drop k).length = R.length := by
  rw [List.length_append, List.length_map, List.length_take, List.length_drop]; omega
theorem shift_p [Dr] (R : List Rect) (dx dy : Int) (hr : ∀ r ∈ R, rok r) (hn : R.length ≤ 1048576) : CallP Tryz.prog 21 [regT R, I64 dx, I64 dy] (regT (shiftR R dx dy)) := by
  cases R with
  | nil =>
    refine CallP.intro2 au_pu au_pu ?_
    refine CallT.intro tab_ok Tryz.func21 rfl (by kernel_rfl) (Nat.le_of_ble_eq_true rfl) ?_
    refine VC.reg tab_ok [3] rfl ?_
    refine VX.newI rfl rfl ?_
    refine VX.new rfl rfl ?_
    refine VX.nil ?_
    refine VC.seq ?_
    refine VC.reg tab_ok [] rfl ?_
    iterate 3 refine VX.meek rfl ?_
    refine' VX.merge (d := 14) [_, _, _] rfl ?_ rfl ?_
    rotate_left
    · refine VX.guard rfl rfl (fun hb1_2 => ?_) (fun hb1_2 => ?_)
      · have ghb1_2 := hb1_2
        try simp only [au_std, Bool.not_true, Bool.not_false] at ghb1_2
        refine VX.meek rfl ?_
        refine VX.guardT rfl rfl hb1_2 ?_
        refine VX.meek rfl ?_
        refine VX.pickO rfl (fun _ => rfl) ?_
        exact VX.nil ⟨rfl, rfl⟩
      · refine VX.guardF rfl rfl hb1_2 ?_
        exact VX.pickO rfl (fun h => absurd (h.symm.trans hb1_2) (by decide)) (VX.nil ⟨rfl, rfl⟩)
    refine VX.meek rfl ?_
    refine' VX.merge (d := 18) [_, _, _] rfl ?_ rfl ?_
    rotate_left
    · refine VX.guard rfl rfl (fun hb1_6 => ?_) (fun hb1_6 => ?_)
      · have ghb1_6 := hb1_6
        try simp only [au_std, Bool.not_true, Bool.not_false] at ghb1_6
        refine VX.meek rfl ?_
        refine VX.guardT rfl rfl hb1_6 ?_
        refine VX.meek rfl ?_
        refine VX.pickO rfl (fun _ => rfl) ?_
        exact VX.nil ⟨rfl, rfl⟩
      · refine VX.guardF rfl rfl hb1_6 ?_
        exact VX.pickO rfl (fun h => absurd (h.symm.trans hb1_6) (by decide)) (VX.nil ⟨rfl, rfl⟩)
    refine VX.meek rfl ?_
    refine' VX.merge (d := 22) [_, _, _] rfl ?_ rfl ?_
    rotate_left
    · refine VX.guard rfl rfl (fun hb1_10 => ?_) (fun hb1_10 => ?_)
      · have ghb1_10 := hb1_10
        try simp only [au_std, Bool.not_true, Bool.not_false] at ghb1_10
        refine VX.meek rfl ?_
        refine VX.guardT rfl rfl hb1_10 ?_
        refine VX.meek rfl ?_
        refine VX.pickO rfl (fun _ => rfl) ?_
        exact VX.nil ⟨rfl, rfl⟩
      · refine VX.guardF rfl rfl hb1_10 ?_
        exact VX.pickO rfl (fun h => absurd (h.symm.trans hb1_10) (by decide)) (VX.nil ⟨rfl, rfl⟩)
    refine VX.nil ?_
    refine VC.cond rfl (fun hc0 => ?_) (fun hc0 => ?_)
    · (try simp only [au_std] at hc0); have hf : shiftR [] dx dy = [] := (by unfold shiftR; rw [if_pos (by unfold farB; simp only [Bool.or_eq_true, decide_eq_true_eq]; omega)]); rw [hf]
      refine VC.reg tab_ok [] rfl ?_
      refine VX.meek rfl ?_
      refine VX.store rfl rfl rfl rfl rfl au_sS rfl ?_
      refine VX.nil ?_
      refine VC.ret ?_
      exact ⟨trivial, _, rfl, Cv.agg (CvL.cons (Cv.nil _ (.inl rfl)) CvL.nil)⟩
    · (try simp only [au_std] at hc0); have hf : shiftR [] dx dy = bandOf [] := (by unfold shiftR; rw [if_neg (by unfold farB; simp only [Bool.or_eq_true, decide_eq_true_eq]; omega)]; rfl); rw [hf]
      refine VC.skip ?_
      refine VC.reg tab_ok [] rfl ?_
      first | refine VX.meek rfl ?_ | refine VX.loadI rfl rfl au_l ?_ | refine VX.loadP rfl rfl rfl au_l ?_
      refine VX.callP0 rfl rfl rfl (rects_p [] (by simp)) ?_
      refine VX.meek rfl ?_
      refine VX.nil ?_
      refine VC.seq ?_
      refine VC.reg tab_ok [] rfl ?_
      iterate 3 refine VX.meek rfl ?_
      refine VX.nil ?_
      refine VC.block ?_
      refine VC.loopS (σ := Nat) (fun _ => 1) (fun k => k = 0) (fun _ => [(28, I64 0), (6, .ptr 0 0)]) (fun _ => [.c [NIL]]) [1, 2, 7, 27] rfl (0) ?_ ?_ ?_
      · refine ⟨[some 0], rfl, by first | trivial | decide, rfl, ?_, ?_⟩ <;> (repeat' first | exact trivial | exact CvB_n | exact CvB_d | refine CvE_app ?_ ?_ | refine CvE_cons rfl ?_ ?_ | refine CvH_cons ?_ ?_ | refine CvB_c rfl ?_ | fail) <;> first | exact au_v | (skip)
      · exact rfl
      rintro k hk
      refine VC.reg tab_ok [] rfl ?_
      refine VX.meek rfl ?_
      refine VX.nil ?_
      refine VC.seq ?_
      refine VC.cond rfl (fun hc1 => ?_) (fun hc1 => ?_)
      · exact absurd hc1 (by simp)
      · (try simp only [au_std] at hc1)
        refine VC.exit ?_
        refine VC.reg tab_ok [] rfl ?_
        refine VX.meek rfl ?_
        refine VX.callP0 rfl rfl rfl (of_p [] (by simp) (fun r hr => by cases hr)) ?_
        refine VX.store rfl rfl rfl rfl rfl au_sS rfl ?_
        refine VX.nil ?_
        refine VC.ret ?_
        exact ⟨trivial, _, rfl, Cv.agg (CvL.cons (Cv.pure (encL_pure cR _)) CvL.nil)⟩
  | cons r0 l0 =>
    have hof : ∀ k, k < (r0 :: l0).length → rok (r0 :: l0)[k]! := fun k hk => hr _ (List.mem_iff_getElem?.2 ⟨k, getE hk⟩)
    have hcl := rectsO_t r0 l0 hn
    generalize hR : r0 :: l0 = R at *
    refine CallP.intro2 au_pu au_pu ?_
    refine CallT.intro tab_ok Tryz.func21 rfl (by kernel_rfl) (Nat.le_of_ble_eq_true rfl) ?_
    refine VC.reg tab_ok [3] rfl ?_
    refine VX.newI rfl rfl ?_
    refine VX.new rfl rfl ?_
    refine VX.nil ?_
    refine VC.seq ?_
    refine VC.reg tab_ok [] rfl ?_
    iterate 3 refine VX.meek rfl ?_
    refine' VX.merge (d := 14) [_, _, _] rfl ?_ rfl ?_
    rotate_left
    · refine VX.guard rfl rfl (fun hb1_2 => ?_) (fun hb1_2 => ?_)
      · have ghb1_2 := hb1_2
        try simp only [au_std, Bool.not_true, Bool.not_false] at ghb1_2
        refine VX.meek rfl ?_
        refine VX.guardT rfl rfl hb1_2 ?_
        refine VX.meek rfl ?_
        refine VX.pickO rfl (fun _ => rfl) ?_
        exact VX.nil ⟨rfl, rfl⟩
      · refine VX.guardF rfl rfl hb1_2 ?_
        exact VX.pickO rfl (fun h => absurd (h.symm.trans hb1_2) (by decide)) (VX.nil ⟨rfl, rfl⟩)
    refine VX.meek rfl ?_
    refine' VX.merge (d := 18) [_, _, _] rfl ?_ rfl ?_
    rotate_left
    · refine VX.guard rfl rfl (fun hb1_6 => ?_) (fun hb1_6 => ?_)
      · have ghb1_6 := hb1_6
        try simp only [au_std, Bool.not_true, Bool.not_false] at ghb1_6
        refine VX.meek rfl ?_
        refine VX.guardT rfl rfl hb1_6 ?_
        refine VX.meek rfl ?_
        refine VX.pickO rfl (fun _ => rfl) ?_
        exact VX.nil ⟨rfl, rfl⟩
      · refine VX.guardF rfl rfl hb1_6 ?_
        exact VX.pickO rfl (fun h => absurd (h.symm.trans hb1_6) (by decide)) (VX.nil ⟨rfl, rfl⟩)
    refine VX.meek rfl ?_
    refine' VX.merge (d := 22) [_, _, _] rfl ?_ rfl ?_
    rotate_left
    · refine VX.guard rfl rfl (fun hb1_10 => ?_) (fun hb1_10 => ?_)
      · have ghb1_10 := hb1_10
        try simp only [au_std, Bool.not_true, Bool.not_false] at ghb1_10
        refine VX.meek rfl ?_
        refine VX.guardT rfl rfl hb1_10 ?_
        refine VX.meek rfl ?_
        refine VX.pickO rfl (fun _ => rfl) ?_
        exact VX.nil ⟨rfl, rfl⟩
      · refine VX.guardF rfl rfl hb1_10 ?_
        exact VX.pickO rfl (fun h => absurd (h.symm.trans hb1_10) (by decide)) (VX.nil ⟨rfl, rfl⟩)
    refine VX.nil ?_
    refine VC.cond rfl (fun hc0 => ?_) (fun hc0 => ?_)
    · (try simp only [au_std] at hc0); have hf : shiftR R dx dy = [] := (by unfold shiftR; rw [if_pos (by unfold farB; simp only [Bool.or_eq_true, decide_eq_true_eq]; omega)]); rw [hf]
      refine VC.reg tab_ok [] rfl ?_
      refine VX.meek rfl ?_
      refine VX.store rfl rfl rfl rfl rfl au_sS rfl ?_
      refine VX.nil ?_
      refine VC.ret ?_
      exact ⟨trivial, _, rfl, Cv.agg (CvL.cons (Cv.nil _ (.inl rfl)) CvL.nil)⟩
    · (try simp only [au_std] at hc0); have hf : shiftR R dx dy = bandOf (R.map (mvR dx dy)) := (by unfold shiftR; rw [if_neg (by unfold farB; simp only [Bool.or_eq_true, decide_eq_true_eq]; omega)]); rw [hf]
      have hmv : ∀ q ∈ R.map (mvR dx dy), i64 q.X ∧ i64 q.Y := (fun q hq => by
      obtain ⟨r, h1, rfl⟩ := List.mem_map.1 hq
      have := hr r h1
      unfold rok at this
      unfold mvR i64
      dsimp only
      omega)
      refine VC.skip ?_
      refine VC.reg tab_ok [] rfl ?_
      first | refine VX.meek rfl ?_ | refine VX.loadI rfl rfl au_l ?_ | refine VX.loadP rfl rfl rfl au_l ?_
      refine VX.callT rfl rfl (CallT.frame (hcl) [] rfl au_ci au_ci ?_)
      rintro _ _ ⟨rfl, rfl⟩
      refine frK au_co au_co ?_
      refine VX.meek rfl ?_
      refine VX.nil ?_
      refine VC.seq ?_
      refine VC.reg tab_ok [] rfl ?_
      iterate 3 refine VX.meek rfl ?_
      refine VX.nil ?_
      refine VC.block ?_
      refine VC.loopS (σ := Nat) (fun k => R.length - k) (fun k => k ≤ R.length) (fun k => [(28, I64 k), (6, .ptr 0 0), (7, .slc 1 0 R.length 4 none)]) (fun k => [.c [NIL], .c (encL cR ((R.take k).map (mvR dx dy) ++ R.drop k))]) [1, 2, 27] rfl (0) ?_ ?_ ?_
      · refine ⟨[some 0, some 1], rfl, by first | trivial | decide, rfl, ?_, ?_⟩ <;> (repeat' first | exact trivial | exact CvB_n | exact CvB_d | refine CvE_app ?_ ?_ | refine CvE_cons rfl ?_ ?_ | refine CvH_cons ?_ ?_ | refine CvB_c rfl ?_ | fail) <;> first | exact au_v | (skip)
      · (try dsimp only); omega
      rintro k hk
      refine VC.reg tab_ok [] rfl ?_
      refine VX.meek rfl ?_
      refine VX.nil ?_
      refine VC.seq ?_
      refine VC.cond rfl (fun hc1 => ?_) (fun hc1 => ?_)
      · (try simp only [au_std] at hc1); have hkl : k < R.length := (by omega); have hrk := hof k hkl; unfold rok at hrk; have hst := step_mv (f := mvR dx dy) hkl; have hat := at_mv (f := mvR dx dy) hkl; have hln := len_mv (f := mvR dx dy) (R := R) hk; rw [← hat] at hrk hst
        generalize hcur : (R.take k).map (mvR dx dy) ++ R.drop k = cur at *
        have hkc : k < cur.length := (by omega)
        obtain ⟨r2, hr2⟩ : ∃ r2 : Rect, r2 = ⟨max (cur[k]!.X + dx) (-1048576), cur[k]!.Y, min (cur[k]!.X + dx + cur[k]!.W) 1048576 - max (cur[k]!.X + dx) (-1048576), cur[k]!.H⟩ := ⟨_, rfl⟩
        obtain ⟨cur2, hcur2⟩ : ∃ c, c = cur.set k r2 := ⟨_, rfl⟩
        have hkc2 : k < cur2.length := (by rw [hcur2, List.length_set]; exact hkc)
        have hg2 : cur2[k]! = r2 := (by rw [hcur2]; exact bang_setR hkc r2)
        have hY : cur2[k]!.Y = cur[k]!.Y := (by rw [hg2, hr2])
        have hH : cur2[k]!.H = cur[k]!.H := (by rw [hg2, hr2])
        have hln2 : cur2.length = R.length := (by rw [hcur2, List.length_set]; exact hln)
        have hfin : cur2.set k ⟨cur2[k]!.X, max (cur2[k]!.Y + dy) (-1048576), cur2[k]!.W, min (cur2[k]!.Y + dy + cur2[k]!.H) 1048576 - max (cur2[k]!.Y + dy) (-1048576)⟩ = (R.take (k + 1)).map (mvR dx dy) ++ R.drop (k + 1) := (by rw [← hst, hg2, hcur2, List.set_set, hr2]; rfl)
        have hf1 : k * 4 + 1 ≤ (encL cR cur).length := (by rw [encL_len, cR_sz]; omega)
        have hf2 : k * 4 + 1 + 1 ≤ (encL cR cur2).length := (by rw [encL_len, cR_sz]; omega)
        refine VC.skip ?_
        refine VC.seq ?_
        refine VC.block ?_
        refine VC.reg tab_ok [] rfl ?_
        iterate 2 refine VX.meek rfl ?_
        refine VX.nil ?_
        refine VC.drwT tab_ok [] [_, _, _, _, _, _, _, _, _, _, _, _, _, _, _, _, _, _, _, _, _, _] [true, true, false, false, true, true, true, true, true, true, true, true, true, true, true, true, true, true, false, true, true, false] rfl (by kernel_rfl) (by kernel_rfl) (by kernel_rfl) (by kernel_rfl) ?_
        refine VT.seg true (l1 := [_, _]) rfl ?_
        iterate 2 refine VX.meek rfl ?_
        refine VX.nil ⟨rfl, ?_⟩
        refine VT.seg false (l1 := [_, _]) rfl ?_
        iterate 2 refine VX.meek rfl ?_
        refine VX.nil ⟨rfl, ?_⟩
        refine VT.seg true (l1 := [_, _, _, _, _, _, _, _, _, _, _, _, _, _]) rfl ?_
        iterate 2 refine VX.meek rfl ?_
        first | refine VX.idxI rfl rfl rfl rfl rfl rfl (by omega) ?_ | refine VX.idxO0 rfl rfl rfl rfl rfl rfl rfl (by omega) ?_ | refine VX.idxO0 rfl rfl rfl rfl rfl rfl au_z (by omega) ?_ | refine VX.idxO rfl rfl rfl rfl rfl rfl rfl (by omega) ?_ | refine VX.idxI rfl rfl rfl rfl rfl au_z (by omega) ?_ | refine VX.idxO rfl rfl rfl rfl rfl rfl au_z (by omega) ?_ | refine VX.meek rfl ?_
        refine VX.meek rfl ?_
        first | refine VX.meek rfl ?_ | refine VX.loadI rfl rfl au_l ?_ | refine VX.loadP rfl rfl rfl au_l ?_
        iterate 2 refine VX.meek rfl ?_
        first | refine VX.idxI rfl rfl rfl rfl rfl rfl (by omega) ?_ | refine VX.idxO0 rfl rfl rfl rfl rfl rfl rfl (by omega) ?_ | refine VX.idxO0 rfl rfl rfl rfl rfl rfl au_z (by omega) ?_ | refine VX.idxO rfl rfl rfl rfl rfl rfl rfl (by omega) ?_ | refine VX.idxI rfl rfl rfl rfl rfl au_z (by omega) ?_ | refine VX.idxO rfl rfl rfl rfl rfl rfl au_z (by omega) ?_ | refine VX.meek rfl ?_
        refine VX.meek rfl ?_
        first | refine VX.meek rfl ?_ | refine VX.loadI rfl rfl au_l ?_ | refine VX.loadP rfl rfl rfl au_l ?_
        refine VX.meek rfl ?_
        refine VX.callP0 rfl rfl rfl (moved_p cur[k]!.X cur[k]!.W dx (by omega) (by omega) (by omega)) ?_
        iterate 2 refine VX.meek rfl ?_
        refine VX.nil ⟨rfl, ?_⟩
        refine VT.seg false (l1 := [_]) rfl ?_
        refine VX.meek rfl ?_
        refine VX.nil ⟨rfl, ?_⟩
        refine VT.seg true (l1 := [_, _]) rfl ?_
        first | refine VX.idxI rfl rfl rfl rfl rfl rfl (by omega) ?_ | refine VX.idxO0 rfl rfl rfl rfl rfl rfl rfl (by omega) ?_ | refine VX.idxO0 rfl rfl rfl rfl rfl rfl au_z (by omega) ?_ | refine VX.idxO rfl rfl rfl rfl rfl rfl rfl (by omega) ?_ | refine VX.idxI rfl rfl rfl rfl rfl au_z (by omega) ?_ | refine VX.idxO rfl rfl rfl rfl rfl rfl au_z (by omega) ?_ | refine VX.meek rfl ?_
        refine VX.meek rfl ?_
        refine VX.nil ⟨rfl, ?_⟩
        refine VT.sto rfl rfl rfl rfl ?_
        refine VT.nil (⟨hf1, rfl, trivial⟩) ⟨rfl, ?_⟩
        first | refine VX.idxI rfl rfl rfl rfl rfl rfl (by omega) ?_ | refine VX.idxO0 rfl rfl rfl rfl rfl rfl rfl (by omega) ?_ | refine VX.idxO0 rfl rfl rfl rfl rfl rfl au_z (by omega) ?_ | refine VX.idxO rfl rfl rfl rfl rfl rfl rfl (by omega) ?_ | refine VX.idxI rfl rfl rfl rfl rfl au_z (by omega) ?_ | refine VX.idxO rfl rfl rfl rfl rfl rfl au_z (by omega) ?_ | refine VX.meek rfl ?_
        refine VX.meek rfl ?_
        refine VX.store rfl rfl rfl rfl rfl (show k * 4 + 2 + 1 ≤ (putL (encL cR cur) (k * 4) [I64 (max (cur[k]!.X + dx) (-1048576))]).length by rw [putL_length _ _ _ hf1, encL_len, cR_sz]; omega) rfl ?_
        refine VX.nil ?_
        refine VC.view ([(28, I64 k), (6, .ptr 0 0), (7, .slc 1 0 R.length 4 none)]) ([.c [NIL], .c (encL cR cur2)]) [1, 2, 8, 27] rfl (by refine ⟨[some 0, some 1], rfl, by first | trivial | decide, rfl, ?_, ?_⟩ <;> (repeat' first | exact trivial | exact CvB_n | exact CvB_d | refine CvE_app ?_ ?_ | refine CvE_cons rfl ?_ ?_ | refine CvH_cons ?_ ?_ | refine CvB_c rfl ?_ | fail) <;> first | exact au_v | (first | (rw [hcur2, hr2]; exact CvL.eq (put_two (o1 := 0) (o2 := 2) (r1 := ⟨max (cur[k]!.X + dx) (-1048576), cur[k]!.Y, cur[k]!.W, cur[k]!.H⟩) hkc (by decide) (by decide) rfl rfl) (encL_pure cR _)) | exact CvL.pure rfl)) ?_
        refine VC.drwTN tab_ok [] [_, _, _, _, _, _, _, _, _, _, _, _, _, _, _, _, _, _, _, _, _, _] [true, true, false, false, true, true, true, true, true, true, true, true, true, true, true, true, true, true, false, true, true, false] rfl (by kernel_rfl) (by kernel_rfl) (by kernel_rfl) (by kernel_rfl) ?_
        refine VT.seg true (l1 := [_, _]) rfl ?_
        iterate 2 refine VX.meek rfl ?_
        refine VX.nil ⟨rfl, ?_⟩
        refine VT.seg false (l1 := [_, _]) rfl ?_
        iterate 2 refine VX.meek rfl ?_
        refine VX.nil ⟨rfl, ?_⟩
        refine VT.seg true (l1 := [_, _, _, _, _, _, _, _, _, _, _, _, _, _]) rfl ?_
        iterate 2 refine VX.meek rfl ?_
        first | refine VX.idxI rfl rfl rfl rfl rfl rfl (by omega) ?_ | refine VX.idxO0 rfl rfl rfl rfl rfl rfl rfl (by omega) ?_ | refine VX.idxO0 rfl rfl rfl rfl rfl rfl au_z (by omega) ?_ | refine VX.idxO rfl rfl rfl rfl rfl rfl rfl (by omega) ?_ | refine VX.idxI rfl rfl rfl rfl rfl au_z (by omega) ?_ | refine VX.idxO rfl rfl rfl rfl rfl rfl au_z (by omega) ?_ | refine VX.meek rfl ?_
        refine VX.meek rfl ?_
        first | refine VX.meek rfl ?_ | refine VX.loadI rfl rfl au_l ?_ | refine VX.loadP rfl rfl rfl au_l ?_
        iterate 2 refine VX.meek rfl ?_
        first | refine VX.idxI rfl rfl rfl rfl rfl rfl (by omega) ?_ | refine VX.idxO0 rfl rfl rfl rfl rfl rfl rfl (by omega) ?_ | refine VX.idxO0 rfl rfl rfl rfl rfl rfl au_z (by omega) ?_ | refine VX.idxO rfl rfl rfl rfl rfl rfl rfl (by omega) ?_ | refine VX.idxI rfl rfl rfl rfl rfl au_z (by omega) ?_ | refine VX.idxO rfl rfl rfl rfl rfl rfl au_z (by omega) ?_ | refine VX.meek rfl ?_
        refine VX.meek rfl ?_
        first | refine VX.meek rfl ?_ | refine VX.loadI rfl rfl au_l ?_ | refine VX.loadP rfl rfl rfl au_l ?_
        refine VX.meek rfl ?_
        refine VX.callP0 rfl rfl rfl (moved_p cur2[k]!.Y cur2[k]!.H dy (by omega) (by omega) (by omega)) ?_
        iterate 2 refine VX.meek rfl ?_
        refine VX.nil ⟨rfl, ?_⟩
        refine VT.seg false (l1 := [_]) rfl ?_
        refine VX.meek rfl ?_
        refine VX.nil ⟨rfl, ?_⟩
        refine VT.seg true (l1 := [_, _]) rfl ?_
        first | refine VX.idxI rfl rfl rfl rfl rfl rfl (by omega) ?_ | refine VX.idxO0 rfl rfl rfl rfl rfl rfl rfl (by omega) ?_ | refine VX.idxO0 rfl rfl rfl rfl rfl rfl au_z (by omega) ?_ | refine VX.idxO rfl rfl rfl rfl rfl rfl rfl (by omega) ?_ | refine VX.idxI rfl rfl rfl rfl rfl au_z (by omega) ?_ | refine VX.idxO rfl rfl rfl rfl rfl rfl au_z (by omega) ?_ | refine VX.meek rfl ?_
        refine VX.meek rfl ?_
        refine VX.nil ⟨rfl, ?_⟩
        refine VT.sto rfl rfl rfl rfl ?_
        refine VT.nil (⟨hf2, rfl, trivial⟩) ⟨rfl, ?_⟩
        first | refine VX.idxI rfl rfl rfl rfl rfl rfl (by omega) ?_ | refine VX.idxO0 rfl rfl rfl rfl rfl rfl rfl (by omega) ?_ | refine VX.idxO0 rfl rfl rfl rfl rfl rfl au_z (by omega) ?_ | refine VX.idxO rfl rfl rfl rfl rfl rfl rfl (by omega) ?_ | refine VX.idxI rfl rfl rfl rfl rfl au_z (by omega) ?_ | refine VX.idxO rfl rfl rfl rfl rfl rfl au_z (by omega) ?_ | refine VX.meek rfl ?_
        refine VX.meek rfl ?_
        refine VX.store rfl rfl rfl rfl rfl (show k * 4 + 3 + 1 ≤ (putL (encL cR cur2) (k * 4 + 1) [I64 (max (cur2[k]!.Y + dy) (-1048576))]).length by rw [putL_length _ _ _ hf2, encL_len, cR_sz]; omega) rfl ?_
        refine VX.nil ?_
        refine VC.regN tab_ok [] rfl ?_
        first | refine VX.add rfl rfl (by omega) ?_ | refine VX.meek rfl ?_
        refine VX.meek rfl ?_
        refine VX.nil ?_
        refine ⟨k + 1, by (try dsimp only); omega, ?_, (by refine ⟨[some 0, some 1], rfl, by first | trivial | decide, rfl, ?_, ?_⟩ <;> (repeat' first | exact trivial | exact CvB_n | exact CvB_d | refine CvE_app ?_ ?_ | refine CvE_cons rfl ?_ ?_ | refine CvH_cons ?_ ?_ | refine CvB_c rfl ?_ | fail) <;> first | exact au_v | (first | (rw [← hfin]; exact CvL.eq (put_two (o1 := 1) (o2 := 3) (r1 := ⟨cur2[k]!.X, max (cur2[k]!.Y + dy) (-1048576), cur2[k]!.W, cur2[k]!.H⟩) hkc2 (by decide) (by decide) rfl rfl) (encL_pure cR _)) | exact CvL.pure rfl))⟩
        (try dsimp only); omega
      · (try simp only [au_std] at hc1); obtain rfl : k = R.length := (by omega); rw [List.take_length, List.drop_length, List.append_nil]
        refine VC.view ([(7, .islc (encL cR (R.map (mvR dx dy))) (R.map (mvR dx dy)).length none), (6, .ptr 0 0)]) ([.c [NIL]]) [] rfl (by refine ⟨[some 0], rfl, by first | trivial | decide, rfl, ?_, ?_⟩ <;> (repeat' first | exact trivial | exact CvB_n | exact CvB_d | refine CvE_app ?_ ?_ | refine CvE_cons rfl ?_ ?_ | refine CvH_cons ?_ ?_ | refine CvB_c rfl ?_ | fail) <;> first | exact au_v | (first | (rw [List.length_map]; exact Cv.fslc0 ⟨rfl, by simp⟩ (CvL.pure (encL_pure cR _))) | exact CvL.pure rfl)) ?_
        refine VC.exit ?_
        refine VC.reg tab_ok [] rfl ?_
        refine VX.meek rfl ?_
        refine VX.callP0 rfl rfl rfl (of_p (R.map (mvR dx dy)) (by rw [List.length_map]; omega) hmv) ?_
        refine VX.store rfl rfl rfl rfl rfl au_sS rfl ?_
        refine VX.nil ?_
        refine VC.ret ?_
        exact ⟨trivial, _, rfl, Cv.agg (CvL.cons (Cv.pure (encL_pure cR _)) CvL.nil)⟩
end
section
open Go.RowKit Go.Sort
set_option maxRecDepth 10000
end
section
open Go.RowKit Go.Sort
set_option maxRecDepth 10000
def inQ (x y : Int) : Prop := -1048576 ≤ x ∧ x < 1048576 ∧ -1048576 ≤ y ∧ y < 1048576
theorem inL_rok {R : List Rect} (hr : ∀ r ∈ R, rok r) {x y : Int} (h : inL R x y) : inQ x y := by
  obtain ⟨r, h1, h2⟩ := h
  have := hr r h1
  unfold rok at this; unfold Rect.has at h2; unfold inQ; omega
theorem mv_has {dx dy : Int} {r : Rect} (hr : rok r) (x y : Int) : (countsB (mvR dx dy r) = true ∧ (mvR dx dy r).has x y) ↔ r.has (x - dx) (y - dy) ∧ inQ x y := by
  unfold rok at hr
  unfold countsB fitsB Rect.has mvR inQ
  simp only [Bool.and_eq_true, decide_eq_true_eq]
  omega
theorem shift_in {R : List Rect} (hr : ∀ r ∈ R, rok r) (dx dy x y : Int) : inL (shiftR R dx dy) x y ↔ inL R (x - dx) (y - dy) ∧ inQ x y := by
  unfold shiftR
  split
  · rename_i hf
    constructor
    · intro h; exact absurd h inL_nil
    · rintro ⟨h1, h2⟩
      exfalso
      have h3 := inL_rok hr h1
      unfold farB at hf
      simp only [Bool.or_eq_true, decide_eq_true_eq] at hf
      unfold inQ at h2 h3
      omega
  · rw [bandOf_in]
    constructor
    · rintro ⟨q, hq, hh⟩
      obtain ⟨h1, h2⟩ := List.mem_filter.1 hq
      obtain ⟨r, hr1, rfl⟩ := List.mem_map.1 h1
      have := (mv_has (hr r hr1) x y).1 ⟨h2, hh⟩
      exact ⟨⟨r, hr1, this.1⟩, this.2⟩
    · rintro ⟨⟨r, hr1, h1⟩, h2⟩
      have := (mv_has (hr r hr1) x y).2 ⟨h1, h2⟩
      exact ⟨_, List.mem_filter.2 ⟨List.mem_map.2 ⟨r, hr1, rfl⟩, this.1⟩, this.2⟩
theorem Reg.shift {n : Nat} {R : List Rect} (h : Reg n R) (dx dy : Int) : Reg (n + 2) (shiftR R dx dy) := by
  obtain ⟨xs, ys, h1, h2, h3⟩ := h.few
  refine ⟨?_, ?_, xs.map (· + dx) ++ [-1048576, 1048576], ys.map (· + dy) ++ [-1048576, 1048576], by simp; omega, by simp; omega, ?_, ?_⟩
  · unfold shiftR; split
    · exact canon_nil
    · exact bandOf_canon _
  · unfold shiftR; split
    · intro r hr; cases hr
    · exact bandOf_rok _
  · intro x y hx
    simp only [List.mem_append, List.mem_map, List.mem_cons, List.mem_nil_iff, or_false, not_or] at hx
    have hx1 : x - dx ∉ xs := fun hh => hx.1 ⟨_, hh, by omega⟩
    rw [shift_in h.ok, shift_in h.ok, show x - 1 - dx = x - dx - 1 from by omega, h3.1 (x - dx) (y - dy) hx1]
    unfold inQ
    have e1 := hx.2.1; have e2 := hx.2.2
    constructor
    · rintro ⟨a, b⟩; exact ⟨a, by omega⟩
    · rintro ⟨a, b⟩; exact ⟨a, by omega⟩
  · intro x y hy
    simp only [List.mem_append, List.mem_map, List.mem_cons, List.mem_nil_iff, or_false, not_or] at hy
    have hy1 : y - dy ∉ ys := fun hh => hy.1 ⟨_, hh, by omega⟩
    rw [shift_in h.ok, shift_in h.ok, show y - 1 - dy = y - dy - 1 from by omega, h3.2 (x - dx) (y - dy) hy1]
    unfold inQ
    have e1 := hy.2.1; have e2 := hy.2.2
    constructor
    · rintro ⟨a, b⟩; exact ⟨a, by omega⟩
    · rintro ⟨a, b⟩; exact ⟨a, by omega⟩
theorem shiftR_p [Dr] {n : Nat} {R : List Rect} (h : Reg n R) (hn : n ≤ 500) (dx dy : Int) : CallP Tryz.prog 21 [regT R, I64 dx, I64 dy] (regT (shiftR R dx dy)) :=
  shift_p R dx dy h.ok (Nat.le_trans h.len (Nat.le_trans (Nat.mul_le_mul hn hn) (show 500 * 500 ≤ 1048576 by decide)))
end
section
open Go.ChangeShapes Go.WideShapes Go.ChangeAt Go.RowKit Go.WideElems
inductive Sh where
  | int (k : IntKind)
  | bool
  | str
  | st (l : List Sh)
  | sl (e : Sh)
mutual
def Sh.fits (P : Program) : Sh → TypeId → Bool
  | .int k, t => match P.underlying t with | some (.int k') => decide (k' = k) | _ => false
  | .bool, t => match P.underlying t with | some .bool => true | _ => false
  | .str, t => match P.underlying t with | some .string => true | _ => false
  | .st l, t => match P.underlying t with | some (.struct fs) => Sh.fitsL P l fs.toList 0 (P.cellsOf t) | _ => false
  | .sl e, t => match P.underlying t with | some (.slice u) => Sh.fits P e u && decide (0 < P.cellsOf u) && decide (P.cellsOf t = 1) | _ => false
def Sh.fitsL (P : Program) : List Sh → List Field → Nat → Nat → Bool
  | [], [], o, n => o == n
  | s :: l, f :: fs, o, n => f.offset == o && Sh.fits P s f.type && Sh.fitsL P l fs (o + P.cellsOf f.type) n
  | _, _, _, _ => false
end
def nth (p : List T → Prop) : Nat → List T → Prop
  | 0, xs => xs = []
  | n + 1, xs => ∃ a b, xs = a ++ b ∧ p a ∧ nth p n b
mutual
def Sh.wt : Sh → List T → Prop
  | .int k, ts => ∃ n, ts = [.v (.int k n)] ∧ (Lit.int k n).wf = true
  | .bool, ts => ∃ b, ts = [.v (.bool b)]
  | .str, ts => ∃ s : ByteArray, ts = [.v (.string s)] ∧ s.size ≤ maxLen
  | .st l, ts => Sh.wtL l ts
  | .sl e, ts => ∃ xs n, ts = [.islc xs n none] ∧ n ≤ maxLen ∧ nth (Sh.wt e) n xs
def Sh.wtL : List Sh → List T → Prop
  | [], ts => ts = []
  | s :: l, ts => ∃ a b, ts = a ++ b ∧ Sh.wt s a ∧ Sh.wtL l b
end
def inW (β : Nat → Option (Option (Nat × Nat))) (W : World) : Mp := ⟨β, fun _ => False, W⟩
theorem RepA.app {M : Mp} : ∀ {ts ss : List T} {a : Array Value} {j : Nat}, RepA M ts a j → RepA M ss a (j + ts.length) → RepA M (ts ++ ss) a j
  | [], ss, a, j, _, h => h
  | t :: ts, ss, a, j, ⟨u, h1, h2, h3⟩, h => ⟨u, h1, h2, RepA.app h3 (by rw [show j + 1 + ts.length = j + (t :: ts).length from by rw [List.length_cons]; omega]; exact h)⟩
theorem cell_block {W : World} {B o : Nat} {v : Value} (h : W.cell? ⟨B, o, none⟩ = some v) : ∃ a e f, W.heap[B]? = some (.cells a e f) := by
  unfold World.cell? at h
  split at h
  · rename_i c e f hh
    exact ⟨c, e, f, hh⟩
  · cases h
theorem cell_inW {W : World} {B o : Nat} {a : Array Value} {e : TypeId} {f : Nat × Nat} (h : W.heap[B]? = some (.cells a e f)) : W.cell? ⟨B, o, none⟩ = a[o]? := by
  unfold World.cell?
  rw [h]
  rfl
theorem add_n (B o i : Nat) : (Addr.add ⟨B, o, none⟩ i) = ⟨B, o + i, none⟩ := by
  unfold Addr.add
  split
  · subst_vars; rfl
  · rfl
section
variable {H : Type} {enc : TypeId × Value → H} {P : Program} {W : World} {sp : Nat → Bool} {held : Bool} {β : Nat → Option (Option (Nat × Nat))}
mutual
theorem open_sh : ∀ (s : Sh) {t : TypeId} {fuel : Nat} {cs : List Value} {x : DataW H × List MemPlace}, s.fits P t = true → DataW.trod enc P W 0 sp held fuel t cs = some x → cs.length = P.cellsOf t → ∃ ts, RepL (inW β W) ts cs ∧ s.wt ts
  | .int k, t, fuel, cs, x, hs, h, hl => by
    unfold Sh.fits at hs
    split at hs
    · rename_i k' hu
      obtain rfl : k' = k := of_decide_eq_true hs
      obtain ⟨n, rfl, _, hw⟩ := DataW.trod_int hu h
      exact ⟨[.v (.int k' n)], ⟨_, _, rfl, rfl, rfl⟩, n, rfl, hw⟩
    · cases hs
  | .bool, t, fuel, cs, x, hs, h, hl => by
    unfold Sh.fits at hs
    split at hs
    · rename_i hu
      cases fuel with
      | zero => simp [DataW.trod] at h
      | succ n =>
        unfold DataW.trod at h
        rw [hu] at h
        split at h <;> simp_all
        exact ⟨[.v (.bool _)], ⟨_, _, rfl, rfl, rfl⟩, _, rfl⟩
    · cases hs
  | .str, t, fuel, cs, x, hs, h, hl => by
    unfold Sh.fits at hs
    split at hs
    · rename_i hu
      obtain ⟨s, rfl, _, hw⟩ := DataW.trod_string hu h
      exact ⟨[.v (.string s)], ⟨_, _, rfl, rfl, rfl⟩, s, rfl, hw⟩
    · cases hs
  | .st l, t, fuel, cs, x, hs, h, hl => by
    unfold Sh.fits at hs
    split at hs
    · rename_i fs hu
      obtain ⟨xs, n, -, -, hc, hx, hf⟩ := DataW.trod_struct hu h
      have := open_shL l (fs := fs.toList) (o := 0) (n := P.cellsOf t) (cs := cs) (m := n) hs hc (fun f hm => by
        obtain ⟨i, hi⟩ := List.getElem?_of_mem hm
        have hi2 : fs[i]? = some f := by simpa using hi
        have h1 := hf i f hi2
        have hlt : i < xs.length := by rw [hx]; exact (Array.getElem?_eq_some_iff.1 hi2).1
        exact ⟨xs[i], by rw [h1, List.getElem?_eq_getElem hlt]⟩)
      rw [List.drop_zero] at this
      exact this
    · cases hs
  | .sl e, t, fuel, cs, x, hs, h, hl => by
    unfold Sh.fits at hs
    split at hs
    · rename_i u hu
      simp only [Bool.and_eq_true, decide_eq_true_eq] at hs
      obtain ⟨hs, -⟩ := hs
      rcases DataW.trod_slice hu h with ⟨rfl, -⟩ | ⟨a, len, cap, elems, rest, m, -, rfl, -, -, hle, hcap, hlen, hel, -, -⟩
      · exact ⟨[.islc [] 0 none], ⟨_, _, rfl, ⟨none, 0, rfl, Nat.le_refl _, Nat.zero_le _, fun q hq => (by cases hq), .inl ⟨rfl, rfl⟩⟩, rfl⟩, [], 0, rfl, Nat.zero_le _, rfl⟩
      · by_cases hn : len = 0
        · subst hn
          exact ⟨[.islc [] 0 none], ⟨_, _, rfl, ⟨some a, cap, rfl, Nat.zero_le _, hcap, fun q hq => (by cases hq), .inl ⟨rfl, rfl⟩⟩, rfl⟩, [], 0, rfl, Nat.zero_le _, rfl⟩
        · have h0 := hel 0 (by omega)
          have hsome : ∀ i, i < len → ∃ cs' y, W.cells? 0 (a.add (i * P.cellsOf u)) (P.cellsOf u) = some cs' ∧ DataW.trod enc P W 0 sp held m u cs' = some y := fun i hi => by
            have hq := hel i hi
            rw [List.getElem?_eq_getElem (by omega), Option.bind_eq_some_iff] at hq
            obtain ⟨cs', h1, h2⟩ := hq
            exact ⟨cs', _, h1, h2⟩
          obtain ⟨ab, ao, asx⟩ := a
          obtain ⟨cs0, y0, c1, -⟩ := hsome 0 (by omega)
          obtain ⟨-, c2, c3⟩ := World.cells?_some c1
          have c4 := c3 0 hs.2
          rw [List.getElem?_eq_getElem (by omega)] at c4
          have hspot : asx = none := by simpa [Addr.add] using World.cell?_spot c4
          subst hspot
          rw [add_n, add_n] at c4
          obtain ⟨arr, e1, f1, hB⟩ := cell_block c4
          have build : ∀ n i, i + n ≤ len → ∃ xs, nth e.wt n xs ∧ RepA (inW β W) xs arr (ao + i * P.cellsOf u) := by
            intro n
            induction n with
            | zero => exact fun i _ => ⟨[], rfl, trivial⟩
            | succ n ih =>
              intro i hi
              obtain ⟨xs, k1, k2⟩ := ih (i + 1) (by omega)
              obtain ⟨cs', y, g1, g2⟩ := hsome i (by omega)
              obtain ⟨-, g3, g4⟩ := World.cells?_some g1
              obtain ⟨ts, r1, r2⟩ := open_sh e hs.1 g2 g3
              have hlen' : ts.length = P.cellsOf u := by rw [← r1.length, g3]
              refine ⟨ts ++ xs, ⟨ts, xs, rfl, r2, k1⟩, RepA.app (repA_of fun j tj hj => ?_) (by rw [hlen', Nat.add_assoc, ← Nat.succ_mul]; exact k2)⟩
              obtain ⟨uj, q1, q2⟩ := r1.get j tj hj
              have hjl : j < P.cellsOf u := by rw [← g3]; exact (List.getElem?_eq_some_iff.1 q1).1
              refine ⟨uj, ?_, q2⟩
              rw [← q1, ← g4 j hjl, add_n, add_n, cell_inW hB]
          obtain ⟨xs, k1, k2⟩ := build len 0 (by omega)
          rw [Nat.zero_mul, Nat.add_zero] at k2
          refine ⟨[.islc xs len none], ⟨_, _, rfl, ⟨_, cap, rfl, hle, hcap, fun q hq => (by cases hq), .inr ⟨ab, ao, arr, rfl, ⟨fun hx => hx, e1, f1, hB⟩, k2⟩⟩, rfl⟩, xs, len, rfl, by omega, k1⟩
    · cases hs
theorem open_shL : ∀ (l : List Sh) {fs : List Field} {o n m : Nat} {cs : List Value}, Sh.fitsL P l fs o n = true → cs.length = n → (∀ f ∈ fs, ∃ x, DataW.trod enc P W 0 sp held m f.type ((cs.drop f.offset).take (P.cellsOf f.type)) = some x) → ∃ ts, RepL (inW β W) ts (cs.drop o) ∧ Sh.wtL l ts
  | [], [], o, n, m, cs, hs, hl, h => by
    have e : o = n := by unfold Sh.fitsL at hs; simpa using hs
    exact ⟨[], by show cs.drop o = []; rw [List.drop_eq_nil_iff]; omega, rfl⟩
  | [], f :: fs, o, n, m, cs, hs, hl, h => by unfold Sh.fitsL at hs; cases hs
  | s :: l, [], o, n, m, cs, hs, hl, h => by unfold Sh.fitsL at hs; cases hs
  | s :: l, f :: fs, o, n, m, cs, hs, hl, h => by
    unfold Sh.fitsL at hs
    simp only [Bool.and_eq_true, beq_iff_eq] at hs
    obtain ⟨⟨h1, h2⟩, h3⟩ := hs
    have hle := fitsL_le l h3
    obtain ⟨x, hx⟩ := h f (by simp)
    obtain ⟨a, a1, a2⟩ := open_sh s h2 hx (by rw [List.length_take, List.length_drop]; omega)
    obtain ⟨b, b1, b2⟩ := open_shL l h3 hl (fun g hg => h g (by simp [hg]))
    refine ⟨a ++ b, ?_, a, b, rfl, a2, b2⟩
    have e : cs.drop o = (cs.drop f.offset).take (P.cellsOf f.type) ++ cs.drop (o + P.cellsOf f.type) := by
      rw [h1, ← List.drop_drop, List.take_append_drop]
    rw [e]
    exact RepL.append a1 b1
theorem fitsL_le : ∀ (l : List Sh) {fs : List Field} {o n : Nat}, Sh.fitsL P l fs o n = true → o ≤ n
  | [], [], o, n, hs => by unfold Sh.fitsL at hs; simp at hs; omega
  | [], f :: fs, o, n, hs => by unfold Sh.fitsL at hs; cases hs
  | s :: l, [], o, n, hs => by unfold Sh.fitsL at hs; cases hs
  | s :: l, f :: fs, o, n, hs => by
    unfold Sh.fitsL at hs
    simp only [Bool.and_eq_true, beq_iff_eq] at hs
    have := fitsL_le l hs.2
    omega
end
def Sh.tree : Sh → List T → T
  | .st _, ts => .agg ts
  | _, ts => ts.headD (.tup [])
theorem open_arg {b0 : Nat} (s : Sh) {t : TypeId} {v : Value} {d : DataW H} {p : List MemPlace} (hs : s.fits P t = true) (hv : Value.okWide P W .any b0 t v) (h : DataW.Trod enc P W 0 sp held t v d p) :
    ∃ ts, Rep (inW β W) (s.tree ts) v ∧ s.wt ts := by
  obtain ⟨fuel, hf⟩ := h
  cases s with
  | int k =>
    have hs' := hs
    unfold Sh.fits at hs
    split at hs
    · rename_i k' hu
      obtain ⟨n, rfl⟩ := okWide_int hu hv
      obtain ⟨n', e, _, hw⟩ := DataW.trod_int hu hf
      simp [Value.cells] at e
      obtain ⟨rfl⟩ := e
      obtain rfl : k' = k := of_decide_eq_true hs
      exact ⟨[.v (.int k' n)], rfl, n, rfl, hw⟩
    · cases hs
  | bool =>
    unfold Sh.fits at hs
    split at hs
    · rename_i hu
      obtain ⟨n, rfl⟩ := okWide_bool hu hv
      exact ⟨[.v (.bool n)], rfl, n, rfl⟩
    · cases hs
  | str =>
    unfold Sh.fits at hs
    split at hs
    · rename_i hu
      obtain ⟨n, rfl⟩ := okWide_string hu hv
      obtain ⟨n', e, _, hw⟩ := DataW.trod_string hu hf
      simp [Value.cells] at e
      subst e
      exact ⟨[.v (.string n)], rfl, n, rfl, hw⟩
    · cases hs
  | st l =>
    have hs' := hs
    unfold Sh.fits at hs
    split at hs
    · rename_i fs hu
      obtain ⟨cs, rfl, hsz⟩ := okWide_struct hu hv
      obtain ⟨ts, r1, r2⟩ := open_sh (β := β) (.st l) hs' hf (by rw [← hsz]; rfl)
      exact ⟨ts, ⟨cs.toList, rfl, r1⟩, r2⟩
    · cases hs
  | sl e =>
    have hs' := hs
    unfold Sh.fits at hs
    split at hs
    · rename_i u hu
      obtain ⟨a, len, cap, rfl⟩ := okWide_slice hu hv
      have hl1 : P.cellsOf t = 1 := by
        simp only [Bool.and_eq_true, decide_eq_true_eq] at hs
        exact hs.2
      obtain ⟨ts, r1, r2⟩ := open_sh (β := β) (.sl e) hs' hf (by rw [hl1]; rfl)
      obtain ⟨xs, n, rfl, h1, h2⟩ := r2
      obtain ⟨w, r, e1, e2, e3⟩ := r1
      have e1' : [Value.slice a len cap] = w :: r := e1
      injection e1' with e4 e5
      subst e4
      exact ⟨[.islc xs n none], e2, xs, n, rfl, h1, h2⟩
    · cases hs
theorem law_run [Dr] {f : FuncId} {args : List T} {vs : List Value} (h : CallP P f args (.v (.bool true))) (hr : RepL (inW (fun _ => none) W) args vs) :
    Calls P f vs.toArray W (fun e W' => e = .returned (.bool true) ∧ Below W.heap.size W W') :=
  (h.run (fun _ => False) (inW (fun _ => none) W) vs (fun B hB => hB.elim) hr).mono fun e W' ⟨u, h1, h2, h3, h4⟩ => by
    have h3' : u = .bool true := h3
    subst h3'
    exact ⟨h1, ⟨h2.os, h2.tape.1, h2.output, h2.size, h4⟩⟩
end
end
section
open Go.RowKit Go.Sort
set_option maxRecDepth 10000
def padL (P : List Int) (n : Nat) : List Int := (List.range n).map fun i => if i < P.length then P[i]! else 0
theorem padL_len (P : List Int) (n : Nat) : (padL P n).length = n := by simp [padL]
theorem padL_bd {P : List Int} (hb : ∀ v ∈ P, 0 ≤ v ∧ v < 256) (n : Nat) : ∀ v ∈ padL P n, 0 ≤ v ∧ v < 256 := fun v hv => by
  unfold padL at hv
  obtain ⟨i, hi, rfl⟩ := List.mem_map.1 hv
  split
  · exact bang_bd hb _
  · exact ⟨by decide, by decide⟩
end
section
open Go.RowKit Go.Sort
abbrev shI : Sh := .int .i64
abbrev shU : Sh := .int .u8
abbrev shR : Sh := .st [shI, shI, shI, shI]
theorem lit_i64 {n : Int} (h : (Lit.int .i64 n).wf = true) : i64 n := by
  simp [Lit.wf, IntKind.min, IntKind.max, IntKind.signed, IntKind.bits] at h
  unfold i64; omega
theorem lit_u8 {n : Int} (h : (Lit.int .u8 n).wf = true) : 0 ≤ n ∧ n < 256 := by
  simp [Lit.wf, IntKind.min, IntKind.max, IntKind.signed, IntKind.bits] at h
  omega
theorem wt_i64 {ts : List T} (h : shI.wt ts) : ∃ n, ts = [I64 n] ∧ i64 n := by
  obtain ⟨n, rfl, hw⟩ := h
  exact ⟨n, rfl, lit_i64 hw⟩
theorem wt_u8 {ts : List T} (h : shU.wt ts) : ∃ n, ts = [U8 n] ∧ 0 ≤ n ∧ n < 256 := by
  obtain ⟨n, rfl, hw⟩ := h
  exact ⟨n, rfl, lit_u8 hw⟩
theorem nth_dec {α : Type} (c : Cd α) {p : List T → Prop} {Q : α → Prop} (h : ∀ a, p a → ∃ x, a = c.cells x ∧ Q x) : ∀ (n : Nat) {xs : List T}, nth p n xs → ∃ l : List α, xs = encL c l ∧ l.length = n ∧ ∀ x ∈ l, Q x
  | 0, xs, k => ⟨[], k, rfl, fun _ hx => by cases hx⟩
  | n + 1, xs, ⟨a, b, e, k1, k2⟩ => by
    obtain ⟨x, rfl, hx⟩ := h a k1
    obtain ⟨l, rfl, rfl, hl⟩ := nth_dec c h n k2
    exact ⟨x :: l, e, rfl, fun y hy => by
      rcases List.mem_cons.1 hy with rfl | hy
      · exact hx
      · exact hl y hy⟩
theorem wt_sl {α : Type} (c : Cd α) {s : Sh} {Q : α → Prop} (h : ∀ a, s.wt a → ∃ x, a = c.cells x ∧ Q x) {ts : List T} (k : (Sh.sl s).wt ts) : ∃ l : List α, ts = [.islc (encL c l) l.length none] ∧ l.length ≤ maxLen ∧ ∀ x ∈ l, Q x := by
  obtain ⟨xs, n, rfl, h1, h2⟩ := k
  obtain ⟨l, rfl, rfl, hl⟩ := nth_dec c h n h2
  exact ⟨l, rfl, h1, hl⟩
def rI (r : Rect) : Prop := i64 r.X ∧ i64 r.Y ∧ i64 r.W ∧ i64 r.H
theorem wt_rect {ts : List T} (h : shR.wt ts) : ∃ r : Rect, ts = cR.cells r ∧ rI r := by
  obtain ⟨a, b, rfl, h1, c, d, rfl, h2, e, f, rfl, h3, g, k, rfl, h4, rfl⟩ := h
  obtain ⟨x, rfl, hx⟩ := wt_i64 h1
  obtain ⟨y, rfl, hy⟩ := wt_i64 h2
  obtain ⟨w, rfl, hw⟩ := wt_i64 h3
  obtain ⟨z, rfl, hz⟩ := wt_i64 h4
  exact ⟨⟨x, y, w, z⟩, rfl, hx, hy, hw, hz⟩
theorem wt_rects {ts : List T} (h : (Sh.sl shR).wt ts) : ∃ l : List Rect, ts = [.islc (encL cR l) l.length none] ∧ l.length ≤ maxLen ∧ ∀ r ∈ l, rI r := wt_sl cR (fun _ => wt_rect) h
end
section
open Go.RowKit Go.Sort
set_option maxRecDepth 10000
set_option maxHeartbeats 1000000
end
section
open Go.RowKit Go.Sort
set_option maxRecDepth 10000
set_option maxHeartbeats 1000000
end
section
open Go.RowKit Go.Sort
set_option maxRecDepth 10000
theorem padL_bang (P : List Int) (n j : Nat) : (padL P n)[j]! = if j < n ∧ j < P.length then P[j]! else 0 := by
  by_cases hj : j < n
  · rw [getElem!_pos (padL P n) j (by rw [padL_len]; exact hj)]
    unfold padL
    rw [List.getElem_map, List.getElem_range]
    by_cases h2 : j < P.length
    · rw [if_pos h2, if_pos ⟨hj, h2⟩]
    · rw [if_neg h2, if_neg (fun h => h2 h.2)]
  · rw [if_neg (fun h => hj h.1), List.getElem!_eq_getElem?_getD, List.getElem?_eq_none (by rw [padL_len]; omega)]; rfl
theorem padL_nil (n : Nat) : padL [] n = List.replicate n 0 := by
  refine listI_ext (by rw [padL_len, List.length_replicate]) fun i hi => ?_
  rw [padL_bang, if_neg (by simp), repl_at]
theorem take_bang {P : List Int} {i j : Nat} (h : j < i) : (P.take i)[j]! = P[j]! := by
  rw [List.getElem!_eq_getElem?_getD, List.getElem!_eq_getElem?_getD, List.getElem?_take_of_lt h]
theorem padL_set {P : List Int} {n i : Nat} (hi : i < n) (hP : i < P.length) : (padL (P.take i) n).set i P[i]! = padL (P.take (i + 1)) n := by
  refine listI_ext (by rw [List.length_set, padL_len, padL_len]) fun j hj => ?_
  rw [List.length_set, padL_len] at hj
  rw [bang_set, padL_bang, padL_bang, padL_len, List.length_take, List.length_take]
  by_cases e : i = j
  · subst e
    rw [if_pos ⟨rfl, hi⟩, if_pos ⟨hi, by omega⟩, take_bang (by omega)]
  · rw [if_neg (fun h => e h.1)]
    by_cases h : j < i
    · rw [if_pos ⟨hj, by omega⟩, if_pos ⟨hj, by omega⟩, take_bang h, take_bang (by omega)]
    · rw [if_neg (by omega), if_neg (by omega)]
end
section
open Go.RowKit Go.Sort
set_option linter.unusedVariables false
end
section
open Go.RowKit Go.Sort
set_option maxRecDepth 10000
set_option maxHeartbeats 1000000
structure PcS where
  f : Int
  pl : Int
  x : Int
  y : Int
  cl : Bool
  c : List Rect
def PcS.Ok (p : PcS) : Prop := (0 ≤ p.f ∧ p.f < 256) ∧ (0 ≤ p.pl ∧ p.pl < 256) ∧ (-128 ≤ p.x ∧ p.x ≤ 127) ∧ (-128 ≤ p.y ∧ p.y ≤ 127) ∧ ∀ s ∈ p.c, smOk s
structure AllS where
  sw : Nat
  sh : Nat
  sP : List Int
  dw : Nat
  dh : Nat
  dP : List Int
  fr : List Rect
  clip : List Rect
  s : Rect
  x : Int
  y : Int
  p : PcS
def AllS.Ok (a : AllS) : Prop := (a.sw < 256 ∧ a.sh < 256 ∧ ∀ v ∈ a.sP, 0 ≤ v ∧ v < 256) ∧ (a.dw < 256 ∧ a.dh < 256 ∧ ∀ v ∈ a.dP, 0 ≤ v ∧ v < 256) ∧ (∀ s ∈ a.fr, smOk s) ∧ (∀ s ∈ a.clip, smOk s) ∧ smOk a.s ∧ (-128 ≤ a.x ∧ a.x ≤ 127) ∧ (-128 ≤ a.y ∧ a.y ≤ 127) ∧ a.p.Ok
end
section
open Go.RowKit Go.Sort
set_option maxRecDepth 10000
theorem opL_sub {n m : Nat} {a b : List Rect} (ha : Reg n a) (hb : Reg m b) {x y : Int} : inL (opL subB a b) x y ↔ inL a x y ∧ ¬ inL b x y := by
  rw [opL_in (k := subB) rfl ha.1 hb.1 ha.2 hb.2 x y]
  unfold subB
  simp

end
section
open Go.RowKit
instance looseI : Dr := looseD
theorem CallP.of_calls {P : Program} {f : FuncId} {v : Value} (hgo : goB P f = true) (h : ∀ w, Calls P f #[] w (fun e w' => e = .returned v ∧ Below w.heap.size w w')) : CallP P f [] (.v v) := by
  refine ⟨rfl, rfl, hgo, fun X0 M us hS hr => ?_⟩
  obtain rfl := hr
  refine (h M.w).mono ?_
  rintro e w' ⟨rfl, hb⟩
  have hk : ∀ B, B < M.w.heap.size → w'.heap[B]? = M.w.heap[B]? := fun B hB => hb.block B hB
  have hE : Evo X0 M ⟨M.β, M.X, w'⟩ := ⟨fun _ _ h => h, fun _ _ h => h, fun B hB _ => hk B hB, fun B s hs => by
    have : B < M.w.heap.size := by
      rcases Nat.lt_or_ge B M.w.heap.size with h1 | h1
      · exact h1
      · simp [World.shape?, Array.getElem?_eq_none h1] at hs
    rw [← hs]; exact shape_block (hk B this), hb.os, ⟨hb.tape, fun d => d.elim⟩, hb.output, hb.size⟩
  exact ⟨v, .v v, [], ⟨M.β, M.X, w'⟩, rfl, rfl, rfl, hE, hS.world hE hk, rfl⟩
end
section
open Go.RowKit Go.Sort
set_option maxRecDepth 10000
def strL (s : ByteArray) : List Int := s.data.toList.map fun c => (c.toNat : Int)
theorem strL_len (s : ByteArray) : (strL s).length = s.size := by unfold strL; rw [List.length_map]; exact Array.length_toList
theorem strL_bd (s : ByteArray) : ∀ v ∈ strL s, 0 ≤ v ∧ v < 256 := fun v hv => by
  unfold strL at hv
  obtain ⟨c, -, rfl⟩ := List.mem_map.1 hv
  have := c.toNat_lt
  omega
theorem strL_enc (s : ByteArray) : s.data.toList.map (fun c => T.v (.int .u8 c.toNat)) = encL cU (strL s) := by
  unfold strL
  generalize s.data.toList = l
  induction l with
  | nil => rfl
  | cons a l ih => rw [List.map_cons, ih]; rfl
theorem encL_take_u (l : List Int) (n : Nat) : (encL cU l).take (n * 1) = encL cU (l.take n) := by
  have := encL_take cU l n
  rw [cU_sz] at this
  exact this
theorem padL_put (P : List Int) (n : Nat) : putL (encL cU (List.replicate n 0)) 0 ((encL cU P).take (min P.length n * 1)) = encL cU (padL P n) := by
  rw [encL_take_u]
  have hl : (encL cU (P.take (min P.length n))).length = min P.length n := by rw [encL_len, cU_sz, Nat.mul_one, List.length_take]; omega
  have hz : (encL cU (List.replicate n (0 : Int))).length = n := by rw [encL_len, cU_sz, Nat.mul_one, List.length_replicate]
  have e : padL P n = P.take (min P.length n) ++ List.replicate (n - min P.length n) 0 := by
    refine listI_ext (by rw [padL_len, List.length_append, List.length_take, List.length_replicate]; omega) fun i hi => ?_
    rw [padL_len] at hi
    rw [padL_bang, List.getElem!_eq_getElem?_getD (l := _ ++ _)]
    by_cases h : i < P.length
    · rw [if_pos ⟨hi, h⟩, List.getElem?_append_left (by rw [List.length_take]; omega), List.getElem?_take_of_lt (by omega), ← List.getElem!_eq_getElem?_getD]
    · rw [if_neg (fun k => h k.2), List.getElem?_append_right (by rw [List.length_take]; omega), List.getElem?_replicate]
      split <;> rfl
  rw [e, encL_append]
  unfold putL
  rw [List.take_zero, List.nil_append, Nat.zero_add, hl]
  congr 1
  have e2 := encL_drop cU (List.replicate n (0 : Int)) (min P.length n)
  rw [cU_sz, Nat.mul_one, List.drop_replicate] at e2
  exact e2
theorem VX.copyS {P : Program} {tab : Tab} {im : List Nat} {ds : List (Option Nat)} {l : List Oper} {E : Env} {H : Hp} {K : Env → Hp → Prop} {d : Option Nat} {ty : TypeId} {pos : String} {after : Array Edge} {x y : Operand} {t1 t2 : TypeId} {e b n : Nat} {i j i2 : TyI} {c : Option Nat} {s : ByteArray} (hT : tab t1 = some i) (hk : i.k = .sl e) (hj : tab e = some j) (hz : j.sz = 1) (hT2 : tab t2 = some i2) (hk2 : i2.k = .str) (hx : E.opd x = some (.slc b 0 n 1 c)) (hy : E.opd y = some (.v (.string s)))
    (hc : lookH H b = some (encL cU (List.replicate n 0))) (k : VX false P tab im ds l (putC E d (.v (.int .i64 (min s.size n : Nat)))) (setH H b (.c (encL cU (padL (strL s) n)))) K) : VX false P tab im ds (⟨d, .call ⟨.builtin .copy, #[x, y], #[t1, t2]⟩, ty, pos, after, none⟩ :: l) E H K := by
  refine VX.copy hx hy (r := .v (.int .i64 (min s.size n : Nat))) (H' := setH H b (.c (encL cU (padL (strL s) n)))) ?_ k
  have hl : (encL cU (strL s)).length = s.size := by rw [encL_len, cU_sz, Nat.mul_one, strL_len]
  have hr : (encL cU (List.replicate n (0 : Int))).length = n := by rw [encL_len, cU_sz, Nat.mul_one, List.length_replicate]
  simp only [mCopy, hT, hk, hj, srcCells, hT2, hk2, hz, if_true, hc, strL_enc]
  rw [if_pos ⟨trivial, by omega, by omega, encL_cb cU _⟩]
  have := padL_put (strL s) n
  rw [strL_len] at this
  rw [this]
abbrev gridL (W H : Nat) (B : ByteArray) : List T := [U8 W, U8 H, .v (.string B)]
theorem made_p (W H : Nat) (B : ByteArray) (hW : W < 256) (hH : H < 256) : CallP Tryz.prog 6 [.agg (gridL W H B)]
    (.tup [gT (W % 24 + 1) (H % 24 + 1) (padL (strL B) ((W % 24 + 1) * (H % 24 + 1))), I64 (W % 24 + 1 : Nat), I64 (H % 24 + 1 : Nat), .islc (encL cU (padL (strL B) ((W % 24 + 1) * (H % 24 + 1)))) ((W % 24 + 1) * (H % 24 + 1)) none]) := by
  have hwh : (W % 24 + 1) * (H % 24 + 1) ≤ 24 * 24 := Nat.mul_le_mul (by omega) (by omega)
  generalize hw : W % 24 + 1 = w at *
  generalize hh : H % 24 + 1 = h at *
  have hm : (w : Int) * (h : Int) = ((w * h : Nat) : Int) := (Int.natCast_mul w h).symm
  have hw1 : 1 ≤ w ∧ w ≤ 24 := by omega
  have hh1 : 1 ≤ h ∧ h ≤ 24 := by omega
  have hpl := padL_len (strL B) (w * h)
  have hpb := padL_bd (strL_bd B) (w * h)
  generalize hpx : padL (strL B) (w * h) = px at hpl hpb
  refine CallP.intro2 au_pu au_pu ?_
  refine CallT.intro tab_ok Tryz.func6 rfl (by kernel_rfl) (Nat.le_of_ble_eq_true rfl) ?_
  refine VC.reg tab_ok [1] rfl ?_
  refine VX.newI rfl rfl ?_
  refine VX.new rfl rfl ?_
  iterate 3 refine VX.meek rfl ?_
  refine VX.nil ?_
  refine VC.drw tab_ok [] [_, _, _, _, _, _, _, _, _, _, _, _] rfl (by kernel_rfl) (by kernel_rfl) ?_
  refine VX.meek rfl ?_
  first | refine VX.meek rfl ?_ | refine VX.loadI rfl rfl au_l ?_ | refine VX.loadP rfl rfl rfl au_l ?_
  refine VX.remU rfl rfl (by omega) (by omega) ?_
  refine VX.meek (t := I64 ((W : Int) % 24)) (by show some (T.v (.int .i64 (IntKind.i64.wrap ((W : Int) % 24))), (none : Option (Nat × List T))) = _; rw [wrap_in (by omega)]) ?_
  refine VX.add rfl rfl (by omega) ?_; rw [show (W : Int) % 24 + 1 = (w : Int) from by omega]
  refine VX.meek rfl ?_
  first | refine VX.meek rfl ?_ | refine VX.loadI rfl rfl au_l ?_ | refine VX.loadP rfl rfl rfl au_l ?_
  refine VX.remU rfl rfl (by omega) (by omega) ?_
  refine VX.meek (t := I64 ((H : Int) % 24)) (by show some (T.v (.int .i64 (IntKind.i64.wrap ((H : Int) % 24))), (none : Option (Nat × List T))) = _; rw [wrap_in (by omega)]) ?_
  refine VX.add rfl rfl (by omega) ?_; rw [show (H : Int) % 24 + 1 = (h : Int) from by omega]
  iterate 2 refine VX.meek rfl ?_
  refine VX.nil ?_
  refine VX.nil ?_
  refine VC.reg tab_ok [] rfl ?_
  iterate 2 refine VX.meek rfl ?_
  first | refine VX.mul rfl rfl (by omega) ?_ | refine VX.meek rfl ?_
  refine VX.mkS (a := w * h) (b := w * h) rfl rfl rfl rfl rfl rfl hm hm (by omega) (by omega) (by dsimp only; omega) ?_
  refine VX.meek rfl ?_
  refine VX.nil ?_
  refine VC.reg tab_ok [] rfl ?_
  iterate 2 refine VX.meek rfl ?_
  first | refine VX.meek rfl ?_ | refine VX.loadI rfl rfl au_l ?_ | refine VX.loadP rfl rfl rfl au_l ?_
  refine VX.copyS rfl rfl rfl rfl rfl rfl rfl rfl (congrArg some (zerosU _)) ?_
  refine VX.nil ?_
  refine VC.view ([(8, .islc (encL cU px) (w * h) none), (2, .ptr 0 0)]) ([.c [I64 0, I64 0, NIL]]) [6, 7] rfl (by refine ⟨[some 0], rfl, by first | trivial | decide, rfl, ?_, ?_⟩ <;> (repeat' first | exact trivial | exact CvB_n | exact CvB_d | refine CvE_app ?_ ?_ | refine CvE_cons rfl ?_ ?_ | refine CvH_cons ?_ ?_ | refine CvB_c rfl ?_ | fail) <;> first | exact au_v | (first | exact CvL.pure rfl | (rw [← hpx]; exact Cv.fslc0 ⟨rfl, by simp⟩ (CvL.pure (encL_pure cU _))))) ?_
  refine VC.reg tab_ok [] rfl ?_
  iterate 2 refine VX.meek rfl ?_
  refine VX.callP0 rfl rfl rfl (gnew_p w h 0 ⟨by omega, by omega⟩ ⟨by omega, by omega⟩) ?_
  iterate 3 refine VX.meek rfl ?_
  refine VX.new rfl rfl ?_
  refine VX.store rfl rfl rfl rfl rfl au_sR rfl ?_
  refine VX.meek rfl ?_
  refine VX.nil ?_
  refine VC.seq ?_
  refine VC.reg tab_ok [] rfl ?_
  iterate 2 refine VX.meek rfl ?_
  refine VX.nil ?_
  refine VC.cond rfl (fun hc0 => ?_) (fun hc0 => ?_)
  · exact absurd hc0 (by simp)
  · (try simp only [au_std] at hc0)
    refine VC.skip ?_
    refine VC.seq ?_
    refine VC.reg tab_ok [] rfl ?_
    iterate 3 refine VX.meek rfl ?_
    refine VX.nil ?_
    refine VC.block ?_
    refine VC.loopS (σ := Nat) (fun i => w * h - i) (fun i => i ≤ w * h) (fun i => [(45, I64 i), (2, .ptr 0 0), (9, .ptr 1 0)]) (fun i => [.c [I64 0, I64 0, NIL], .c [I64 w, I64 h, .islc (encL cU (padL (px.take i) (w * h))) (w * h) none]]) [6, 7, 8, 43, 44] rfl (0) ?_ ?_ ?_
    · refine ⟨[some 0, some 1], rfl, by first | trivial | decide, rfl, ?_, ?_⟩ <;> (repeat' first | exact trivial | exact CvB_n | exact CvB_d | refine CvE_app ?_ ?_ | refine CvE_cons rfl ?_ ?_ | refine CvH_cons ?_ ?_ | refine CvB_c rfl ?_ | fail) <;> first | exact au_v | (first | exact CvL.pure rfl | (refine cv_g (Cv.eq ?_ (encL_pure cU _)); rw [List.take_zero, padL_nil, List.length_replicate]))
    · (try dsimp only); omega
    rintro i hi
    refine VC.reg tab_ok [] rfl ?_
    refine VX.meek rfl ?_
    refine VX.nil ?_
    refine VC.seq ?_
    refine VC.cond rfl (fun hc1 => ?_) (fun hc1 => ?_)
    · (try simp only [au_std] at hc1); have hil : i < w * h := (by omega); have hpl2 := padL_len (px.take i) (w * h)
      have hxm : (i : Int) % (w : Int) = ((i % w : Nat) : Int) := (Int.natCast_emod i w).symm
      have hyd : (i : Int) / (w : Int) = ((i / w : Nat) : Int) := (Int.natCast_ediv i w).symm
      have hx1 : i % w < w := Nat.mod_lt _ (by omega)
      have hy1 : i / w < h := Nat.div_lt_of_lt_mul hil
      have hidx : ((i : Int) / (w : Int) * (w : Int) + (i : Int) % (w : Int)).toNat = i := (by rw [hxm, hyd, idx_nat, Nat.div_add_mod'])
      have hst := padL_set (P := px) hil (by omega)
      have hX : 0 ≤ (i : Int) % (w : Int) ∧ (i : Int) % (w : Int) < w := ⟨by rw [hxm]; exact Int.natCast_nonneg _, by rw [hxm]; exact Int.ofNat_lt.2 hx1⟩
      have hY : 0 ≤ (i : Int) / (w : Int) ∧ (i : Int) / (w : Int) < h := ⟨by rw [hyd]; exact Int.natCast_nonneg _, by rw [hyd]; exact Int.ofNat_lt.2 hy1⟩
      refine VC.skip ?_
      refine VC.seq ?_
      refine VC.block ?_
      refine VC.reg tab_ok [] rfl ?_
      refine VX.meek rfl ?_
      first | refine VX.idxI rfl rfl rfl rfl rfl rfl (by omega) ?_ | refine VX.idxO0 rfl rfl rfl rfl rfl rfl rfl (by omega) ?_ | refine VX.idxO0 rfl rfl rfl rfl rfl rfl au_z (by omega) ?_ | refine VX.idxO rfl rfl rfl rfl rfl rfl rfl (by omega) ?_ | refine VX.idxI rfl rfl rfl rfl rfl au_z (by omega) ?_ | refine VX.idxO rfl rfl rfl rfl rfl rfl au_z (by omega) ?_ | refine VX.meek rfl ?_
      first | refine VX.meek rfl ?_ | refine VX.loadI rfl rfl au_l ?_ | refine VX.loadP rfl rfl rfl au_l ?_
      iterate 2 refine VX.meek rfl ?_
      refine VX.nil ?_
      refine VC.drwN tab_ok [] [_, _, _, _, _, _, _, _, _] rfl (by kernel_rfl) (by kernel_rfl) ?_
      first | refine VX.meek rfl ?_ | refine VX.loadI rfl rfl au_l ?_ | refine VX.loadP rfl rfl rfl au_l ?_
      iterate 2 refine VX.meek rfl ?_
      refine VX.rem rfl rfl (by omega) (by omega) ?_
      iterate 2 refine VX.meek rfl ?_
      refine VX.quo rfl rfl (by omega) (by omega) (by omega) ?_
      refine VX.meek rfl ?_
      refine VX.callP0 rfl rfl rfl (hidx ▸ gset_n w h (padL (px.take i) (w * h)) (w * h) hpl2 ((i : Int) % (w : Int)) ((i : Int) / (w : Int)) px[i]! (by omega) (by omega) hpl2 (padL_bd (fun v hv => hpb v (List.mem_of_mem_take hv)) _) hX hY) ?_
      refine VX.nil ?_
      refine VX.store rfl rfl rfl rfl rfl au_sR rfl ?_
      refine VX.nil ?_
      refine VC.regN tab_ok [] rfl ?_
      first | refine VX.add rfl rfl (by omega) ?_ | refine VX.meek rfl ?_
      refine VX.meek rfl ?_
      refine VX.nil ?_
      refine ⟨i + 1, by (try dsimp only); omega, ?_, (by refine ⟨[some 0, some 1], rfl, by first | trivial | decide, rfl, ?_, ?_⟩ <;> (repeat' first | exact trivial | exact CvB_n | exact CvB_d | refine CvE_app ?_ ?_ | refine CvE_cons rfl ?_ ?_ | refine CvH_cons ?_ ?_ | refine CvB_c rfl ?_ | fail) <;> first | exact au_v | (first | exact CvL.pure rfl | (rw [← hst]; exact cv_g (Cv.pure (encL_pure cU _)))))⟩
      (try dsimp only); omega
    · (try simp only [au_std] at hc1); obtain rfl : i = w * h := (by omega)
      have hfin : padL (px.take (w * h)) (w * h) = px := listI_ext (by rw [padL_len, hpl]) fun j hj => by
        rw [padL_len] at hj
        rw [padL_bang, List.take_of_length_le (by omega), if_pos ⟨hj, by omega⟩]
      rw [hfin]
      have hg : gT w h px = .agg [I64 w, I64 h, .islc (encL cU px) (w * h) none] := by rw [gT, hpl]
      refine VC.exit ?_
      refine VC.reg tab_ok [] rfl ?_
      first | refine VX.meek rfl ?_ | refine VX.loadI rfl rfl au_l ?_ | refine VX.loadP rfl rfl rfl au_l ?_
      iterate 3 refine VX.meek rfl ?_
      refine VX.store rfl rfl rfl rfl rfl au_sR rfl ?_
      iterate 3 refine VX.meek rfl ?_
      refine VX.nil ?_
      refine VC.ret ?_
      exact ⟨trivial, _, rfl, Cv.tup (CvL.cons (Cv.eq hg.symm (by simp only [T.pure, T.pureL, encL_pure]; rfl)) (CvL.cons (Cv.pure rfl) (CvL.cons (Cv.pure rfl) (CvL.cons (Cv.pure (encL_pure cU _)) CvL.nil))))⟩
theorem is_p (w h : Nat) (px : List Int) (hw : 1 ≤ w ∧ w ≤ 128) (hh : 1 ≤ h ∧ h ≤ 128) (hl : px.length = w * h) (hb : ∀ v ∈ px, 0 ≤ v ∧ v < 256) : CallP Tryz.prog 9 [gT w h px, I64 w, I64 h, .islc (encL cU px) px.length none] (BL true) := by
  have hwh : w * h ≤ 128 * 128 := Nat.mul_le_mul hw.2 hh.2
  have hm : (w : Int) * (h : Int) = ((w * h : Nat) : Int) := (Int.natCast_mul w h).symm
  refine CallP.intro2 au_pu au_pu ?_
  refine CallT.intro tab_ok Tryz.func9 rfl (by kernel_rfl) (Nat.le_of_ble_eq_true rfl) ?_
  refine VC.reg tab_ok [4] rfl ?_
  refine VX.newI rfl rfl ?_
  refine VX.meek rfl ?_
  refine VX.nil ?_
  refine VC.reg tab_ok [] rfl ?_
  first | refine VX.meek rfl ?_ | refine VX.loadI rfl rfl au_l ?_ | refine VX.loadP rfl rfl rfl au_l ?_
  refine VX.callP0 rfl rfl rfl ((show CallP Tryz.prog 18 [gT w h px] (.tup [I64 w, I64 h]) from size_p ⟨w, h, px⟩)) ?_
  iterate 5 refine VX.meek rfl ?_
  refine VX.nil ?_
  refine VC.seq ?_
  refine VC.reg tab_ok [] rfl ?_
  iterate 4 refine VX.meek rfl ?_
  refine' VX.merge (d := 25) [_, _, _, _] rfl ?_ rfl ?_
  rotate_left
  · refine VX.guard rfl rfl (fun hb2_3 => ?_) (fun hb2_3 => ?_)
    · have ghb2_3 := hb2_3
      try simp only [au_std, Bool.not_true, Bool.not_false] at ghb2_3
      refine VX.meek rfl ?_
      refine VX.guardT rfl rfl hb2_3 ?_
      refine VX.meek rfl ?_
      refine VX.guardT rfl rfl hb2_3 ?_
      refine VX.meek rfl ?_
      refine VX.pickO rfl (fun _ => rfl) ?_
      exact VX.nil ⟨rfl, rfl⟩
    · refine VX.guardF rfl rfl hb2_3 ?_
      refine VX.guardF rfl rfl hb2_3 ?_
      exact VX.pickO rfl (fun h => absurd (h.symm.trans hb2_3) (by decide)) (VX.nil ⟨rfl, rfl⟩)
  refine VX.meek rfl ?_
  refine' VX.merge (d := 33) [_, _, _, _, _, _, _] rfl ?_ rfl ?_
  rotate_left
  · refine VX.guard rfl rfl (fun hb2_8 => ?_) (fun hb2_8 => ?_)
    · have ghb2_8 := hb2_8
      try simp only [au_std, Bool.not_true, Bool.not_false] at ghb2_8
      refine VX.meek rfl ?_
      refine VX.guardT rfl rfl hb2_8 ?_
      refine VX.meek rfl ?_
      refine VX.guardT rfl rfl hb2_8 ?_
      refine VX.meek rfl ?_
      refine VX.guardT rfl rfl hb2_8 ?_
      refine VX.meek rfl ?_
      refine VX.guardT rfl rfl hb2_8 ?_
      first | refine VX.mul rfl rfl (by omega) ?_ | refine VX.meek rfl ?_
      refine VX.guardT rfl rfl hb2_8 ?_
      refine VX.meek rfl ?_
      refine VX.pickO rfl (fun _ => rfl) ?_
      exact VX.nil ⟨rfl, rfl⟩
    · refine VX.guardF rfl rfl hb2_8 ?_
      refine VX.guardF rfl rfl hb2_8 ?_
      refine VX.guardF rfl rfl hb2_8 ?_
      refine VX.guardF rfl rfl hb2_8 ?_
      refine VX.guardF rfl rfl hb2_8 ?_
      exact VX.pickO rfl (fun h => absurd (h.symm.trans hb2_8) (by decide)) (VX.nil ⟨rfl, rfl⟩)
  refine VX.nil ?_
  refine VC.cond rfl (fun hc0 => ?_) (fun hc0 => ?_)
  · exact absurd hc0 (by simp [hl])
  · (try simp only [au_std] at hc0)
    refine VC.skip ?_
    refine VC.seq ?_
    refine VC.reg tab_ok [] rfl ?_
    iterate 3 refine VX.meek rfl ?_
    refine VX.nil ?_
    refine VC.block ?_
    refine VC.loopS (σ := Nat) (fun i => px.length - i) (fun i => i ≤ px.length) (fun i => [(36, I64 i)]) (fun _ => []) [1, 4, 34, 35] rfl (0) ?_ ?_ ?_
    · refine ⟨[], rfl, by first | trivial | decide, rfl, ?_, ?_⟩ <;> (repeat' first | exact trivial | exact CvB_n | exact CvB_d | refine CvE_app ?_ ?_ | refine CvE_cons rfl ?_ ?_ | refine CvH_cons ?_ ?_ | refine CvB_c rfl ?_ | fail) <;> first | exact au_v | (skip)
    · (try dsimp only); omega
    rintro i hi
    refine VC.reg tab_ok [] rfl ?_
    refine VX.meek rfl ?_
    refine VX.nil ?_
    refine VC.seq ?_
    refine VC.cond rfl (fun hc1 => ?_) (fun hc1 => ?_)
    · (try simp only [au_std] at hc1); have hil : i < px.length := (by omega)
      have hxm : (i : Int) % (w : Int) = ((i % w : Nat) : Int) := (Int.natCast_emod i w).symm
      have hyd : (i : Int) / (w : Int) = ((i / w : Nat) : Int) := (Int.natCast_ediv i w).symm
      have hx1 : i % w < w := Nat.mod_lt _ (by omega)
      have hy1 : i / w < h := Nat.div_lt_of_lt_mul (by omega)
      have hidx : ((i : Int) / (w : Int) * (w : Int) + (i : Int) % (w : Int)).toNat = i := (by rw [hxm, hyd, idx_nat, Nat.div_add_mod'])
      have hX : 0 ≤ (i : Int) % (w : Int) ∧ (i : Int) % (w : Int) < w := ⟨by rw [hxm]; exact Int.natCast_nonneg _, by rw [hxm]; exact Int.ofNat_lt.2 hx1⟩
      have hY : 0 ≤ (i : Int) / (w : Int) ∧ (i : Int) / (w : Int) < h := ⟨by rw [hyd]; exact Int.natCast_nonneg _, by rw [hyd]; exact Int.ofNat_lt.2 hy1⟩
      have hat : atG w h px ((i : Int) % (w : Int)) ((i : Int) / (w : Int)) = px[i]! := (if_pos (inB_iff.2 ⟨hX.1, hX.2, hY.1, hY.2⟩)).trans (by rw [hidx])
      refine VC.skip ?_
      refine VC.seq ?_
      refine VC.block ?_
      refine VC.reg tab_ok [] rfl ?_
      refine VX.meek rfl ?_
      first | refine VX.idxI rfl rfl rfl rfl rfl rfl (by omega) ?_ | refine VX.idxO0 rfl rfl rfl rfl rfl rfl rfl (by omega) ?_ | refine VX.idxO0 rfl rfl rfl rfl rfl rfl au_z (by omega) ?_ | refine VX.idxO rfl rfl rfl rfl rfl rfl rfl (by omega) ?_ | refine VX.idxI rfl rfl rfl rfl rfl au_z (by omega) ?_ | refine VX.idxO rfl rfl rfl rfl rfl rfl au_z (by omega) ?_ | refine VX.meek rfl ?_
      first | refine VX.meek rfl ?_ | refine VX.loadI rfl rfl au_l ?_ | refine VX.loadP rfl rfl rfl au_l ?_
      iterate 2 refine VX.meek rfl ?_
      refine VX.nil ?_
      refine VC.drw tab_ok [] [_, _, _, _, _, _, _, _, _, _] rfl (by kernel_rfl) (by kernel_rfl) ?_
      first | refine VX.meek rfl ?_ | refine VX.loadI rfl rfl au_l ?_ | refine VX.loadP rfl rfl rfl au_l ?_
      iterate 2 refine VX.meek rfl ?_
      refine VX.rem rfl rfl (by omega) (by omega) ?_
      iterate 2 refine VX.meek rfl ?_
      refine VX.quo rfl rfl (by omega) (by omega) (by omega) ?_
      refine VX.callP0 rfl rfl rfl (hat ▸ gat_p w h px ((i : Int) % (w : Int)) ((i : Int) / (w : Int)) hw.2 hh.2 hl hb) ?_
      iterate 2 refine VX.meek rfl ?_
      refine VX.nil ?_
      refine VX.nil ?_
      refine VC.cond rfl (fun hc2 => ?_) (fun hc2 => ?_)
      · exact absurd hc2 (by simp)
      · (try simp only [au_std] at hc2)
        refine VC.skip ?_
        refine VC.regN tab_ok [] rfl ?_
        first | refine VX.add rfl rfl (by omega) ?_ | refine VX.meek rfl ?_
        refine VX.meek rfl ?_
        refine VX.nil ?_
        refine ⟨i + 1, by (try dsimp only); omega, ?_, (by refine ⟨[], rfl, by first | trivial | decide, rfl, ?_, ?_⟩ <;> (repeat' first | exact trivial | exact CvB_n | exact CvB_d | refine CvE_app ?_ ?_ | refine CvE_cons rfl ?_ ?_ | refine CvH_cons ?_ ?_ | refine CvB_c rfl ?_ | fail) <;> first | exact au_v | (fail))⟩
        (try dsimp only); omega
    · (try simp only [au_std] at hc1)
      refine VC.exit ?_
      refine VC.reg tab_ok [] rfl ?_
      refine VX.meek rfl ?_
      refine VX.nil ?_
      refine VC.ret ?_
      exact ⟨trivial, _, rfl, Cv.eq (by first | rfl | (simp [*]; done)) rfl⟩
end
end Go.Proofs.YtmahbhdjpielmaaGreat
