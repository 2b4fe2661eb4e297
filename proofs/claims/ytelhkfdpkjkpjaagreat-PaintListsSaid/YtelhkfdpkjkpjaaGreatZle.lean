/-
  The proof's lemmas, part 5.
-/
import Derived.Test.YtelhkfdpkjkpjaaGreatZld
namespace Go.Proofs.YtelhkfdpkjkpjaaGreat
set_option linter.unusedSimpArgs false
set_option linter.unusedVariables false
section
open Go.RowKit Go.Sort
set_option maxRecDepth 10000
set_option maxHeartbeats 4000000
def rowP (ys : List Int) (a : List Rect) : Nat → List Rect
  | 0 => a
  | i + 1 => rowD ys[i]! a
def rowPX (xs : List Int) (p : List Rect) : Nat → List Rect
  | 0 => p
  | j + 1 => rowX xs[j]! p
theorem rowP_row {f : Rect → Int × Int} {l a : List Rect} {i : Nat} (hi : i < (cutsOf f l).length) : rowD (cutsOf f l)[i]! (rowP (cutsOf f l) a i) = rowD (cutsOf f l)[i]! a := by
  cases i with
  | zero => rfl
  | succ i => exact rowD_mono (by have := cuts_lt f l (i := i) (j := i + 1) (Nat.lt_succ_self i) hi; omega) a
theorem rowPX_row {f : Rect → Int × Int} {l a : List Rect} {i : Nat} (hi : i < (cutsOf f l).length) : rowX (cutsOf f l)[i]! (rowPX (cutsOf f l) a i) = rowX (cutsOf f l)[i]! a := by
  cases i with
  | zero => rfl
  | succ i => exact rowX_mono (by have := cuts_lt f l (i := i) (j := i + 1) (Nat.lt_succ_self i) hi; omega) a
theorem rowP_sub {ys : List Int} {a : List Rect} {i : Nat} {r : Rect} (h : r ∈ rowP ys a i) : r ∈ a := by
  cases i with
  | zero => exact h
  | succ i => exact (List.dropWhile_sublist _).subset h
theorem rowP_len (ys : List Int) (a : List Rect) (i : Nat) : (rowP ys a i).length ≤ a.length := by
  cases i with
  | zero => exact Nat.le_refl _
  | succ i => exact (List.dropWhile_sublist _).length_le
theorem rowPX_sub {ys : List Int} {a : List Rect} {i : Nat} {r : Rect} (h : r ∈ rowPX ys a i) : r ∈ a := by
  cases i with
  | zero => exact h
  | succ i => exact (List.dropWhile_sublist _).subset h
theorem rowPX_len (ys : List Int) (a : List Rect) (i : Nat) : (rowPX ys a i).length ≤ a.length := by
  cases i with
  | zero => exact Nat.le_refl _
  | succ i => exact (List.dropWhile_sublist _).length_le
theorem rowW_at (y : Int) (ys : List Int) (i : Nat) (a : List Rect) (hr : ∀ r ∈ a, rok r) (hn : a.length ≤ 1048576) (h : rowD y (rowP ys a i) = rowD y a) : CallT Tryz.prog 145 [.ptr 0 0, I64 y] [.c [.islc (encL cR (rowP ys a i)) (rowP ys a i).length none]]
    (fun t H' => t = .islc (encL cR (rowD y a)) (rowT y a).length none ∧ H' = [.c [.islc (encL cR (rowD y a)) (rowD y a).length none]]) := by
  have k := row_t y (rowP ys a i) (fun r hq => hr r (rowP_sub hq)) (Nat.le_trans (rowP_len ys a i) hn)
  have e : rowT y (rowP ys a i) = rowT y a := by unfold rowT; rw [h]
  rw [h, e] at k; exact k
theorem acrW_at (x : Int) (xs : List Int) (j : Nat) (p : List Rect) (hr : ∀ r ∈ p, rok r) (hn : p.length ≤ 1048576) (h : rowX x (rowPX xs p j) = rowX x p) : CallT Tryz.prog 147 [.ptr 0 0, I64 x] [.c [.islc (encL cR (rowPX xs p j)) (rowPX xs p j).length none]]
    (fun t H' => t = BL (acrB x p) ∧ H' = [.c [.islc (encL cR (rowX x p)) (rowX x p).length none]]) := by
  have k := across_t x (rowPX xs p j) (fun r hq => hr r (rowPX_sub hq)) (Nat.le_trans (rowPX_len xs p j) hn)
  have e : acrB x (rowPX xs p j) = acrB x p := by unfold acrB; rw [h]
  rw [h, e] at k; exact k
theorem islc_row {v : Vw} (y : Int) (a : List Rect) (n : Nat) : Cv v (.islc (encL cR (rowD y a)) n none) (.islc (encL cR (rowT y a)) n none) := by
  have e : rowD y a = rowT y a ++ (rowD y a).dropWhile (fun r => decide (r.Y ≤ y)) := by unfold rowT; rw [List.takeWhile_append_dropWhile]
  rw [e, encL_append]
  exact .islcT (CvL.pure (encL_pure cR _)) (.inl rfl)
theorem join_p (k : Bool → Bool → Bool) (g : FuncId) (hg : ∀ x y, CallP Tryz.prog g [BL x, BL y] (BL (k x y))) (hk : k false false = false) (a b c : List Rect) (ha : Canon a) (hb : Canon b) (har : ∀ r ∈ a, rok r) (hbr : ∀ r ∈ b, rok r) (m : Nat) (hrow : ∀ y, (rowT y a).length + (rowT y b).length ≤ m) (hm : m ≤ 500) (hys : (ysJ a b).length ≤ 500) (hab : a.length + b.length ≤ 500000) (hc : Canon c) (hi : ∀ x z, inL c x z ↔ k (decide (inL a x z)) (decide (inL b x z)) = true) :
    CallP Tryz.prog 111 [.agg [.clo g [] []], regT a, regT b] (regT c) := by
  have hys := ysJ_len a b
  have hye := join_eq hk ha hb har hbr hc hi
  have hfr := fl_rok har hbr
  have hfl : [a, b].flatten.length = a.length + b.length := by rw [fl2, List.length_append]
  refine CallP.intro2 au_pu au_pu ?_
  refine CallT.intro tab_ok Tryz.func111 rfl (by kernel_rfl) (Nat.le_of_ble_eq_true rfl) ?_
  refine VC.reg tab_ok [3, 4, 5] rfl ?_
  refine VX.newI rfl rfl ?_
  refine VX.newI rfl rfl ?_
  refine VX.newI rfl rfl ?_
  refine VX.new rfl rfl ?_
  refine VX.nil ?_
  refine VC.drw tab_ok [] [_, _, _, _, _, _] rfl (by kernel_rfl) (by kernel_rfl) ?_
  first | refine VX.meek rfl ?_ | refine VX.loadI rfl rfl au_l ?_ | refine VX.loadP rfl rfl rfl au_l ?_
  refine VX.callP0 rfl rfl rfl (rects_p a (by omega)) ?_
  first | refine VX.meek rfl ?_ | refine VX.loadI rfl rfl au_l ?_ | refine VX.loadP rfl rfl rfl au_l ?_
  refine VX.callP0 rfl rfl rfl (rects_p b (by omega)) ?_
  iterate 2 refine VX.meek rfl ?_
  refine VX.nil ?_
  refine VX.nil ?_
  refine VC.reg tab_ok [28] rfl ?_
  iterate 2 refine VX.meek rfl ?_
  refine VX.newI rfl rfl ?_
  refine VX.callP rfl rfl (cuts_p fY 144 join1_p [a, b] (by simp) (by omega) (fun r h => by have := hfr r h; unfold rok at this; simp only [fY]; omega)) au_wk (show T.pureL [.clo _ [] [], .islc [.islc (encL cR a) a.length none, .islc (encL cR b) b.length none] 2 (some 2)] = true from by simp [T.pureL, T.pure, encL_pure]) ?_; change VX _ _ _ _ _ _ ((29, .islc (encL cI (ysJ a b)) (ysJ a b).length none) :: _) _ _
  refine VX.meek rfl ?_
  refine VX.nil ?_
  refine VC.reg tab_ok [] rfl ?_
  iterate 4 refine VX.meek rfl ?_
  refine VX.new rfl rfl ?_
  refine VX.new rfl rfl ?_
  refine VX.store rfl rfl rfl rfl rfl au_sR rfl ?_
  refine VX.store rfl rfl rfl rfl rfl au_sR rfl ?_
  refine VX.nil ?_
  refine VC.reg tab_ok [] rfl ?_
  refine VX.meek rfl ?_
  refine VX.nil ?_
  refine VC.seq ?_
  refine VC.reg tab_ok [] rfl ?_
  refine VX.meek rfl ?_
  refine VX.nil ?_
  refine VC.block ?_
  refine VC.loopS2 (σ1 := Nat) (σ2 := List T) (fun i _ => (ysJ a b).length - i) (fun i tl => (i < (ysJ a b).length ∨ i = 0) ∧ T.pureL tl = true) (fun i _ => [(13, I64 i), (12, .slc 3 0 (outJ k a b i).length 4 none)]) (fun i tl => [.c [NIL], .c [.islc (encL cR (rowP (ysJ a b) a i)) (rowP (ysJ a b) a i).length none], .c [.islc (encL cR (rowP (ysJ a b) b i)) (rowP (ysJ a b) b i).length none], .c (encL cR (outJ k a b i) ++ tl)]) [3, 6, 9, 10, 11] rfl (0) ([]) ?_ ?_ ?_
  · refine ⟨[some 0, some 1, some 2, none], rfl, by first | trivial | decide, rfl, ?_, ?_⟩ <;> (repeat' first | exact trivial | exact CvB_n | exact CvB_d | refine CvE_app ?_ ?_ | refine CvE_cons rfl ?_ ?_ | refine CvH_cons ?_ ?_ | refine CvB_c rfl ?_ | fail) <;> first | exact au_v | (exact CvL.cons (Cv.pure (encL_pure cR _)) CvL.nil)
  · exact ⟨.inr rfl, rfl⟩
  rintro i tl ⟨hil, htl⟩
  refine VC.seq ?_
  refine VC.reg tab_ok [] rfl ?_
  refine VX.meek rfl ?_
  first | refine VX.add rfl rfl (by omega) ?_ | refine VX.meek rfl ?_
  iterate 3 refine VX.meek rfl ?_
  refine VX.nil ?_
  refine VC.cond rfl (fun hc0 => ?_) (fun hc0 => ?_)
  · (try simp only [au_std] at hc0); have hi1 : i + 1 < (ysJ a b).length := (by omega); have hy1 := ysJ_bnd har hbr (i := i) (by omega); have hy2 := ysJ_bnd har hbr (i := i + 1) hi1; have hol := outJ_lenM k a b m hrow i; have hrm := hrow (ysJ a b)[i]!; have hom : i * (2 * m) ≤ 500 * 1000 := Nat.mul_le_mul (by omega) (by omega)
    have hD1 := rowP_row (f := fY) (l := [a, b].flatten) (a := a) (i := i) (by unfold ysJ at hi1; omega)
    have hD2 := rowP_row (f := fY) (l := [a, b].flatten) (a := b) (i := i) (by unfold ysJ at hi1; omega)
    have hos := outJ_succ k a b i
    have hpl := rowT_len (ysJ a b)[i]! a; have hql := rowT_len (ysJ a b)[i]! b
    refine VC.skip ?_
    refine VC.seq ?_
    refine VC.block ?_
    refine VC.drw tab_ok [] [_, _, _, _, _, _, _, _, _, _, _, _, _, _, _, _] rfl (by kernel_rfl) (by kernel_rfl) ?_
    iterate 2 refine VX.meek rfl ?_
    first | refine VX.idxI rfl rfl rfl rfl rfl rfl (by omega) ?_ | refine VX.idxO0 rfl rfl rfl rfl rfl rfl rfl (by omega) ?_ | refine VX.idxO0 rfl rfl rfl rfl rfl rfl au_z (by omega) ?_ | refine VX.idxO rfl rfl rfl rfl rfl rfl rfl (by omega) ?_ | refine VX.idxI rfl rfl rfl rfl rfl au_z (by omega) ?_ | refine VX.idxO rfl rfl rfl rfl rfl rfl au_z (by omega) ?_ | refine VX.meek rfl ?_
    first | refine VX.meek rfl ?_ | refine VX.loadI rfl rfl au_l ?_ | refine VX.loadP rfl rfl rfl au_l ?_
    iterate 2 refine VX.meek rfl ?_
    first | refine VX.add rfl rfl (by omega) ?_ | refine VX.meek rfl ?_
    refine VX.idxI (m := i + 1) rfl rfl rfl rfl rfl (by omega) (by omega) ?_
    first | refine VX.meek rfl ?_ | refine VX.loadI rfl rfl au_l ?_ | refine VX.loadP rfl rfl rfl au_l ?_
    iterate 2 refine VX.meek rfl ?_
    first | refine VX.idxI rfl rfl rfl rfl rfl rfl (by omega) ?_ | refine VX.idxO0 rfl rfl rfl rfl rfl rfl rfl (by omega) ?_ | refine VX.idxO0 rfl rfl rfl rfl rfl rfl au_z (by omega) ?_ | refine VX.idxO rfl rfl rfl rfl rfl rfl rfl (by omega) ?_ | refine VX.idxI rfl rfl rfl rfl rfl au_z (by omega) ?_ | refine VX.idxO rfl rfl rfl rfl rfl rfl au_z (by omega) ?_ | refine VX.meek rfl ?_
    first | refine VX.meek rfl ?_ | refine VX.loadI rfl rfl au_l ?_ | refine VX.loadP rfl rfl rfl au_l ?_
    first | refine VX.sub rfl rfl (by omega) ?_ | refine VX.meek rfl ?_
    iterate 2 refine VX.meek rfl ?_
    refine VX.nil ?_
    refine VX.nil ?_
    refine VC.reg tab_ok [] rfl ?_
    refine VX.meek rfl ?_
    refine VX.callT rfl rfl (CallT.frame (rowW_at (ysJ a b)[i]! (ysJ a b) i a har (by omega) hD1) [1] rfl au_ci au_ci ?_)
    rintro _ _ ⟨rfl, rfl⟩
    refine frK au_co au_co ?_
    refine VX.meek rfl ?_
    refine VX.callT rfl rfl (CallT.frame (rowW_at (ysJ a b)[i]! (ysJ a b) i b hbr (by omega) hD2) [2] rfl au_ci au_ci ?_)
    rintro _ _ ⟨rfl, rfl⟩
    refine frK au_co au_co ?_
    refine VX.new rfl rfl ?_
    refine VX.new rfl rfl ?_
    refine VX.store rfl rfl rfl rfl rfl au_sR rfl ?_
    refine VX.store rfl rfl rfl rfl rfl au_sR rfl ?_
    refine VX.nil ?_
    refine VC.view ([]) ([.c [NIL], .c [.islc (encL cR (rowD (ysJ a b)[i]! a)) (rowD (ysJ a b)[i]! a).length none], .c [.islc (encL cR (rowD (ysJ a b)[i]! b)) (rowD (ysJ a b)[i]! b).length none], .c (encL cR (outJ k a b i) ++ tl), .c [.islc (encL cR (rowT (ysJ a b)[i]! a)) (rowT (ysJ a b)[i]! a).length none], .c [.islc (encL cR (rowT (ysJ a b)[i]! b)) (rowT (ysJ a b)[i]! b).length none]]) [3, 6, 9, 10, 11, 12, 13, 14, 15, 16, 17] rfl (by refine ⟨[some 0, some 1, some 2, some 3, some 4, some 5], rfl, by first | trivial | decide, rfl, ?_, ?_⟩ <;> (repeat' first | exact trivial | exact CvB_n | exact CvB_d | refine CvE_app ?_ ?_ | refine CvE_cons rfl ?_ ?_ | refine CvH_cons ?_ ?_ | refine CvB_c rfl ?_ | fail) <;> first | exact au_v | (first | exact CvL.cons (islc_row _ _ _) CvL.nil | exact CvL.cons (Cv.pure (encL_pure cR _)) CvL.nil | exact CvL.pure (pureL_append (encL_pure cR _) htl))) ?_
    refine VC.reg tab_ok [61] rfl ?_
    first | refine VX.meek rfl ?_ | refine VX.loadI rfl rfl au_l ?_ | refine VX.loadP rfl rfl rfl au_l ?_
    first | refine VX.meek rfl ?_ | refine VX.loadI rfl rfl au_l ?_ | refine VX.loadP rfl rfl rfl au_l ?_
    refine VX.newI rfl rfl ?_
    refine VX.callP rfl rfl (cuts_p fX 146 join2_p [(rowT (ysJ a b)[i]! a), (rowT (ysJ a b)[i]! b)] (by simp) (by rw [fl2, List.length_append]; omega) (fun r h => by have := fl_rok (fun r h => har r (rowT_sub h)) (fun r h => hbr r (rowT_sub h)) r h; unfold rok at this; simp only [fX]; omega)) au_wk (show T.pureL [.clo _ [] [], .islc [.islc (encL cR (rowT (ysJ a b)[i]! a)) (rowT (ysJ a b)[i]! a).length none, .islc (encL cR (rowT (ysJ a b)[i]! b)) (rowT (ysJ a b)[i]! b).length none] 2 (some 2)] = true from by simp [T.pureL, T.pure, encL_pure]) ?_; change VX _ _ _ _ _ _ ((62, .islc (encL cI (xsJ (rowT (ysJ a b)[i]! a) (rowT (ysJ a b)[i]! b))) (xsJ (rowT (ysJ a b)[i]! a) (rowT (ysJ a b)[i]! b)).length none) :: _) _ _; have hxl := xsJ_len (rowT (ysJ a b)[i]! a) (rowT (ysJ a b)[i]! b)
    refine VX.meek rfl ?_
    refine VX.nil ?_
    refine VC.reg tab_ok [] rfl ?_
    refine VX.meek rfl ?_
    refine VX.nil ?_
    refine VC.block ?_
    refine VC.loopS2 (σ1 := Nat) (σ2 := List T) (fun j _ => (xsJ (rowT (ysJ a b)[i]! a) (rowT (ysJ a b)[i]! b)).length - j) (fun j tl => (j < (xsJ (rowT (ysJ a b)[i]! a) (rowT (ysJ a b)[i]! b)).length ∨ j = 0) ∧ T.pureL tl = true) (fun j _ => [(19, I64 j), (12, .slc 3 0 (outJ k a b i ++ rowJ k (ysJ a b)[i]! ((ysJ a b)[i + 1]! - (ysJ a b)[i]!) (rowT (ysJ a b)[i]! a) (rowT (ysJ a b)[i]! b) j).length 4 none)]) (fun j tl => [.c [NIL], .c [.islc (encL cR (rowD (ysJ a b)[i]! a)) (rowD (ysJ a b)[i]! a).length none], .c [.islc (encL cR (rowD (ysJ a b)[i]! b)) (rowD (ysJ a b)[i]! b).length none], .c (encL cR (outJ k a b i ++ rowJ k (ysJ a b)[i]! ((ysJ a b)[i + 1]! - (ysJ a b)[i]!) (rowT (ysJ a b)[i]! a) (rowT (ysJ a b)[i]! b) j) ++ tl), .c [.islc (encL cR (rowPX (xsJ (rowT (ysJ a b)[i]! a) (rowT (ysJ a b)[i]! b)) (rowT (ysJ a b)[i]! a) j)) (rowPX (xsJ (rowT (ysJ a b)[i]! a) (rowT (ysJ a b)[i]! b)) (rowT (ysJ a b)[i]! a) j).length none], .c [.islc (encL cR (rowPX (xsJ (rowT (ysJ a b)[i]! a) (rowT (ysJ a b)[i]! b)) (rowT (ysJ a b)[i]! b) j)) (rowPX (xsJ (rowT (ysJ a b)[i]! a) (rowT (ysJ a b)[i]! b)) (rowT (ysJ a b)[i]! b) j).length none]]) [3, 6, 9, 10, 11, 13, 14, 15, 16, 17, 18] rfl (0) (tl) ?_ ?_ ?_
    · refine ⟨[some 0, some 1, some 2, some 3, some 4, some 5], rfl, by first | trivial | decide, rfl, ?_, ?_⟩ <;> (repeat' first | exact trivial | exact CvB_n | exact CvB_d | refine CvE_app ?_ ?_ | refine CvE_cons rfl ?_ ?_ | refine CvH_cons ?_ ?_ | refine CvB_c rfl ?_ | fail) <;> first | exact au_v | (first | exact Cv.slcE rfl (by simp [rowJ]) (.inl rfl) | exact CvL.cons (Cv.pure (encL_pure cR _)) CvL.nil | exact CvL.eq (by simp [rowJ]) (pureL_append (encL_pure cR _) htl))
    · exact ⟨.inr rfl, htl⟩
    rintro j tl2 ⟨hjl, htl2⟩
    refine VC.seq ?_
    refine VC.reg tab_ok [] rfl ?_
    refine VX.meek rfl ?_
    first | refine VX.add rfl rfl (by omega) ?_ | refine VX.meek rfl ?_
    iterate 3 refine VX.meek rfl ?_
    refine VX.nil ?_
    refine VC.cond rfl (fun hc1 => ?_) (fun hc1 => ?_)
    · (try simp only [au_std] at hc1); have hj1 : j + 1 < (xsJ (rowT (ysJ a b)[i]! a) (rowT (ysJ a b)[i]! b)).length := (by omega); have hra : ∀ r ∈ (rowT (ysJ a b)[i]! a), rok r := fun r h => har r (rowT_sub h); have hrb : ∀ r ∈ (rowT (ysJ a b)[i]! b), rok r := fun r h => hbr r (rowT_sub h); have hx1 := xsJ_bnd hra hrb (i := j) (by omega); have hx2 := xsJ_bnd hra hrb (i := j + 1) hj1; have hrl := rowJ_len k (ysJ a b)[i]! ((ysJ a b)[i + 1]! - (ysJ a b)[i]!) (rowT (ysJ a b)[i]! a) (rowT (ysJ a b)[i]! b) j; have hrs := rowJ_succ k (ysJ a b)[i]! ((ysJ a b)[i + 1]! - (ysJ a b)[i]!) (rowT (ysJ a b)[i]! a) (rowT (ysJ a b)[i]! b) j
      have hX1 := rowPX_row (f := fX) (l := [(rowT (ysJ a b)[i]! a), (rowT (ysJ a b)[i]! b)].flatten) (a := (rowT (ysJ a b)[i]! a)) (i := j) (by unfold xsJ at hj1; omega)
      have hX2 := rowPX_row (f := fX) (l := [(rowT (ysJ a b)[i]! a), (rowT (ysJ a b)[i]! b)].flatten) (a := (rowT (ysJ a b)[i]! b)) (i := j) (by unfold xsJ at hj1; omega)
      have hol2 : (outJ k a b i ++ rowJ k (ysJ a b)[i]! ((ysJ a b)[i + 1]! - (ysJ a b)[i]!) (rowT (ysJ a b)[i]! a) (rowT (ysJ a b)[i]! b) j).length ≤ 2097152 := (by rw [List.length_append]; omega)
      have hlc2 : (encL cR (outJ k a b i ++ rowJ k (ysJ a b)[i]! ((ysJ a b)[i + 1]! - (ysJ a b)[i]!) (rowT (ysJ a b)[i]! a) (rowT (ysJ a b)[i]! b) j) ++ tl2).length = (outJ k a b i ++ rowJ k (ysJ a b)[i]! ((ysJ a b)[i + 1]! - (ysJ a b)[i]!) (rowT (ysJ a b)[i]! a) (rowT (ysJ a b)[i]! b) j).length * 4 + tl2.length := (by rw [List.length_append, encL_len, cR_sz])
      refine VC.skip ?_
      refine VC.seq ?_
      refine VC.block ?_
      refine VC.drw tab_ok [] [_, _, _, _, _, _, _, _, _, _, _, _, _, _, _, _] rfl (by kernel_rfl) (by kernel_rfl) ?_
      iterate 2 refine VX.meek rfl ?_
      first | refine VX.idxI rfl rfl rfl rfl rfl rfl (by omega) ?_ | refine VX.idxO0 rfl rfl rfl rfl rfl rfl rfl (by omega) ?_ | refine VX.idxO0 rfl rfl rfl rfl rfl rfl au_z (by omega) ?_ | refine VX.idxO rfl rfl rfl rfl rfl rfl rfl (by omega) ?_ | refine VX.idxI rfl rfl rfl rfl rfl au_z (by omega) ?_ | refine VX.idxO rfl rfl rfl rfl rfl rfl au_z (by omega) ?_ | refine VX.meek rfl ?_
      first | refine VX.meek rfl ?_ | refine VX.loadI rfl rfl au_l ?_ | refine VX.loadP rfl rfl rfl au_l ?_
      iterate 2 refine VX.meek rfl ?_
      first | refine VX.add rfl rfl (by omega) ?_ | refine VX.meek rfl ?_
      refine VX.idxI (m := j + 1) rfl rfl rfl rfl rfl (by omega) (by omega) ?_
      first | refine VX.meek rfl ?_ | refine VX.loadI rfl rfl au_l ?_ | refine VX.loadP rfl rfl rfl au_l ?_
      iterate 2 refine VX.meek rfl ?_
      first | refine VX.idxI rfl rfl rfl rfl rfl rfl (by omega) ?_ | refine VX.idxO0 rfl rfl rfl rfl rfl rfl rfl (by omega) ?_ | refine VX.idxO0 rfl rfl rfl rfl rfl rfl au_z (by omega) ?_ | refine VX.idxO rfl rfl rfl rfl rfl rfl rfl (by omega) ?_ | refine VX.idxI rfl rfl rfl rfl rfl au_z (by omega) ?_ | refine VX.idxO rfl rfl rfl rfl rfl rfl au_z (by omega) ?_ | refine VX.meek rfl ?_
      first | refine VX.meek rfl ?_ | refine VX.loadI rfl rfl au_l ?_ | refine VX.loadP rfl rfl rfl au_l ?_
      first | refine VX.sub rfl rfl (by omega) ?_ | refine VX.meek rfl ?_
      iterate 2 refine VX.meek rfl ?_
      refine VX.nil ?_
      refine VX.nil ?_
      refine VC.drwC tab_ok [] [_, _, _, _, _, _] ([.c [NIL], .c [.islc (encL cR (rowD (ysJ a b)[i]! a)) (rowD (ysJ a b)[i]! a).length none], .c [.islc (encL cR (rowD (ysJ a b)[i]! b)) (rowD (ysJ a b)[i]! b).length none], .c (encL cR (outJ k a b i ++ rowJ k (ysJ a b)[i]! ((ysJ a b)[i + 1]! - (ysJ a b)[i]!) (rowT (ysJ a b)[i]! a) (rowT (ysJ a b)[i]! b) j) ++ tl2), .d, .d]) [false, false, false, true, false, true] rfl (by kernel_rfl) (by kernel_rfl) (by kernel_rfl) (by repeat' first | exact seen_nil | refine seen_dead ?_ | refine seen_same ?_) ?_
      refine VD.meek rfl ?_
      refine VD.meek rfl ?_
      refine VD.meek rfl ?_
      refine VD.call (t := BL (acrB (xsJ (rowT (ysJ a b)[i]! a) (rowT (ysJ a b)[i]! b))[j]! (rowT (ysJ a b)[i]! a))) (F1 := [.c [NIL], .c [.islc (encL cR (rowD (ysJ a b)[i]! a)) (rowD (ysJ a b)[i]! a).length none], .c [.islc (encL cR (rowD (ysJ a b)[i]! b)) (rowD (ysJ a b)[i]! b).length none], .c (encL cR (outJ k a b i ++ rowJ k (ysJ a b)[i]! ((ysJ a b)[i + 1]! - (ysJ a b)[i]!) (rowT (ysJ a b)[i]! a) (rowT (ysJ a b)[i]! b) j) ++ tl2), .c [.islc (encL cR (rowX (xsJ (rowT (ysJ a b)[i]! a) (rowT (ysJ a b)[i]! b))[j]! (rowT (ysJ a b)[i]! a))) (rowX (xsJ (rowT (ysJ a b)[i]! a) (rowT (ysJ a b)[i]! b))[j]! (rowT (ysJ a b)[i]! a)).length none], .c [.islc (encL cR (rowPX (xsJ (rowT (ysJ a b)[i]! a) (rowT (ysJ a b)[i]! b)) (rowT (ysJ a b)[i]! b) j)) (rowPX (xsJ (rowT (ysJ a b)[i]! a) (rowT (ysJ a b)[i]! b)) (rowT (ysJ a b)[i]! b) j).length none]]) rfl rfl ?_ ?_ ?_
      · refine CallT.frame (acrW_at (xsJ (rowT (ysJ a b)[i]! a) (rowT (ysJ a b)[i]! b))[j]! (xsJ (rowT (ysJ a b)[i]! a) (rowT (ysJ a b)[i]! b)) j (rowT (ysJ a b)[i]! a) hra (by omega) hX1) [4] rfl au_ci au_ci ?_
        rintro _ _ ⟨rfl, rfl⟩
        refine frK au_co au_co ?_
        exact ⟨rfl, rfl⟩
      · exact (by repeat' first | exact seen_nil | refine seen_dead ?_ | refine seen_same ?_)
      refine VD.meek rfl ?_
      refine VD.call (t := BL (acrB (xsJ (rowT (ysJ a b)[i]! a) (rowT (ysJ a b)[i]! b))[j]! (rowT (ysJ a b)[i]! b))) (F1 := [.c [NIL], .c [.islc (encL cR (rowD (ysJ a b)[i]! a)) (rowD (ysJ a b)[i]! a).length none], .c [.islc (encL cR (rowD (ysJ a b)[i]! b)) (rowD (ysJ a b)[i]! b).length none], .c (encL cR (outJ k a b i ++ rowJ k (ysJ a b)[i]! ((ysJ a b)[i + 1]! - (ysJ a b)[i]!) (rowT (ysJ a b)[i]! a) (rowT (ysJ a b)[i]! b) j) ++ tl2), .c [.islc (encL cR (rowX (xsJ (rowT (ysJ a b)[i]! a) (rowT (ysJ a b)[i]! b))[j]! (rowT (ysJ a b)[i]! a))) (rowX (xsJ (rowT (ysJ a b)[i]! a) (rowT (ysJ a b)[i]! b))[j]! (rowT (ysJ a b)[i]! a)).length none], .c [.islc (encL cR (rowX (xsJ (rowT (ysJ a b)[i]! a) (rowT (ysJ a b)[i]! b))[j]! (rowT (ysJ a b)[i]! b))) (rowX (xsJ (rowT (ysJ a b)[i]! a) (rowT (ysJ a b)[i]! b))[j]! (rowT (ysJ a b)[i]! b)).length none]]) rfl rfl ?_ ?_ ?_
      · refine CallT.frame (acrW_at (xsJ (rowT (ysJ a b)[i]! a) (rowT (ysJ a b)[i]! b))[j]! (xsJ (rowT (ysJ a b)[i]! a) (rowT (ysJ a b)[i]! b)) j (rowT (ysJ a b)[i]! b) hrb (by omega) hX2) [5] rfl au_ci au_ci ?_
        rintro _ _ ⟨rfl, rfl⟩
        refine frK au_co au_co ?_
        exact ⟨rfl, rfl⟩
      · exact (by repeat' first | exact seen_nil | refine seen_dead ?_ | refine seen_same ?_)
      refine VD.nil ?_
      refine VX.callP0 rfl rfl rfl (hg (acrB (xsJ (rowT (ysJ a b)[i]! a) (rowT (ysJ a b)[i]! b))[j]! (rowT (ysJ a b)[i]! a)) (acrB (xsJ (rowT (ysJ a b)[i]! a) (rowT (ysJ a b)[i]! b))[j]! (rowT (ysJ a b)[i]! b))) ?_
      refine VX.nil ?_
      refine VC.cond rfl (fun hc2 => ?_) (fun hc2 => ?_)
      · have hcj : cellJ k (ysJ a b)[i]! ((ysJ a b)[i + 1]! - (ysJ a b)[i]!) (rowT (ysJ a b)[i]! a) (rowT (ysJ a b)[i]! b) j = [⟨(xsJ (rowT (ysJ a b)[i]! a) (rowT (ysJ a b)[i]! b))[j]!, (ysJ a b)[i]!, (xsJ (rowT (ysJ a b)[i]! a) (rowT (ysJ a b)[i]! b))[j + 1]! - (xsJ (rowT (ysJ a b)[i]! a) (rowT (ysJ a b)[i]! b))[j]!, ((ysJ a b)[i + 1]! - (ysJ a b)[i]!)⟩] := if_pos hc2
        rw [hcj] at hrs
        refine VC.regN tab_ok [97] rfl ?_
        iterate 6 refine VX.meek rfl ?_
        refine VX.newI rfl rfl ?_
        refine VX.append rfl rfl rfl rfl rfl rfl rfl rfl (by rw [hlc2]; omega) (by dsimp only; omega) (by omega) rfl rfl ?_
        refine VX.meek rfl ?_
        refine VX.nil ?_
        refine VC.regN tab_ok [] rfl ?_
        refine VX.meek rfl ?_
        first | refine VX.add rfl rfl (by omega) ?_ | refine VX.meek rfl ?_
        refine VX.meek rfl ?_
        refine VX.nil ?_
        refine ⟨j + 1, [], by (try dsimp only); omega, ?_, (by refine ⟨[some 0, some 1, some 2, some 6, some 4, some 5], rfl, by first | trivial | decide, rfl, ?_, ?_⟩ <;> (repeat' first | exact trivial | exact CvB_n | exact CvB_d | refine CvE_app ?_ ?_ | refine CvE_cons rfl ?_ ?_ | refine CvH_cons ?_ ?_ | refine CvB_c rfl ?_ | fail) <;> first | exact au_v | (first | exact CvL.cons (Cv.pure (encL_pure cR _)) CvL.nil | exact Cv.slcE rfl (by have hq := congrArg List.length hrs; simp only [List.length_append, List.length_cons, List.length_nil] at hq ⊢; omega) (.inl rfl) | (rw [hrs, ← List.append_assoc]; exact CvL.eq (app_cells rfl rfl) (by simp only [List.append_nil]; exact encL_pure cR _))))⟩
        exact ⟨by omega, by first | rfl | exact htl2⟩
      · have hcj : cellJ k (ysJ a b)[i]! ((ysJ a b)[i + 1]! - (ysJ a b)[i]!) (rowT (ysJ a b)[i]! a) (rowT (ysJ a b)[i]! b) j = [] := if_neg (by rw [hc2]; simp)
        rw [hcj, List.append_nil] at hrs
        refine VC.skip ?_
        refine VC.regN tab_ok [] rfl ?_
        refine VX.meek rfl ?_
        first | refine VX.add rfl rfl (by omega) ?_ | refine VX.meek rfl ?_
        refine VX.meek rfl ?_
        refine VX.nil ?_
        refine ⟨j + 1, tl2, by (try dsimp only); omega, ?_, (by refine ⟨[some 0, some 1, some 2, some 3, some 4, some 5], rfl, by first | trivial | decide, rfl, ?_, ?_⟩ <;> (repeat' first | exact trivial | exact CvB_n | exact CvB_d | refine CvE_app ?_ ?_ | refine CvE_cons rfl ?_ ?_ | refine CvH_cons ?_ ?_ | refine CvB_c rfl ?_ | fail) <;> first | exact au_v | (first | exact CvL.cons (Cv.pure (encL_pure cR _)) CvL.nil | exact Cv.slcE rfl (by rw [hrs]) (.inl rfl) | (rw [hrs]; exact CvL.pure (pureL_append (encL_pure cR _) htl2))))⟩
        exact ⟨by omega, by first | rfl | exact htl2⟩
    · (try simp only [au_std] at hc1); obtain rfl : j = (xsJ (rowT (ysJ a b)[i]! a) (rowT (ysJ a b)[i]! b)).length - 1 := (by omega); rw [← hos]
      refine VC.exit ?_
      refine VC.regN tab_ok [] rfl ?_
      refine VX.meek rfl ?_
      first | refine VX.add rfl rfl (by omega) ?_ | refine VX.meek rfl ?_
      refine VX.meek rfl ?_
      refine VX.nil ?_
      refine ⟨i + 1, tl2, by (try dsimp only); omega, ?_, (by refine ⟨[some 0, some 1, some 2, some 3], rfl, by first | trivial | decide, rfl, ?_, ?_⟩ <;> (repeat' first | exact trivial | exact CvB_n | exact CvB_d | refine CvE_app ?_ ?_ | refine CvE_cons rfl ?_ ?_ | refine CvH_cons ?_ ?_ | refine CvB_c rfl ?_ | fail) <;> first | exact au_v | (first | exact CvL.cons (Cv.pure (encL_pure cR _)) CvL.nil | exact Cv.slc rfl (.inl rfl) | exact CvL.pure (pureL_append (encL_pure cR _) htl2)))⟩
      exact ⟨by omega, htl2⟩
  · (try simp only [au_std] at hc0); obtain rfl : i = (ysJ a b).length - 1 := (by omega); have hjl := outJ_lenM k a b m hrow ((ysJ a b).length - 1); have hjm : ((ysJ a b).length - 1) * (2 * m) ≤ 500 * 1000 := Nat.mul_le_mul (by omega) (by omega)
    have hjo : outJ k a b ((ysJ a b).length - 1) = joinL k a b := rfl
    rw [hjo] at hjl ⊢
    refine VC.view ([(12, .islc (encL cR (joinL k a b)) (joinL k a b).length none)]) ([.c [NIL]]) [6] rfl (by refine ⟨[some 0], rfl, by first | trivial | decide, rfl, ?_, ?_⟩ <;> (repeat' first | exact trivial | exact CvB_n | exact CvB_d | refine CvE_app ?_ ?_ | refine CvE_cons rfl ?_ ?_ | refine CvH_cons ?_ ?_ | refine CvB_c rfl ?_ | fail) <;> first | exact au_v | (exact Cv.fslcA ⟨rfl, by simp⟩ (CvL.pure (encL_pure cR _)))) ?_
    refine VC.exit ?_
    refine VC.reg tab_ok [] rfl ?_
    refine VX.meek rfl ?_
    refine VX.callP0 rfl rfl rfl (of_p (joinL k a b) (by omega) (fun r h => by have := countsB_rok (join_counts har hbr h); unfold rok at this; unfold i64; omega)) ?_
    refine VX.store rfl rfl rfl rfl rfl au_sR rfl ?_
    refine VX.nil ?_
    refine VC.ret ?_
    refine ⟨trivial, _, rfl, ?_⟩; rw [← hye]; exact Cv.agg (CvL.cons (Cv.pure (encL_pure cR _)) CvL.nil)
end
section
open Go.RowKit Go.Sort
set_option maxRecDepth 10000
noncomputable def opL (k : Bool → Bool → Bool) (a b : List Rect) : List Rect := bandOf (joinL k a b)
theorem opL_canon (k : Bool → Bool → Bool) (a b : List Rect) : Canon (opL k a b) := bandOf_canon _
theorem opL_in {k : Bool → Bool → Bool} (hk : k false false = false) {a b : List Rect} (ha : Canon a) (hb : Canon b) (har : ∀ r ∈ a, rok r) (hbr : ∀ r ∈ b, rok r) (x z : Int) : inL (opL k a b) x z ↔ k (decide (inL a x z)) (decide (inL b x z)) = true := by
  unfold opL
  rw [bandOf_in, ← join_in hk ha hb]
  have : (joinL k a b).filter countsB = joinL k a b := List.filter_eq_self.2 fun r hr => join_counts har hbr hr
  rw [this]
theorem meet1_p (x y : Bool) : CallP Tryz.prog 115 [BL x, BL y] (BL (x && y)) := by
  cases x <;> cases y
  all_goals
    refine CallP.intro2 au_pu au_pu ?_
    refine CallT.intro tab_ok Tryz.func115 rfl (by kernel_rfl) (Nat.le_of_ble_eq_true rfl) ?_
    refine VC.reg tab_ok [] rfl ?_
    refine VX.meek rfl ?_
    refine VX.nil ?_
    refine VC.reg tab_ok [] rfl ?_
    iterate 2 refine VX.meek rfl ?_
    refine' VX.merge (d := 8) [_, _] rfl ?_ rfl ?_
    rotate_left
    · refine VX.guard rfl rfl (fun hb1_1 => ?_) (fun hb1_1 => ?_)
      · have ghb1_1 := hb1_1
        try simp only [au_std, Bool.not_true, Bool.not_false] at ghb1_1
        refine VX.meek rfl ?_
        refine VX.pickA rfl (fun _ => rfl) ?_
        exact VX.nil ⟨rfl, rfl⟩
      · exact VX.pickA rfl (fun h => absurd (h.symm.trans hb1_1) (by decide)) (VX.nil ⟨rfl, rfl⟩)
    refine VX.meek rfl ?_
    refine VX.nil ?_
    refine VC.ret ?_
    exact ⟨trivial, _, rfl, Cv.eq (by first | rfl | (simp [*]; done)) rfl⟩
theorem opL_reg {k : Bool → Bool → Bool} (hk : k false false = false) {n m : Nat} {a b : List Rect} (ha : Reg n a) (hb : Reg m b) : Reg (n + m) (opL k a b) := by
  have hin := opL_in hk ha.1 hb.1 ha.2 hb.2
  refine ⟨opL_canon k a b, bandOf_rok _, ?_⟩
  obtain ⟨xs, ys, h1, h2, h3⟩ := ha.3
  obtain ⟨xs', ys', k1, k2, k3⟩ := hb.3
  exact ⟨xs ++ xs', ys ++ ys', by rw [List.length_append]; omega, by rw [List.length_append]; omega, gr_op h3 k3 hin⟩
theorem join_r (k : Bool → Bool → Bool) (g : FuncId) (hg : ∀ x y, CallP Tryz.prog g [BL x, BL y] (BL (k x y))) (hk : k false false = false) {n m : Nat} {a b : List Rect} (ha : Reg n a) (hb : Reg m b) (h : n + m ≤ 500) : CallP Tryz.prog 111 [.agg [.clo g [] []], regT a, regT b] (regT (opL k a b)) := by
  have h1 : n * n ≤ 500 * 500 := Nat.mul_le_mul (by omega) (by omega)
  have h2 : m * m ≤ 500 * 500 := Nat.mul_le_mul (by omega) (by omega)
  have h3 := ha.len
  have h4 := hb.len
  exact join_p k g hg hk a b (opL k a b) ha.1 hb.1 ha.2 hb.2 (n + m) (fun y => Nat.add_le_add (ha.row y) (hb.row y)) h (Nat.le_trans (Reg.ys ha hb) h) (by omega) (opL_canon _ _ _) (opL_in hk ha.1 hb.1 ha.2 hb.2)
theorem meet_p {n m : Nat} {a b : List Rect} (ha : Reg n a) (hb : Reg m b) (h : n + m ≤ 500) : CallP Tryz.prog 58 [regT a, regT b] (regT (opL and a b)) := by
  refine CallP.intro2 au_pu au_pu ?_
  refine CallT.intro tab_ok Tryz.func58 rfl (by kernel_rfl) (Nat.le_of_ble_eq_true rfl) ?_
  refine VC.reg tab_ok [2, 3] rfl ?_
  refine VX.newI rfl rfl ?_
  refine VX.newI rfl rfl ?_
  refine VX.new rfl rfl ?_
  refine VX.nil ?_
  refine VC.reg tab_ok [] rfl ?_
  refine VX.meek rfl ?_
  first | refine VX.meek rfl ?_ | refine VX.loadI rfl rfl au_l ?_ | refine VX.loadP rfl rfl rfl au_l ?_
  first | refine VX.meek rfl ?_ | refine VX.loadI rfl rfl au_l ?_ | refine VX.loadP rfl rfl rfl au_l ?_
  refine VX.callP0 rfl rfl rfl (join_r and 115 meet1_p rfl ha hb h) ?_
  refine VX.store rfl rfl rfl rfl rfl au_sR rfl ?_
  refine VX.nil ?_
  refine VC.ret ?_
  exact ⟨trivial, _, rfl, Cv.agg (CvL.cons (Cv.pure (encL_pure cR _)) CvL.nil)⟩
theorem within_p {n : Nat} {a : List Rect} (ha : Reg n a) (r : Rect) (hx : i64 r.X ∧ i64 r.Y) (hn : n ≤ 498) : CallP Tryz.prog 68 [regT a, rectT r] (regT (opL and a (bandOf [r]))) := by
  refine CallP.intro2 au_pu au_pu ?_
  refine CallT.intro tab_ok Tryz.func68 rfl (by kernel_rfl) (Nat.le_of_ble_eq_true rfl) ?_
  refine VC.reg tab_ok [2, 3] rfl ?_
  refine VX.newI rfl rfl ?_
  refine VX.newI rfl rfl ?_
  refine VX.new rfl rfl ?_
  refine VX.nil ?_
  refine VC.drw tab_ok [7] [_, _, _, _, _] rfl (by kernel_rfl) (by kernel_rfl) ?_
  first | refine VX.meek rfl ?_ | refine VX.loadI rfl rfl au_l ?_ | refine VX.loadP rfl rfl rfl au_l ?_
  first | refine VX.meek rfl ?_ | refine VX.loadI rfl rfl au_l ?_ | refine VX.loadP rfl rfl rfl au_l ?_
  refine VX.newI rfl rfl ?_
  refine VX.callP rfl rfl (of_p [r] (by simp) (fun q hq => by rw [List.mem_singleton] at hq; subst hq; exact hx)) au_wk rfl ?_
  refine VX.callP0 rfl rfl rfl (meet_p ha (Reg.of [r]) (show n + 2 * 1 ≤ 500 by omega)) ?_
  refine VX.nil ?_
  refine VX.store rfl rfl rfl rfl rfl au_sR rfl ?_
  refine VX.nil ?_
  refine VC.ret ?_
  exact ⟨trivial, _, rfl, Cv.agg (CvL.cons (Cv.pure (encL_pure cR _)) CvL.nil)⟩
end
section
open Go.RowKit Go.Sort
set_option maxRecDepth 10000
theorem bands_pairY : ∀ {bs : List Band}, bandsOk bs → (rectsOf bs).Pairwise fun r s => r.Y ≤ s.Y
  | [], _ => List.Pairwise.nil
  | b :: bs, h => by
    show (b.rects ++ rectsOf bs).Pairwise _
    refine List.pairwise_append.2 ⟨?_, bands_pairY h.2.2, fun r hr s hs => ?_⟩
    · rw [List.pairwise_iff_getElem]
      intro i j hi hj _
      have h1 := rect_band (List.getElem_mem hi)
      have h2 := rect_band (List.getElem_mem hj)
      omega
    · obtain ⟨c, h1, h2⟩ := mem_rects.1 hs
      have k1 := rect_band hr
      have k2 := rect_band h2
      have := bands_from h c h1
      have := h.1.1
      omega
theorem canon_sortedY {l : List Rect} (h : Canon l) : sortedY l := by
  obtain ⟨bs, h1, rfl⟩ := h
  have := bands_pairY h1
  rw [List.pairwise_iff_getElem] at this
  intro i j hij hj
  rw [getElem!_pos (rectsOf bs) i (by omega), getElem!_pos (rectsOf bs) j hj]
  exact this i j (by omega) hj hij
theorem has_no {l : List Rect} {j : Nat} {x y : Int} (hl : j ≤ l.length) (h1 : ∀ i, i < j → ¬ l[i]!.has x y) (h2 : ∀ i, j ≤ i → i < l.length → ¬ l[i]!.has x y) : decide (inL l x y) = false := by
  rw [decide_eq_false_iff_not]
  rintro ⟨r, hr, hh⟩
  obtain ⟨i, hi⟩ := List.mem_iff_getElem?.1 hr
  obtain ⟨k1, k2⟩ := List.getElem?_eq_some_iff.1 hi
  have e : l[i]! = r := by rw [getElem!_pos l i k1]; exact k2
  rcases Nat.lt_or_ge i j with h | h
  · exact h1 i h (by rw [e]; exact hh)
  · exact h2 i h k1 (by rw [e]; exact hh)
theorem has_yes {l : List Rect} {j : Nat} {x y : Int} (hj : j < l.length) (h : l[j]!.has x y) : decide (inL l x y) = true := decide_eq_true ⟨_, List.mem_iff_getElem?.2 ⟨j, getE hj⟩, h⟩
theorem has_p (l : List Rect) (hc : Canon l) (hr : ∀ r ∈ l, rok r) (hn : l.length ≤ 1048576) (x y : Int) : CallP Tryz.prog 49 [regT l, I64 x, I64 y] (BL (decide (inL l x y))) := by
  have hsY := canon_sortedY hc
  refine CallP.intro2 au_pu au_pu ?_
  refine CallT.intro tab_ok Tryz.func49 rfl (by kernel_rfl) (Nat.le_of_ble_eq_true rfl) ?_
  refine VC.reg tab_ok [3] rfl ?_
  refine VX.newI rfl rfl ?_
  refine VX.meek rfl ?_
  refine VX.nil ?_
  refine VC.scope ?_
  refine VC.reg tab_ok [] rfl ?_
  refine VX.meek rfl ?_
  refine VX.nil ?_
  refine VC.seq ?_
  refine VC.label ?_
  refine VC.seq ?_
  refine VC.reg tab_ok [] rfl ?_
  refine VX.meek rfl ?_
  first | refine VX.meek rfl ?_ | refine VX.loadI rfl rfl au_l ?_ | refine VX.loadP rfl rfl rfl au_l ?_
  iterate 2 refine VX.meek rfl ?_
  refine VX.nil ?_
  refine VC.block ?_
  refine VC.loopS (σ := Nat) (fun j => l.length - j) (fun j => j ≤ l.length ∧ ∀ i, i < j → ¬ l[i]!.has x y) (fun j => [(13, I64 j)]) (fun _ => []) [1, 2, 7, 11, 12] rfl (0) ?_ ?_ ?_
  · refine ⟨[], rfl, by first | trivial | decide, rfl, ?_, ?_⟩ <;> (repeat' first | exact trivial | exact CvB_n | exact CvB_d | refine CvE_app ?_ ?_ | refine CvE_cons rfl ?_ ?_ | refine CvH_cons ?_ ?_ | refine CvB_c rfl ?_ | fail) <;> first | exact au_v | (skip)
  · exact ⟨by omega, fun i hi => by omega⟩
  rintro j ⟨hj, hno⟩
  refine VC.reg tab_ok [] rfl ?_
  refine VX.meek rfl ?_
  refine VX.nil ?_
  refine VC.seq ?_
  refine VC.cond rfl (fun hc0 => ?_) (fun hc0 => ?_)
  · (try simp only [au_std] at hc0); have hjl : j < l.length := (by omega); have hq := hr l[j]! (List.mem_iff_getElem?.2 ⟨j, getE hjl⟩); unfold rok at hq
    refine VC.skip ?_
    refine VC.seq ?_
    refine VC.block ?_
    refine VC.reg tab_ok [] rfl ?_
    first | refine VX.idxI rfl rfl rfl rfl rfl rfl (by omega) ?_ | refine VX.idxO0 rfl rfl rfl rfl rfl rfl rfl (by omega) ?_ | refine VX.idxO0 rfl rfl rfl rfl rfl rfl au_z (by omega) ?_ | refine VX.idxO rfl rfl rfl rfl rfl rfl rfl (by omega) ?_ | refine VX.idxI rfl rfl rfl rfl rfl au_z (by omega) ?_ | refine VX.idxO rfl rfl rfl rfl rfl rfl au_z (by omega) ?_ | refine VX.meek rfl ?_
    first | refine VX.meek rfl ?_ | refine VX.loadI rfl rfl au_l ?_ | refine VX.loadP rfl rfl rfl au_l ?_
    refine VX.new rfl rfl ?_
    refine VX.store rfl rfl rfl rfl rfl au_sR rfl ?_
    refine VX.nil ?_
    refine VC.block ?_
    refine VC.reg tab_ok [] rfl ?_
    iterate 2 refine VX.meek rfl ?_
    first | refine VX.meek rfl ?_ | refine VX.loadI rfl rfl au_l ?_ | refine VX.loadP rfl rfl rfl au_l ?_
    iterate 2 refine VX.meek rfl ?_
    refine VX.nil ?_
    refine VC.cond rfl (fun hc1 => ?_) (fun hc1 => ?_)
    · (try simp only [au_std] at hc1); have hres := has_no (x := x) (y := y) hj hno (fun i h1 h2 hh => by unfold Rect.has at hh; rcases Nat.lt_or_ge j i with h | h; have := hsY j i h h2; omega; have : i = j := (by omega); subst this; omega)
      refine VC.exit ?_
      refine VC.reg tab_ok [] rfl ?_
      iterate 2 refine VX.meek rfl ?_
      refine VX.nil ?_
      refine VC.ret ?_
      exact ⟨trivial, _, rfl, Cv.eq (by rw [hres]; rfl) rfl⟩
    · (try simp only [au_std] at hc1)
      refine VC.reg tab_ok [] rfl ?_
      iterate 2 refine VX.meek rfl ?_
      first | refine VX.meek rfl ?_ | refine VX.loadI rfl rfl au_l ?_ | refine VX.loadP rfl rfl rfl au_l ?_
      refine VX.meek rfl ?_
      first | refine VX.meek rfl ?_ | refine VX.loadI rfl rfl au_l ?_ | refine VX.loadP rfl rfl rfl au_l ?_
      first | refine VX.add rfl rfl (by omega) ?_ | refine VX.meek rfl ?_
      iterate 2 refine VX.meek rfl ?_
      refine' VX.merge (d := 38) [_, _, _, _, _, _, _, _] rfl ?_ rfl ?_
      rotate_left
      · refine VX.guard rfl rfl (fun hb6_7 => ?_) (fun hb6_7 => ?_)
        · have ghb6_7 := hb6_7
          try simp only [au_std, Bool.not_true, Bool.not_false] at ghb6_7
          refine VX.meek rfl ?_
          refine VX.guardT rfl rfl hb6_7 ?_
          refine VX.meek rfl ?_
          refine VX.guardT rfl rfl hb6_7 ?_
          first | refine VX.meek rfl ?_ | refine VX.loadI rfl rfl au_l ?_ | refine VX.loadP rfl rfl rfl au_l ?_
          refine VX.guardT rfl rfl hb6_7 ?_
          refine VX.meek rfl ?_
          refine VX.guardT rfl rfl hb6_7 ?_
          first | refine VX.meek rfl ?_ | refine VX.loadI rfl rfl au_l ?_ | refine VX.loadP rfl rfl rfl au_l ?_
          refine VX.guardT rfl rfl hb6_7 ?_
          first | refine VX.add rfl rfl (by omega) ?_ | refine VX.meek rfl ?_
          refine VX.guardT rfl rfl hb6_7 ?_
          refine VX.meek rfl ?_
          refine VX.pickO rfl (fun _ => rfl) ?_
          exact VX.nil ⟨rfl, rfl⟩
        · refine VX.guardF rfl rfl hb6_7 ?_
          refine VX.guardF rfl rfl hb6_7 ?_
          refine VX.guardF rfl rfl hb6_7 ?_
          refine VX.guardF rfl rfl hb6_7 ?_
          refine VX.guardF rfl rfl hb6_7 ?_
          refine VX.guardF rfl rfl hb6_7 ?_
          exact VX.pickO rfl (fun h => absurd (h.symm.trans hb6_7) (by decide)) (VX.nil ⟨rfl, rfl⟩)
      refine VX.meek rfl ?_
      refine VX.nil ?_
      refine VC.cond rfl (fun hc2 => ?_) (fun hc2 => ?_)
      · (try simp only [au_std] at hc2); have hnx : ¬ l[j]!.has x y := (by unfold Rect.has; omega)
        refine VC.exit ?_
        refine VC.regN tab_ok [] rfl ?_
        first | refine VX.add rfl rfl (by omega) ?_ | refine VX.meek rfl ?_
        refine VX.meek rfl ?_
        refine VX.nil ?_
        refine ⟨j + 1, by (try dsimp only); omega, ?_, (by refine ⟨[], rfl, by first | trivial | decide, rfl, ?_, ?_⟩ <;> (repeat' first | exact trivial | exact CvB_n | exact CvB_d | refine CvE_app ?_ ?_ | refine CvE_cons rfl ?_ ?_ | refine CvH_cons ?_ ?_ | refine CvB_c rfl ?_ | fail) <;> first | exact au_v | (fail))⟩
        exact ⟨by omega, fun i hi => by rcases Nat.lt_or_ge i j with h | h; exact hno i h; rw [show i = j by omega]; exact hnx⟩
      · (try simp only [au_std] at hc2)
        refine VC.reg tab_ok [] rfl ?_
        iterate 2 refine VX.meek rfl ?_
        first | refine VX.meek rfl ?_ | refine VX.loadI rfl rfl au_l ?_ | refine VX.loadP rfl rfl rfl au_l ?_
        iterate 2 refine VX.meek rfl ?_
        refine VX.nil ?_
        refine VC.cond rfl (fun hc3 => ?_) (fun hc3 => ?_)
        · (try simp only [au_std] at hc3); have hres := has_yes (x := x) (y := y) hjl (by unfold Rect.has; omega)
          refine VC.reg tab_ok [] rfl ?_
          refine VX.meek rfl ?_
          refine VX.nil ?_
          refine VC.exit ?_
          refine VC.reg tab_ok [] rfl ?_
          iterate 2 refine VX.meek rfl ?_
          refine VX.nil ?_
          refine VC.ret ?_
          exact ⟨trivial, _, rfl, Cv.eq (by rw [hres]; rfl) rfl⟩
        · (try simp only [au_std] at hc3); have hnx : ¬ l[j]!.has x y := (by unfold Rect.has; omega)
          refine VC.skip ?_
          refine VC.regN tab_ok [] rfl ?_
          first | refine VX.add rfl rfl (by omega) ?_ | refine VX.meek rfl ?_
          refine VX.meek rfl ?_
          refine VX.nil ?_
          refine ⟨j + 1, by (try dsimp only); omega, ?_, (by refine ⟨[], rfl, by first | trivial | decide, rfl, ?_, ?_⟩ <;> (repeat' first | exact trivial | exact CvB_n | exact CvB_d | refine CvE_app ?_ ?_ | refine CvE_cons rfl ?_ ?_ | refine CvH_cons ?_ ?_ | refine CvB_c rfl ?_ | fail) <;> first | exact au_v | (fail))⟩
          exact ⟨by omega, fun i hi => by rcases Nat.lt_or_ge i j with h | h; exact hno i h; rw [show i = j by omega]; exact hnx⟩
  · (try simp only [au_std] at hc0); have hres := has_no (x := x) (y := y) hj hno (fun i h1 h2 => by omega)
    refine VC.exit ?_
    refine VC.reg tab_ok [] rfl ?_
    iterate 2 refine VX.meek rfl ?_
    refine VX.nil ?_
    refine VC.ret ?_
    exact ⟨trivial, _, rfl, Cv.eq (by rw [hres]; rfl) rfl⟩
theorem rect_ext {a b : Rect} : a = b ↔ a.X = b.X ∧ a.Y = b.Y ∧ a.W = b.W ∧ a.H = b.H := ⟨fun h => by subst h; exact ⟨rfl, rfl, rfl, rfl⟩, fun ⟨h1, h2, h3, h4⟩ => by cases a; cases b; simp at h1 h2 h3 h4; subst h1 h2 h3 h4; rfl⟩
instance : DecidableEq Rect := fun a b => decidable_of_iff _ rect_ext.symm
end
section
open Go.RowKit Go.Sort
set_option maxRecDepth 10000
def placeB (n : Int) : Bool := decide (-32768 ≤ n) && decide (n ≤ 32767)
def sdB (n : Int) : Bool := decide (0 ≤ n) && decide (n ≤ 65535)
theorem isFunc_p (n : Int) : CallP Tryz.prog 131 [I64 n] (BL (ropKnown n)) := by
  refine CallP.intro2 au_pu au_pu ?_
  refine CallT.intro tab_ok Tryz.func131 rfl (by kernel_rfl) (Nat.le_of_ble_eq_true rfl) ?_
  refine VC.reg tab_ok [] rfl ?_
  refine VX.meek rfl ?_
  refine VX.nil ?_
  refine VC.reg tab_ok [] rfl ?_
  iterate 3 refine VX.meek rfl ?_
  refine' VX.merge (d := 8) [_, _, _] rfl ?_ rfl ?_
  rotate_left
  · refine VX.guard rfl rfl (fun hb1_2 => ?_) (fun hb1_2 => ?_)
    · have ghb1_2 := hb1_2
      try simp only [au_std, Bool.not_true, Bool.not_false] at ghb1_2
      refine VX.meek rfl ?_
      refine VX.guardT rfl rfl hb1_2 ?_
      refine VX.meek rfl ?_
      refine VX.pickA rfl (fun _ => rfl) ?_
      exact VX.nil ⟨rfl, rfl⟩
    · refine VX.guardF rfl rfl hb1_2 ?_
      exact VX.pickA rfl (fun h => absurd (h.symm.trans hb1_2) (by decide)) (VX.nil ⟨rfl, rfl⟩)
  refine VX.meek rfl ?_
  refine VX.nil ?_
  refine VC.ret ?_
  exact ⟨trivial, _, rfl, Cv.eq (by first | rfl | (simp [*]; done)) rfl⟩
theorem isPlace_p (n : Int) : CallP Tryz.prog 132 [I64 n] (BL (placeB n)) := by
  refine CallP.intro2 au_pu au_pu ?_
  refine CallT.intro tab_ok Tryz.func132 rfl (by kernel_rfl) (Nat.le_of_ble_eq_true rfl) ?_
  refine VC.reg tab_ok [] rfl ?_
  refine VX.meek rfl ?_
  refine VX.nil ?_
  refine VC.reg tab_ok [] rfl ?_
  iterate 3 refine VX.meek rfl ?_
  refine' VX.merge (d := 8) [_, _, _] rfl ?_ rfl ?_
  rotate_left
  · refine VX.guard rfl rfl (fun hb1_2 => ?_) (fun hb1_2 => ?_)
    · have ghb1_2 := hb1_2
      try simp only [au_std, Bool.not_true, Bool.not_false] at ghb1_2
      refine VX.meek rfl ?_
      refine VX.guardT rfl rfl hb1_2 ?_
      refine VX.meek rfl ?_
      refine VX.pickA rfl (fun _ => rfl) ?_
      exact VX.nil ⟨rfl, rfl⟩
    · refine VX.guardF rfl rfl hb1_2 ?_
      exact VX.pickA rfl (fun h => absurd (h.symm.trans hb1_2) (by decide)) (VX.nil ⟨rfl, rfl⟩)
  refine VX.meek rfl ?_
  refine VX.nil ?_
  refine VC.ret ?_
  exact ⟨trivial, _, rfl, Cv.eq (by first | rfl | (simp [*]; done)) rfl⟩
theorem isSide_p (n : Int) : CallP Tryz.prog 133 [I64 n] (BL (sdB n)) := by
  refine CallP.intro2 au_pu au_pu ?_
  refine CallT.intro tab_ok Tryz.func133 rfl (by kernel_rfl) (Nat.le_of_ble_eq_true rfl) ?_
  refine VC.reg tab_ok [] rfl ?_
  refine VX.meek rfl ?_
  refine VX.nil ?_
  refine VC.reg tab_ok [] rfl ?_
  iterate 3 refine VX.meek rfl ?_
  refine' VX.merge (d := 8) [_, _, _] rfl ?_ rfl ?_
  rotate_left
  · refine VX.guard rfl rfl (fun hb1_2 => ?_) (fun hb1_2 => ?_)
    · have ghb1_2 := hb1_2
      try simp only [au_std, Bool.not_true, Bool.not_false] at ghb1_2
      refine VX.meek rfl ?_
      refine VX.guardT rfl rfl hb1_2 ?_
      refine VX.meek rfl ?_
      refine VX.pickA rfl (fun _ => rfl) ?_
      exact VX.nil ⟨rfl, rfl⟩
    · refine VX.guardF rfl rfl hb1_2 ?_
      exact VX.pickA rfl (fun h => absurd (h.symm.trans hb1_2) (by decide)) (VX.nil ⟨rfl, rfl⟩)
  refine VX.meek rfl ?_
  refine VX.nil ?_
  refine VC.ret ?_
  exact ⟨trivial, _, rfl, Cv.eq (by first | rfl | (simp [*]; done)) rfl⟩
def PenOk (p : PenS) : Prop := ropKnown p.f = true ∧ placeB p.x = true ∧ placeB p.y = true ∧ (p.cl = true ∨ p.clip = []) ∧ p.clip.length ≤ 256 ∧ ∀ r ∈ p.clip, placeB r.X = true ∧ placeB r.Y = true ∧ sdB r.W = true ∧ sdB r.H = true
theorem check_p (p : PenS) (h : PenOk p) : CallP Tryz.prog 93 [penT p] (I64 0) := by
  obtain ⟨h1, h2, h3, h4, h5, h6⟩ := h
  refine CallP.intro2 au_pu au_pu ?_
  refine CallT.intro tab_ok Tryz.func93 rfl (by kernel_rfl) (Nat.le_of_ble_eq_true rfl) ?_
  refine VC.reg tab_ok [1] rfl ?_
  refine VX.newI rfl rfl ?_
  refine VX.meek rfl ?_
  refine VX.nil ?_
  refine VC.seq ?_
  refine VC.block ?_
  refine VC.reg tab_ok [] rfl ?_
  refine VX.meek rfl ?_
  first | refine VX.meek rfl ?_ | refine VX.loadI rfl rfl au_l ?_ | refine VX.loadP rfl rfl rfl au_l ?_
  refine VX.callP0 rfl rfl rfl (isFunc_p _) ?_
  iterate 2 refine VX.meek rfl ?_
  refine VX.nil ?_
  refine VC.cond rfl (fun hc0 => ?_) (fun hc0 => ?_)
  · exact absurd hc0 (by simp [h1])
  · (try simp only [au_std] at hc0)
    refine VC.reg tab_ok [] rfl ?_
    refine VX.meek rfl ?_
    first | refine VX.meek rfl ?_ | refine VX.loadI rfl rfl au_l ?_ | refine VX.loadP rfl rfl rfl au_l ?_
    refine VX.callP0 rfl rfl rfl (isPlace_p _) ?_
    iterate 2 refine VX.meek rfl ?_
    refine' VX.merge (d := 20) [_, _, _, _, _] rfl ?_ rfl ?_
    rotate_left
    · refine VX.guard rfl rfl (fun hb3_4 => ?_) (fun hb3_4 => ?_)
      · have ghb3_4 := hb3_4
        try simp only [au_std, Bool.not_true, Bool.not_false] at ghb3_4
        refine VX.meek rfl ?_
        refine VX.guardT rfl rfl hb3_4 ?_
        first | refine VX.meek rfl ?_ | refine VX.loadI rfl rfl au_l ?_ | refine VX.loadP rfl rfl rfl au_l ?_
        refine VX.guardT rfl rfl hb3_4 ?_
        refine VX.callP0 rfl rfl rfl (isPlace_p _) ?_
        refine VX.guardT rfl rfl hb3_4 ?_
        refine VX.meek rfl ?_
        refine VX.pickO rfl (fun _ => rfl) ?_
        exact VX.nil ⟨rfl, rfl⟩
      · refine VX.guardF rfl rfl hb3_4 ?_
        refine VX.guardF rfl rfl hb3_4 ?_
        refine VX.guardF rfl rfl hb3_4 ?_
        exact VX.pickO rfl (fun h => absurd (h.symm.trans hb3_4) (by decide)) (VX.nil ⟨rfl, rfl⟩)
    refine VX.meek rfl ?_
    refine VX.nil ?_
    refine VC.cond rfl (fun hc1 => ?_) (fun hc1 => ?_)
    · exact absurd hc1 (by simp [h2, h3])
    · (try simp only [au_std] at hc1)
      refine VC.reg tab_ok [] rfl ?_
      refine VX.meek rfl ?_
      first | refine VX.meek rfl ?_ | refine VX.loadI rfl rfl au_l ?_ | refine VX.loadP rfl rfl rfl au_l ?_
      iterate 2 refine VX.meek rfl ?_
      refine' VX.merge (d := 30) [_, _, _, _, _] rfl ?_ rfl ?_
      rotate_left
      · refine VX.guard rfl rfl (fun hb5_3 => ?_) (fun hb5_3 => ?_)
        · have ghb5_3 := hb5_3
          try simp only [au_std, Bool.not_true, Bool.not_false] at ghb5_3
          refine VX.meek rfl ?_
          refine VX.guardT rfl rfl hb5_3 ?_
          first | refine VX.meek rfl ?_ | refine VX.loadI rfl rfl au_l ?_ | refine VX.loadP rfl rfl rfl au_l ?_
          refine VX.guardT rfl rfl hb5_3 ?_
          refine VX.meek rfl ?_
          refine VX.guardT rfl rfl hb5_3 ?_
          refine VX.meek rfl ?_
          refine VX.pickA rfl (fun _ => rfl) ?_
          exact VX.nil ⟨rfl, rfl⟩
        · refine VX.guardF rfl rfl hb5_3 ?_
          refine VX.guardF rfl rfl hb5_3 ?_
          refine VX.guardF rfl rfl hb5_3 ?_
          exact VX.pickA rfl (fun h => absurd (h.symm.trans hb5_3) (by decide)) (VX.nil ⟨rfl, rfl⟩)
      refine VX.meek rfl ?_
      refine VX.nil ?_
      refine VC.cond rfl (fun hc2 => ?_) (fun hc2 => ?_)
      · exact absurd hc2 (by rcases h4 with h | h <;> simp [h])
      · (try simp only [au_std] at hc2)
        refine VC.reg tab_ok [] rfl ?_
        refine VX.meek rfl ?_
        first | refine VX.meek rfl ?_ | refine VX.loadI rfl rfl au_l ?_ | refine VX.loadP rfl rfl rfl au_l ?_
        iterate 3 refine VX.meek rfl ?_
        refine VX.nil ?_
        refine VC.cond rfl (fun hc3 => ?_) (fun hc3 => ?_)
        · (try simp only [au_std] at hc3); omega
        · (try simp only [au_std] at hc3)
          refine VC.skip ?_
          refine VC.seq ?_
          refine VC.reg tab_ok [] rfl ?_
          refine VX.meek rfl ?_
          first | refine VX.meek rfl ?_ | refine VX.loadI rfl rfl au_l ?_ | refine VX.loadP rfl rfl rfl au_l ?_
          iterate 2 refine VX.meek rfl ?_
          refine VX.nil ?_
          refine VC.block ?_
          refine VC.loopS (σ := Nat) (fun k => p.clip.length - k) (fun k => k ≤ p.clip.length) (fun k => [(39, I64 k)]) (fun _ => []) [37, 38] rfl (0) ?_ ?_ ?_
          · refine ⟨[], rfl, by first | trivial | decide, rfl, ?_, ?_⟩ <;> (repeat' first | exact trivial | exact CvB_n | exact CvB_d | refine CvE_app ?_ ?_ | refine CvE_cons rfl ?_ ?_ | refine CvH_cons ?_ ?_ | refine CvB_c rfl ?_ | fail) <;> first | exact au_v | (skip)
          · (try dsimp only); omega
          rintro k hk
          refine VC.reg tab_ok [] rfl ?_
          refine VX.meek rfl ?_
          refine VX.nil ?_
          refine VC.seq ?_
          refine VC.cond rfl (fun hc4 => ?_) (fun hc4 => ?_)
          · (try simp only [au_std] at hc4); have hkl : k < p.clip.length := (by omega); have hq := h6 p.clip[k]! (List.mem_iff_getElem?.2 ⟨k, getE hkl⟩)
            refine VC.skip ?_
            refine VC.seq ?_
            refine VC.block ?_
            refine VC.reg tab_ok [] rfl ?_
            first | refine VX.idxI rfl rfl rfl rfl rfl rfl (by omega) ?_ | refine VX.idxO0 rfl rfl rfl rfl rfl rfl rfl (by omega) ?_ | refine VX.idxO0 rfl rfl rfl rfl rfl rfl au_z (by omega) ?_ | refine VX.idxO rfl rfl rfl rfl rfl rfl rfl (by omega) ?_ | refine VX.idxI rfl rfl rfl rfl rfl au_z (by omega) ?_ | refine VX.idxO rfl rfl rfl rfl rfl rfl au_z (by omega) ?_ | refine VX.meek rfl ?_
            first | refine VX.meek rfl ?_ | refine VX.loadI rfl rfl au_l ?_ | refine VX.loadP rfl rfl rfl au_l ?_
            refine VX.new rfl rfl ?_
            refine VX.store rfl rfl rfl rfl rfl au_sR rfl ?_
            refine VX.nil ?_
            refine VC.reg tab_ok [] rfl ?_
            refine VX.meek rfl ?_
            first | refine VX.meek rfl ?_ | refine VX.loadI rfl rfl au_l ?_ | refine VX.loadP rfl rfl rfl au_l ?_
            refine VX.callP0 rfl rfl rfl (isPlace_p _) ?_
            iterate 2 refine VX.meek rfl ?_
            refine' VX.merge (d := 52) [_, _, _, _, _] rfl ?_ rfl ?_
            rotate_left
            · refine VX.guard rfl rfl (fun hb12_4 => ?_) (fun hb12_4 => ?_)
              · have ghb12_4 := hb12_4
                try simp only [au_std, Bool.not_true, Bool.not_false] at ghb12_4
                refine VX.meek rfl ?_
                refine VX.guardT rfl rfl hb12_4 ?_
                first | refine VX.meek rfl ?_ | refine VX.loadI rfl rfl au_l ?_ | refine VX.loadP rfl rfl rfl au_l ?_
                refine VX.guardT rfl rfl hb12_4 ?_
                refine VX.callP0 rfl rfl rfl (isPlace_p _) ?_
                refine VX.guardT rfl rfl hb12_4 ?_
                refine VX.meek rfl ?_
                refine VX.pickO rfl (fun _ => rfl) ?_
                exact VX.nil ⟨rfl, rfl⟩
              · refine VX.guardF rfl rfl hb12_4 ?_
                refine VX.guardF rfl rfl hb12_4 ?_
                refine VX.guardF rfl rfl hb12_4 ?_
                exact VX.pickO rfl (fun h => absurd (h.symm.trans hb12_4) (by decide)) (VX.nil ⟨rfl, rfl⟩)
            refine VX.meek rfl ?_
            refine' VX.merge (d := 58) [_, _, _, _, _] rfl ?_ rfl ?_
            rotate_left
            · refine VX.guard rfl rfl (fun hb12_10 => ?_) (fun hb12_10 => ?_)
              · have ghb12_10 := hb12_10
                try simp only [au_std, Bool.not_true, Bool.not_false] at ghb12_10
                refine VX.meek rfl ?_
                refine VX.guardT rfl rfl hb12_10 ?_
                first | refine VX.meek rfl ?_ | refine VX.loadI rfl rfl au_l ?_ | refine VX.loadP rfl rfl rfl au_l ?_
                refine VX.guardT rfl rfl hb12_10 ?_
                refine VX.callP0 rfl rfl rfl (isSide_p _) ?_
                refine VX.guardT rfl rfl hb12_10 ?_
                refine VX.meek rfl ?_
                refine VX.pickO rfl (fun _ => rfl) ?_
                exact VX.nil ⟨rfl, rfl⟩
              · refine VX.guardF rfl rfl hb12_10 ?_
                refine VX.guardF rfl rfl hb12_10 ?_
                refine VX.guardF rfl rfl hb12_10 ?_
                exact VX.pickO rfl (fun h => absurd (h.symm.trans hb12_10) (by decide)) (VX.nil ⟨rfl, rfl⟩)
            refine VX.meek rfl ?_
            refine' VX.merge (d := 64) [_, _, _, _, _] rfl ?_ rfl ?_
            rotate_left
            · refine VX.guard rfl rfl (fun hb12_16 => ?_) (fun hb12_16 => ?_)
              · have ghb12_16 := hb12_16
                try simp only [au_std, Bool.not_true, Bool.not_false] at ghb12_16
                refine VX.meek rfl ?_
                refine VX.guardT rfl rfl hb12_16 ?_
                first | refine VX.meek rfl ?_ | refine VX.loadI rfl rfl au_l ?_ | refine VX.loadP rfl rfl rfl au_l ?_
                refine VX.guardT rfl rfl hb12_16 ?_
                refine VX.callP0 rfl rfl rfl (isSide_p _) ?_
                refine VX.guardT rfl rfl hb12_16 ?_
                refine VX.meek rfl ?_
                refine VX.pickO rfl (fun _ => rfl) ?_
                exact VX.nil ⟨rfl, rfl⟩
              · refine VX.guardF rfl rfl hb12_16 ?_
                refine VX.guardF rfl rfl hb12_16 ?_
                refine VX.guardF rfl rfl hb12_16 ?_
                exact VX.pickO rfl (fun h => absurd (h.symm.trans hb12_16) (by decide)) (VX.nil ⟨rfl, rfl⟩)
            refine VX.nil ?_
            refine VC.cond rfl (fun hc5 => ?_) (fun hc5 => ?_)
            · exact absurd hc5 (by rw [hq.1, hq.2.1, hq.2.2.1, hq.2.2.2]; simp)
            · (try simp only [au_std] at hc5)
              refine VC.skip ?_
              refine VC.regN tab_ok [] rfl ?_
              first | refine VX.add rfl rfl (by omega) ?_ | refine VX.meek rfl ?_
              refine VX.meek rfl ?_
              refine VX.nil ?_
              refine ⟨k + 1, by (try dsimp only); omega, ?_, (by refine ⟨[], rfl, by first | trivial | decide, rfl, ?_, ?_⟩ <;> (repeat' first | exact trivial | exact CvB_n | exact CvB_d | refine CvE_app ?_ ?_ | refine CvE_cons rfl ?_ ?_ | refine CvH_cons ?_ ?_ | refine CvB_c rfl ?_ | fail) <;> first | exact au_v | (fail))⟩
              (try dsimp only); omega
          · (try simp only [au_std] at hc4)
            refine VC.exit ?_
            refine VC.reg tab_ok [] rfl ?_
            refine VX.meek rfl ?_
            refine VX.nil ?_
            refine VC.ret ?_
            exact ⟨trivial, _, rfl, Cv.eq (by first | rfl | (simp [*]; done)) rfl⟩
abbrev plT (b w h : Nat) (px : List Int) : T := .iptr (plC w h px (nwT b px.length)) 0
theorem painter_t (w h : Nat) (px : List Int) (p : PenS) (src : Int) (cs : List T) : CallT Tryz.prog 94 [plT 0 w h px, penT p, U8 src] [.c cs] (fun t H' => t = .clo 134 [] [.iptr [plT 0 w h px] 0, .iptr (penC p) 0, .iptr [U8 src] 0] ∧ H' = [.c cs]) := by
  refine CallT.intro tab_ok Tryz.func94 rfl (by kernel_rfl) (Nat.le_of_ble_eq_true rfl) ?_
  refine VC.reg tab_ok [3, 4, 5] rfl ?_
  refine VX.newI rfl rfl ?_
  refine VX.newI rfl rfl ?_
  refine VX.newI rfl rfl ?_
  refine VX.meek rfl ?_
  refine VX.nil ?_
  refine VC.reg tab_ok [] rfl ?_
  iterate 2 refine VX.meek rfl ?_
  refine VX.nil ?_
  refine VC.ret ?_
  exact ⟨trivial, _, rfl, rfl, rfl⟩
theorem paintL_bd {w : Nat} {V : Int → Int → Prop} {f : Int → Int → Int → Int} {px : List Int} (hb : ∀ v ∈ px, 0 ≤ v ∧ v < 256) (hf : ∀ x y o, 0 ≤ o ∧ o < 256 → 0 ≤ f x y o ∧ f x y o < 256) : ∀ v ∈ paintL w V f px, 0 ≤ v ∧ v < 256 := by
  intro v hv
  unfold paintL at hv
  obtain ⟨i, hi, rfl⟩ := List.mem_map.1 hv
  split
  · exact hf _ _ _ (bang_bd hb _)
  · exact bang_bd hb _
theorem cv_caps {v : Vw} {b b' w h : Nat} {px : List Int} {cs : List T} (hr : v.R b' b) (hcs : T.pureL cs = true) : CvL v (.iptr [plT b w h px] 0 :: cs) (.iptr [plT b' w h px] 0 :: cs) :=
  CvL.cons (Cv.iptr (CvL.cons (Cv.iptr (cv_pl (Cv.pure (encL_pure cU _)) (Cv.slc hr (.inl rfl)))) CvL.nil)) (CvL.pure hcs)
theorem each_t (w h : Nat) (px s0 : List Int) (l : List Rect) (g : FuncId) (cs : List T) (f : Int → Int → Int → Int) (hcs : T.pureL cs = true) (hw : w ≤ 128) (hh : h ≤ 128) (hl : s0.length = w * h) (hc : Canon l) (hr : ∀ r ∈ l, rok r) (hn : l.length ≤ 1048576)
    (hin : ∀ x y, inL l x y → 0 ≤ x ∧ x < w ∧ 0 ≤ y ∧ y < h) (hb : ∀ v ∈ s0, 0 ≤ v ∧ v < 256) (hf : ∀ x y o, 0 ≤ o ∧ o < 256 → 0 ≤ f x y o ∧ f x y o < 256)
    (hdo : ∀ (s : List Int) (x y : Int), s.length = w * h → (∀ v ∈ s, 0 ≤ v ∧ v < 256) → 0 ≤ x → x < w → 0 ≤ y → y < h → CallT Tryz.prog g ([] ++ [I64 x, I64 y] ++ (.iptr [plT 0 w h px] 0 :: cs)) [.c (encL cU s)] (fun t H' => t = .tup [] ∧ H' = [.c (encL cU (s.set (y * w + x).toNat (f x y s[(y * w + x).toNat]!)))])) :
    CallT Tryz.prog 67 [regT l, .clo g [] (.iptr [plT 0 w h px] 0 :: cs)] [.c (encL cU s0)] (fun t H' => t = .tup [] ∧ H' = [.c (encL cU (paintL w (inL l) f s0))]) := by
  refine CallT.intro tab_ok Tryz.func67 rfl (by kernel_rfl) (Nat.le_of_ble_eq_true rfl) ?_
  refine VC.reg tab_ok [2] rfl ?_
  refine VX.newI rfl rfl ?_
  refine VX.nil ?_
  refine VC.reg tab_ok [] rfl ?_
  first | refine VX.meek rfl ?_ | refine VX.loadI rfl rfl au_l ?_ | refine VX.loadP rfl rfl rfl au_l ?_
  refine VX.callP0 rfl rfl rfl (rects_p l hn) ?_
  iterate 2 refine VX.meek rfl ?_
  refine VX.nil ?_
  refine VC.block ?_
  refine VC.loopS (σ := Nat) (fun k => l.length - k) (fun k => k ≤ l.length) (fun k => [(11, I64 k), (1, .clo g [] (.iptr [plT 0 w h px] 0 :: cs))]) (fun k => [.c (encL cU (paintL w (inL (l.take k)) f s0))]) [9, 10] rfl (0) ?_ ?_ ?_
  · refine ⟨[some 0], rfl, by first | trivial | decide, rfl, ?_, ?_⟩ <;> (repeat' first | exact trivial | exact CvB_n | exact CvB_d | refine CvE_app ?_ ?_ | refine CvE_cons rfl ?_ ?_ | refine CvH_cons ?_ ?_ | refine CvB_c rfl ?_ | fail) <;> first | exact au_v | (first | exact Cv.clo CvL.nil (cv_caps rfl hcs) | exact CvL.eq (congrArg (encL cU) (paint_none hl (fun a b _ _ _ _ => by rw [List.take_zero]; exact inL_nil)).symm) (encL_pure cU _))
  · (try dsimp only); omega
  rintro k hk
  refine VC.reg tab_ok [] rfl ?_
  refine VX.meek rfl ?_
  refine VX.nil ?_
  refine VC.seq ?_
  refine VC.cond rfl (fun hc0 => ?_) (fun hc0 => ?_)
  · (try simp only [au_std] at hc0); have hkl : k < l.length := (by omega); have hrk := hr l[k]! (List.mem_iff_getElem?.2 ⟨k, getE hkl⟩); unfold rok at hrk; have hik : ∀ x y, l[k]!.has x y → 0 ≤ x ∧ x < w ∧ 0 ≤ y ∧ y < h := fun x y hh => hin x y ⟨_, List.mem_iff_getElem?.2 ⟨k, getE hkl⟩, hh⟩
    refine VC.skip ?_
    refine VC.seq ?_
    refine VC.block ?_
    refine VC.reg tab_ok [] rfl ?_
    first | refine VX.idxI rfl rfl rfl rfl rfl rfl (by omega) ?_ | refine VX.idxO0 rfl rfl rfl rfl rfl rfl rfl (by omega) ?_ | refine VX.idxO0 rfl rfl rfl rfl rfl rfl au_z (by omega) ?_ | refine VX.idxO rfl rfl rfl rfl rfl rfl rfl (by omega) ?_ | refine VX.idxI rfl rfl rfl rfl rfl au_z (by omega) ?_ | refine VX.idxO rfl rfl rfl rfl rfl rfl au_z (by omega) ?_ | refine VX.meek rfl ?_
    first | refine VX.meek rfl ?_ | refine VX.loadI rfl rfl au_l ?_ | refine VX.loadP rfl rfl rfl au_l ?_
    refine VX.new rfl rfl ?_
    refine VX.store rfl rfl rfl rfl rfl au_sR rfl ?_
    refine VX.nil ?_
    refine VC.reg tab_ok [] rfl ?_
    refine VX.meek rfl ?_
    first | refine VX.meek rfl ?_ | refine VX.loadI rfl rfl au_l ?_ | refine VX.loadP rfl rfl rfl au_l ?_
    refine VX.meek rfl ?_
    refine VX.nil ?_
    refine VC.block ?_
    refine VC.loopS (σ := Nat) (fun j => l[k]!.H.toNat - j) (fun j => j ≤ l[k]!.H.toNat) (fun j => [(6, I64 (l[k]!.Y + j)), (1, .clo g [] (.iptr [plT 0 w h px] 0 :: cs)), (5, .ptr 1 0)]) (fun j => [.c (encL cU (paintL w (fun a b => inL (l.take k) a b ∨ (l[k]!.has a b ∧ b < l[k]!.Y + j)) f s0)), .c [I64 l[k]!.X, I64 l[k]!.Y, I64 l[k]!.W, I64 l[k]!.H]]) [9, 10, 11] rfl (0) ?_ ?_ ?_
    · refine ⟨[some 0, some 1], rfl, by first | trivial | decide, rfl, ?_, ?_⟩ <;> (repeat' first | exact trivial | exact CvB_n | exact CvB_d | refine CvE_app ?_ ?_ | refine CvE_cons rfl ?_ ?_ | refine CvH_cons ?_ ?_ | refine CvB_c rfl ?_ | fail) <;> first | exact au_v | (first | exact Cv.clo CvL.nil (cv_caps rfl hcs) | exact Cv.eq (congrArg I64 (by simp)) rfl | exact CvL.eq (congrArg (encL cU) (paint_congr hl (fun a b _ _ _ _ => by unfold Rect.has; by_cases hV : inL (l.take k) a b; simp [hV]; simp only [hV, false_or, iff_false]; omega) (fun _ _ _ _ _ _ _ => rfl))) (encL_pure cU _))
    · (try dsimp only); omega
    rintro j hj
    refine VC.seq ?_
    refine VC.reg tab_ok [] rfl ?_
    iterate 2 refine VX.meek rfl ?_
    first | refine VX.meek rfl ?_ | refine VX.loadI rfl rfl au_l ?_ | refine VX.loadP rfl rfl rfl au_l ?_
    refine VX.meek rfl ?_
    first | refine VX.meek rfl ?_ | refine VX.loadI rfl rfl au_l ?_ | refine VX.loadP rfl rfl rfl au_l ?_
    first | refine VX.add rfl rfl (by omega) ?_ | refine VX.meek rfl ?_
    refine VX.meek rfl ?_
    refine VX.nil ?_
    refine VC.cond rfl (fun hc1 => ?_) (fun hc1 => ?_)
    · (try simp only [au_std] at hc1); have hjl : j < l[k]!.H.toNat := (by omega)
      refine VC.skip ?_
      refine VC.seq ?_
      refine VC.block ?_
      refine VC.reg tab_ok [] rfl ?_
      refine VX.meek rfl ?_
      first | refine VX.meek rfl ?_ | refine VX.loadI rfl rfl au_l ?_ | refine VX.loadP rfl rfl rfl au_l ?_
      refine VX.meek rfl ?_
      refine VX.nil ?_
      refine VC.block ?_
      refine VC.loopS (σ := Nat) (fun i => l[k]!.W.toNat - i) (fun i => i ≤ l[k]!.W.toNat) (fun i => [(7, I64 (l[k]!.X + i)), (1, .clo g [] (.iptr [plT 0 w h px] 0 :: cs)), (5, .ptr 1 0)]) (fun i => [.c (encL cU (paintL w (fun a b => inL (l.take k) a b ∨ (l[k]!.has a b ∧ (b < l[k]!.Y + j ∨ (b = l[k]!.Y + j ∧ a < l[k]!.X + i)))) f s0)), .c [I64 l[k]!.X, I64 l[k]!.Y, I64 l[k]!.W, I64 l[k]!.H]]) [6, 9, 10, 11] rfl (0) ?_ ?_ ?_
      · refine ⟨[some 0, some 1], rfl, by first | trivial | decide, rfl, ?_, ?_⟩ <;> (repeat' first | exact trivial | exact CvB_n | exact CvB_d | refine CvE_app ?_ ?_ | refine CvE_cons rfl ?_ ?_ | refine CvH_cons ?_ ?_ | refine CvB_c rfl ?_ | fail) <;> first | exact au_v | (first | exact Cv.clo CvL.nil (cv_caps rfl hcs) | exact Cv.eq (congrArg I64 (by simp)) rfl | exact CvL.eq (congrArg (encL cU) (paint_congr hl (fun a b _ _ _ _ => by unfold Rect.has; by_cases hV : inL (l.take k) a b; simp [hV]; simp only [hV, false_or, iff_false]; omega) (fun _ _ _ _ _ _ _ => rfl))) (encL_pure cU _))
      · (try dsimp only); omega
      rintro i hi
      refine VC.seq ?_
      refine VC.reg tab_ok [] rfl ?_
      iterate 2 refine VX.meek rfl ?_
      first | refine VX.meek rfl ?_ | refine VX.loadI rfl rfl au_l ?_ | refine VX.loadP rfl rfl rfl au_l ?_
      refine VX.meek rfl ?_
      first | refine VX.meek rfl ?_ | refine VX.loadI rfl rfl au_l ?_ | refine VX.loadP rfl rfl rfl au_l ?_
      first | refine VX.add rfl rfl (by omega) ?_ | refine VX.meek rfl ?_
      refine VX.meek rfl ?_
      refine VX.nil ?_
      refine VC.cond rfl (fun hc2 => ?_) (fun hc2 => ?_)
      · (try simp only [au_std] at hc2); have hil : i < l[k]!.W.toNat := (by omega); have hpl := hik (l[k]!.X + i) (l[k]!.Y + j) (by unfold Rect.has; omega); have hnd := canon_disj hc hkl (x := l[k]!.X + i) (y := l[k]!.Y + j) (by unfold Rect.has; omega); have hpi := place_lt hpl.1 hpl.2.1 hpl.2.2.1 hpl.2.2.2
        have hput : (paintL w (fun a b => inL (l.take k) a b ∨ (l[k]!.has a b ∧ (b < l[k]!.Y + j ∨ (b = l[k]!.Y + j ∧ a < l[k]!.X + i)))) f s0).set ((l[k]!.Y + j) * w + (l[k]!.X + i)).toNat (f (l[k]!.X + i) (l[k]!.Y + j) (paintL w (fun a b => inL (l.take k) a b ∨ (l[k]!.has a b ∧ (b < l[k]!.Y + j ∨ (b = l[k]!.Y + j ∧ a < l[k]!.X + i)))) f s0)[((l[k]!.Y + j) * w + (l[k]!.X + i)).toNat]!) = paintL w (fun a b => inL (l.take k) a b ∨ (l[k]!.has a b ∧ (b < l[k]!.Y + j ∨ (b = l[k]!.Y + j ∧ a < l[k]!.X + (i + 1 : Nat))))) f s0 := paint_put hl hpl.1 hpl.2.1 hpl.2.2.1 hpl.2.2.2 (by
            rw [paintL_not ⟨hpl.1, hpl.2.1⟩ hpl.2.2.1 (by omega) (by rintro (q | q); exact hnd q; omega)]) (fun a b _ _ _ _ => by unfold Rect.has; by_cases hV : inL (l.take k) a b; simp [hV]; simp only [hV, false_or]; omega)
        refine VC.skip ?_
        refine VC.seq ?_
        refine VC.block ?_
        refine VC.regN tab_ok [] rfl ?_
        iterate 3 refine VX.meek rfl ?_
        refine VX.callT rfl rfl (CallT.frame (hdo (paintL w (fun a b => inL (l.take k) a b ∨ (l[k]!.has a b ∧ (b < l[k]!.Y + j ∨ (b = l[k]!.Y + j ∧ a < l[k]!.X + i)))) f s0) (l[k]!.X + i) (l[k]!.Y + j) (by rw [paintL_len, hl]) (paintL_bd hb hf) hpl.1 hpl.2.1 hpl.2.2.1 hpl.2.2.2) [0] rfl au_ci au_ci ?_)
        rintro _ _ ⟨rfl, rfl⟩
        refine frK au_co au_co ?_
        refine VX.nil ?_
        refine VC.regN tab_ok [] rfl ?_
        refine VX.meek rfl ?_
        first | refine VX.add rfl rfl (by omega) ?_ | refine VX.meek rfl ?_
        refine VX.meek rfl ?_
        refine VX.nil ?_
        refine ⟨i + 1, by (try dsimp only); omega, ?_, (by refine ⟨[some 0, some 1], rfl, by first | trivial | decide, rfl, ?_, ?_⟩ <;> (repeat' first | exact trivial | exact CvB_n | exact CvB_d | refine CvE_app ?_ ?_ | refine CvE_cons rfl ?_ ?_ | refine CvH_cons ?_ ?_ | refine CvB_c rfl ?_ | fail) <;> first | exact au_v | (first | exact Cv.clo CvL.nil (cv_caps rfl hcs) | exact Cv.eq (congrArg I64 (by omega)) rfl | exact CvL.eq (congrArg (encL cU) hput) (encL_pure cU _)))⟩
        (try dsimp only); omega
      · (try simp only [au_std] at hc2)
        refine VC.exit ?_
        refine VC.regN tab_ok [] rfl ?_
        refine VX.meek rfl ?_
        first | refine VX.add rfl rfl (by omega) ?_ | refine VX.meek rfl ?_
        refine VX.meek rfl ?_
        refine VX.nil ?_
        refine ⟨j + 1, by (try dsimp only); omega, ?_, (by refine ⟨[some 0, some 1], rfl, by first | trivial | decide, rfl, ?_, ?_⟩ <;> (repeat' first | exact trivial | exact CvB_n | exact CvB_d | refine CvE_app ?_ ?_ | refine CvE_cons rfl ?_ ?_ | refine CvH_cons ?_ ?_ | refine CvB_c rfl ?_ | fail) <;> first | exact au_v | (first | exact Cv.clo CvL.nil (cv_caps rfl hcs) | exact Cv.eq (congrArg I64 (by omega)) rfl | exact CvL.eq (congrArg (encL cU) (paint_congr hl (fun a b _ _ _ _ => by unfold Rect.has; by_cases hV : inL (l.take k) a b; simp [hV]; simp only [hV, false_or]; omega) (fun _ _ _ _ _ _ _ => rfl))) (encL_pure cU _)))⟩
        (try dsimp only); omega
    · (try simp only [au_std] at hc1)
      refine VC.exit ?_
      refine VC.regN tab_ok [] rfl ?_
      first | refine VX.add rfl rfl (by omega) ?_ | refine VX.meek rfl ?_
      refine VX.meek rfl ?_
      refine VX.nil ?_
      refine ⟨k + 1, by (try dsimp only); omega, ?_, (by refine ⟨[some 0], rfl, by first | trivial | decide, rfl, ?_, ?_⟩ <;> (repeat' first | exact trivial | exact CvB_n | exact CvB_d | refine CvE_app ?_ ?_ | refine CvE_cons rfl ?_ ?_ | refine CvH_cons ?_ ?_ | refine CvB_c rfl ?_ | fail) <;> first | exact au_v | (first | exact Cv.clo CvL.nil (cv_caps rfl hcs) | exact CvL.eq (congrArg (encL cU) (paint_congr hl (fun a b _ _ _ _ => by rw [inL_take hkl]; unfold Rect.has; by_cases hV : inL (l.take k) a b; simp [hV]; simp only [hV, false_or]; omega) (fun _ _ _ _ _ _ _ => rfl))) (encL_pure cU _)))⟩
      (try dsimp only); omega
  · (try simp only [au_std] at hc0); obtain rfl : k = l.length := (by omega); rw [List.take_length]
    refine VC.exit ?_
    exact ⟨trivial, _, rfl, rfl, rfl⟩
end
section
open Go.RowKit Go.Sort
set_option maxRecDepth 10000
theorem pgrid_n (w h : Nat) (px s : List Int) (n : Nat) (hn : s.length = n) (hw : w ≤ 128) (hh : h ≤ 128) (hl : px.length = w * h) (hs : s.length = w * h) (hp : ∀ v ∈ px, 0 ≤ v ∧ v < 256) (hb : ∀ v ∈ s, 0 ≤ v ∧ v < 256) :
    CallP Tryz.prog 74 [.iptr (plC w h px (.islc (encL cU s) n none)) 0] (gT w h s) := by
  subst hn; exact pgrid_p w h px s hw hh hl hs hp hb
def mixF (p : PenS) (src : Int) : Int → Int → Int → Int := fun _ _ o => mixI p.f src o p.pl
theorem mixF_bd (p : PenS) (src : Int) : ∀ x y o, 0 ≤ o ∧ o < 256 → 0 ≤ mixF p src x y o ∧ mixF p src x y o < 256 := fun x y o _ => by have := mixI_bd p.f src o p.pl; unfold mixF; omega
theorem opL_sub2 {n m : Nat} {a b : List Rect} (ha : Reg n a) (hb : Reg m b) {x y : Int} (h : inL (opL and a b) x y) : inL a x y ∧ inL b x y := by
  have := (opL_in (k := and) rfl ha.1 hb.1 ha.2 hb.2 x y).1 h
  simpa using this
theorem opL_and {n m : Nat} {a b : List Rect} (ha : Reg n a) (hb : Reg m b) {x y : Int} : inL (opL and a b) x y ↔ inL a x y ∧ inL b x y := by
  rw [opL_in (k := and) rfl ha.1 hb.1 ha.2 hb.2 x y]; simp
theorem in_plane {w h : Nat} (hw : 1 ≤ w ∧ w ≤ 128) (hh : 1 ≤ h ∧ h ≤ 128) (x y : Int) : inL (bandOf [⟨0, 0, w, h⟩]) x y ↔ 0 ≤ x ∧ x < w ∧ 0 ≤ y ∧ y < h := by
  have hc : countsB ⟨0, 0, w, h⟩ = true := by unfold countsB fitsB; simp; omega
  rw [bandOf_one, if_pos hc, inL_cons]
  have : ¬ inL [] x y := inL_nil
  unfold Rect.has
  constructor
  · rintro (k | k)
    · dsimp only at k; omega
    · exact absurd k this
  · intro k; exact .inl (by dsimp only; omega)
theorem in_plane0 {w h : Nat} (hw : w ≤ 128) (hh : h ≤ 128) (x y : Int) : inL (bandOf [⟨0, 0, w, h⟩]) x y ↔ 0 ≤ x ∧ x < w ∧ 0 ≤ y ∧ y < h := by
  by_cases h1 : 1 ≤ w ∧ 1 ≤ h
  · exact in_plane ⟨h1.1, hw⟩ ⟨h1.2, hh⟩ x y
  · have hc : ¬ countsB ⟨0, 0, w, h⟩ = true := by unfold countsB fitsB; simp; omega
    rw [bandOf_one, if_neg hc]
    exact ⟨fun k => absurd k inL_nil, fun k => by omega⟩
theorem brush_t (w h : Nat) (px : List Int) (p : PenS) (src : Int) (hw : w ≤ 128) (hh : h ≤ 128) (hl : px.length = w * h) (hsr : 0 ≤ src ∧ src < 256) (hp : 0 ≤ p.pl ∧ p.pl < 256) :
    ∀ (s : List Int) (x y : Int), s.length = w * h → (∀ v ∈ s, 0 ≤ v ∧ v < 256) → 0 ≤ x → x < w → 0 ≤ y → y < h → CallT Tryz.prog 134 ([] ++ [I64 x, I64 y] ++ (.iptr [plT 0 w h px] 0 :: [.iptr (penC p) 0, .iptr [U8 src] 0])) [.c (encL cU s)] (fun t H' => t = .tup [] ∧ H' = [.c (encL cU (s.set (y * w + x).toNat (mixF p src x y s[(y * w + x).toNat]!)))]) :=
  fun s x y hs hb hx hx2 hy hy2 => painter1_t w h px s p src x y hw hh hl hs hx hx2 hy hy2 hb hsr hp
theorem penC_pure (p : PenS) (src : Int) : T.pureL [.iptr (penC p) 0, .iptr [U8 src] 0] = true := by simp only [T.pureL, T.pure, encL_pure]; rfl
end
section
open Go.RowKit
def AllI (p : Nat → Prop) : List Nat → Prop
  | [] => True
  | i :: is => p i ∧ AllI p is
theorem allI_at {p : Nat → Prop} : ∀ {is : List Nat}, AllI p is → ∀ i ∈ is, p i
  | [], _, i, h => by cases h
  | j :: is, ⟨h1, h2⟩, i, h => by
    rcases List.mem_cons.1 h with rfl | h
    · exact h1
    · exact allI_at h2 i h
def AnyV (P : Program) (tab : Tab) (im : List Nat) (l : List Oper) (K : Env → Hp → Prop) : Nat → Array Bool → Env → Hp → Prop
  | 0, listed, E, H => Region.ready .any l.toArray listed = [] ∧ K E H
  | f + 1, listed, E, H => (Region.ready .any l.toArray listed = [] → K E H) ∧
      AllI (fun i => ∃ o, l[i]? = some o ∧ VX false P tab im (l.map (·.dst)) [o] E H fun E' H' => AnyV P tab im l K f (listed.setIfInBounds i true) E' H') (Region.ready .any l.toArray listed)
section
variable {z : Bool} {P : Program} {tab : Tab} {n kb lb : Nat} {im : List Nat} {l : List Oper} {E : Env} {H : Hp} {K : Env → Hp → Prop} {X0 : Nat → Prop} {a : Act} {M : Mp}
theorem op_ok (hT : TabOk P tab) {o : Oper} {i : Nat} {KV : Env → Hp → Prop} {r : Option Nat} {Q : Exit → Act → World → Prop} {KA : Act → World → Prop} (ho : l[i]? = some o) (hd : dstB n l = true) (hs : St n kb E H X0 a M)
    (hv : VX false P tab im (l.map (·.dst)) [o] E H KV) (hK : ∀ E' H' a' M', KV E' H' → Evo X0 M M' → St n kb E' H' X0 a' M' → KA a' M'.w) : wpOpIn (FW r) 0 P l.toArray Q i KA a M.w := by
  have hdo : ∀ k, o.dst = some k → k < n := fun k hk => by
    unfold dstB at hd
    rw [List.all_eq_true] at hd
    have := hd o (List.mem_of_getElem? ho)
    rw [hk] at this; simpa using this
  have hv : vcSeq P tab im (l.toArray.toList.map (·.dst)) [o] E H (fun E' H' => ∃ E1, Sub E1 E' ∧ KV E1 H') := hv E (Sub.refl E)
  have hg := vcGuard_ok (ops := l.toArray) hs hv
  unfold wpOpIn
  simp only [List.getElem?_toArray, ho]
  split
  · rename_i hw
    rw [if_pos hw] at hg
    refine vcOp_ok hT hs hdo (fun E' H' a' M' hk he hs' => ?_) hg
    obtain ⟨E1, h1, h2⟩ := hk
    exact hK E1 H' a' M' h2 he (hs'.eqv h1)
  · rename_i hw
    rw [if_neg hw] at hg
    obtain ⟨E1, h1, h2⟩ := hg
    exact ⟨fun _ _ => trivial, hK E1 H _ M h2 (Evo.refl _ _) ((hs.put (Evo.refl _ _) hs.sim (t := .v undef) rfl hdo).eqv h1)⟩
theorem any_ok (hT : TabOk P tab) {r : Option Nat} {Q : Exit → Act → World → Prop} (hd : dstB n l = true) : ∀ (f : Nat) (listed : Array Bool) {E : Env} {H : Hp} {a : Act} {M : Mp}, St n kb E H X0 a M → (∀ E' H' a' M', K E' H' → Evo X0 M M' → St n kb E' H' X0 a' M' → Q .normal a' M'.w) → AnyV P tab im l K f listed E H → wpAnyIn (FW r) 0 P .any l.toArray Q f listed a M.w
  | 0, listed, E, H, a, M, hs, hK, hv => ⟨hv.1, hK E H a M hv.2 (Evo.refl _ _) hs⟩
  | f + 1, listed, E, H, a, M, hs, hK, hv => by
    refine ⟨fun h0 => hK E H a M (hv.1 h0) (Evo.refl _ _) hs, fun i hi => ?_⟩
    obtain ⟨o, ho, hx⟩ := allI_at hv.2 i hi
    exact op_ok hT ho hd hs hx fun E' H' a' M' k1 k2 k3 => any_ok hT hd f _ k3 (fun E2 H2 a2 M2 q1 q2 q3 => hK E2 H2 a2 M2 q1 (k2.trans q2) q3) k1
theorem VC.any {id : Nat} {QT : Exit → Env → Hp → Prop} (hT : TabOk P tab) (im : List Nat) (hm : P.follows .mixedOrders = true) (hd : dstB n l = true) (h : AnyV P tab im l (QT .normal) l.length (Array.replicate l.length false) E H) : VC z P n lb (.region id l.toArray true) QT E H := by
  intro X0 M a r0 kb hz hs
  refine wpIn_region_any hm ?_
  let M1 : Mp := ⟨M.β, M.X, { M.w with drawn := M.w.drawn + 1 }⟩
  have hE1 : Evo X0 M M1 := ⟨fun _ _ h => h, fun _ _ h => h, fun _ _ _ => rfl, fun _ _ h => h, rfl, ⟨rfl, Nat.le_succ _⟩, rfl, Nat.le_refl _⟩
  have hs1 : St n kb E H X0 a M1 := ⟨fun d t ht => by obtain ⟨u, q1, q2⟩ := hs.tm d t ht; exact ⟨u, q1, Rep.stays hE1.stays _ _ q2⟩, hs.sz, hs.df.evo hE1, hs.ge, hs.sim.world hE1 fun _ _ => rfl⟩
  exact any_ok (r := r0) (Q := Lift n kb lb X0 M QT) hT hd l.toArray.size _ hs1 (fun E' H' a' M' k1 k2 k3 => ⟨E', H', M', k1, rfl, (hE1.trans k2).toK lb, k3⟩) h
theorem VC.drwAll {id : Nat} {c : Code} {QT : Exit → Env → Hp → Prop} {Lc : Env} (hT : TabOk P tab) (im : List Nat) (hm : P.follows .mixedOrders = true) (hd : dstB n l = true) (L : Env) (H2 : Hp) (ds : List Nat) (hL : lcE E ds = some Lc)
    (h : AnyV P tab im l (fun E' H' => Conv lb E' H' (L ++ Lc) H2) l.length (Array.replicate l.length false) E H) (k : VC z P n lb c QT (L ++ Lc) H2) : VC z P n lb (.seq (.region id l.toArray true) c) QT E H :=
  VC.cutC (fun E' H' => E' = L ++ Lc ∧ H' = H2) (VC.any hT im hm hd (QT := ExThen (fun E' H' => ∃ L' H'', (L' = L ++ Lc ∧ H'' = H2) ∧ Conv lb E' H' L' H'') QT) (by
    have mono : ∀ (f : Nat) (listed : Array Bool) (E : Env) (H : Hp), AnyV P tab im l (fun E' H' => Conv lb E' H' (L ++ Lc) H2) f listed E H → AnyV P tab im l (fun E' H' => ∃ L' H'', (L' = L ++ Lc ∧ H'' = H2) ∧ Conv lb E' H' L' H'') f listed E H := by
      intro f
      induction f with
      | zero => intro listed E H h; exact ⟨h.1, _, _, ⟨rfl, rfl⟩, h.2⟩
      | succ f ih =>
        intro listed E H h
        refine ⟨fun h0 => ⟨_, _, ⟨rfl, rfl⟩, h.1 h0⟩, ?_⟩
        have hh := h.2
        generalize Region.ready .any l.toArray listed = rs at hh
        induction rs with
        | nil => trivial
        | cons i rs ihr =>
          obtain ⟨⟨o, ho, hx⟩, h3⟩ := hh
          refine ⟨⟨o, ho, fun E2 hE2 => ?_⟩, ihr h3⟩
          exact vcSeq_mono' _ (fun E' H' ⟨E1, q1, q2⟩ => ⟨E1, q1, ih _ _ _ q2⟩) (hx E2 hE2)
    exact mono _ _ _ _ h)) fun E' H' ⟨h1, h2⟩ => by subst h1 h2; exact k
theorem AnyV.more {f : Nat} {listed : Array Bool} (is : List Nat) (hr : Region.ready .any l.toArray listed = is) (hn : is ≠ []) (h : AllI (fun i => ∃ o, l[i]? = some o ∧ VX false P tab im (l.map (·.dst)) [o] E H fun E' H' => AnyV P tab im l K f (listed.setIfInBounds i true) E' H') is) : AnyV P tab im l K (f + 1) listed E H :=
  ⟨fun h0 => absurd (hr.symm.trans h0) hn, by rw [hr]; exact h⟩
theorem AnyV.fin {f : Nat} {listed : Array Bool} (hr : Region.ready .any l.toArray listed = []) (h : K E H) : AnyV P tab im l K f listed E H := by
  cases f with
  | zero => exact ⟨hr, h⟩
  | succ f => exact ⟨fun _ => h, by rw [hr]; trivial⟩
theorem allI_cons {p : Nat → Prop} {i : Nat} {is : List Nat} (h : p i) (k : AllI p is) : AllI p (i :: is) := ⟨h, k⟩
theorem anyV_op {p : Oper → Prop} {i : Nat} {o : Oper} (ho : l[i]? = some o) (h : p o) : ∃ o, l[i]? = some o ∧ p o := ⟨o, ho, h⟩
end
end
section
open Go.RowKit Go.Sort
set_option maxRecDepth 10000
noncomputable def rectsPx (w : Nat) (clip : List Rect) (p : PenS) (l : List Rect) (px : List Int) : List Int := l.foldl (fun s r => paintL w (fun x y => inL clip x y ∧ inL (bandOf [r]) x y) (mixF p p.fo) s) px
theorem rectsPx_len (w : Nat) (clip : List Rect) (p : PenS) : ∀ (l : List Rect) (px : List Int), (rectsPx w clip p l px).length = px.length
  | [], px => rfl
  | r :: l, px => by show (rectsPx w clip p l _).length = _; rw [rectsPx_len w clip p l, paintL_len]
theorem rectsPx_bd {w : Nat} {clip : List Rect} {p : PenS} : ∀ {l : List Rect} {px : List Int}, (∀ v ∈ px, 0 ≤ v ∧ v < 256) → ∀ v ∈ rectsPx w clip p l px, 0 ≤ v ∧ v < 256
  | [], px, h => h
  | r :: l, px, h => rectsPx_bd (l := l) (paintL_bd h (mixF_bd p p.fo))
theorem rectsPx_snoc {w : Nat} {clip : List Rect} {p : PenS} {l : List Rect} {k : Nat} {px : List Int} (h : k < l.length) : rectsPx w clip p (l.take (k + 1)) px = paintL w (fun x y => inL clip x y ∧ inL (bandOf [l[k]!]) x y) (mixF p p.fo) (rectsPx w clip p (l.take k) px) := by
  unfold rectsPx
  rw [take_snoc h, List.foldl_append]; rfl
theorem rects_t {n : Nat} (w h : Nat) (px : List Int) (clip l : List Rect) (p : PenS) (hw : w ≤ 128) (hh : h ≤ 128) (hl : px.length = w * h) (hpb : ∀ v ∈ px, 0 ≤ v ∧ v < 256) (hc : Reg n clip) (hn : n ≤ 490) (hll : l.length ≤ 1048576) (hlx : ∀ r ∈ l, i64 r.X ∧ i64 r.Y) (hok : PenOk p) (hsr : 0 ≤ p.fo ∧ p.fo < 256) (hp : 0 ≤ p.pl ∧ p.pl < 256) :
    CallP Tryz.prog 28 [gT w h px, regT clip, penT p, .islc (encL cR l) l.length none] (gT w h (rectsPx w clip p l px)) := by
  have hs := opL_reg (k := and) rfl hc (Reg.of [⟨0, 0, w, h⟩])
  have hsin : ∀ x y, inL (opL and clip (bandOf [⟨0, 0, (w : Int), (h : Int)⟩])) x y ↔ inL clip x y ∧ 0 ≤ x ∧ x < w ∧ 0 ≤ y ∧ y < h := fun x y => by rw [opL_and hc (Reg.of _), in_plane0 hw hh]
  have hwi : CallP Tryz.prog 68 [regT clip, rectT ⟨0, 0, w, h⟩] (regT (opL and clip (bandOf [⟨0, 0, (w : Int), (h : Int)⟩]))) := within_p hc ⟨0, 0, w, h⟩ ⟨by unfold i64; dsimp only; omega, by unfold i64; dsimp only; omega⟩ (by omega)
  generalize opL and clip (bandOf [⟨0, 0, (w : Int), (h : Int)⟩]) = R at *
  refine CallP.intro2 au_pu au_pu ?_
  refine CallT.intro tab_ok Tryz.func28 rfl (by kernel_rfl) (Nat.le_of_ble_eq_true rfl) ?_
  refine VC.reg tab_ok [4, 5, 6] rfl ?_
  refine VX.newI rfl rfl ?_
  refine VX.newI rfl rfl ?_
  refine VX.newI rfl rfl ?_
  refine VX.new rfl rfl ?_
  refine VX.nil ?_
  refine VC.seq ?_
  refine VC.reg tab_ok [] rfl ?_
  first | refine VX.meek rfl ?_ | refine VX.loadI rfl rfl au_l ?_ | refine VX.loadP rfl rfl rfl au_l ?_
  refine VX.callP0 rfl rfl rfl (check_p p hok) ?_
  refine VX.meek rfl ?_
  refine VX.nil ?_
  refine VC.cond rfl (fun hc0 => ?_) (fun hc0 => ?_)
  · exact absurd hc0 (by decide)
  · (try simp only [au_std] at hc0)
    refine VC.skip ?_
    refine VC.reg tab_ok [] rfl ?_
    first | refine VX.meek rfl ?_ | refine VX.loadI rfl rfl au_l ?_ | refine VX.loadP rfl rfl rfl au_l ?_
    refine VX.callT rfl rfl (CallT.frame (planeOf_t w h px hw hh hl hpb) [] rfl au_ci au_ci ?_)
    rintro _ _ ⟨rfl, rfl⟩
    refine frK au_co au_co ?_
    refine VX.meek rfl ?_
    refine VX.nil ?_
    refine VC.reg tab_ok [] rfl ?_
    refine VX.meek rfl ?_
    first | refine VX.meek rfl ?_ | refine VX.loadI rfl rfl au_l ?_ | refine VX.loadP rfl rfl rfl au_l ?_
    refine VX.meek rfl ?_
    first | refine VX.meek rfl ?_ | refine VX.loadI rfl rfl au_l ?_ | refine VX.loadP rfl rfl rfl au_l ?_
    refine VX.callT rfl rfl (CallT.frame (painter_t w h px p p.fo (encL cU px)) [1] rfl au_ci au_ci ?_)
    rintro _ _ ⟨rfl, rfl⟩
    refine frK au_co au_co ?_
    refine VX.meek rfl ?_
    refine VX.nil ?_
    refine VC.drwAll tab_ok [] (by kernel_rfl) rfl ([(11, .ptr 2 0), (9, plT 1 w h px), (10, .clo 134 [] [.iptr [plT 1 w h px] 0, .iptr (penC p) 0, .iptr [U8 p.fo] 0])]) ([.c [I64 0, I64 0, NIL], .c (encL cU px), .c [.islc (encL cR R) R.length none]]) [3, 8] rfl ?_ ?_
    · refine AnyV.more [0, 1, 4] (by kernel_rfl) (by simp) ?_
      refine allI_cons ?_ ?_
      · refine anyV_op rfl ?_
        first | refine VX.meek rfl ?_ | refine VX.loadI rfl rfl au_l ?_ | refine VX.loadP rfl rfl rfl au_l ?_
        refine VX.nil ?_
        refine AnyV.more [1, 4] (by kernel_rfl) (by simp) ?_
        refine allI_cons ?_ ?_
        · refine anyV_op rfl ?_
          refine VX.meek rfl ?_
          refine VX.nil ?_
          refine AnyV.more [2, 4] (by kernel_rfl) (by simp) ?_
          refine allI_cons ?_ ?_
          · refine anyV_op rfl ?_
            refine VX.callT rfl rfl (CallT.frame (prect_t w h px (encL cU px)) [1] rfl au_ci au_ci ?_)
            rintro _ _ ⟨rfl, rfl⟩
            refine frK au_co au_co ?_
            refine VX.nil ?_
            refine AnyV.more [3, 4] (by kernel_rfl) (by simp) ?_
            refine allI_cons ?_ ?_
            · refine anyV_op rfl ?_
              refine VX.callP0 rfl rfl rfl (hwi) ?_
              refine VX.nil ?_
              refine AnyV.more [4] (by kernel_rfl) (by simp) ?_
              refine allI_cons ?_ ?_
              · refine anyV_op rfl ?_
                refine VX.new rfl rfl ?_
                refine VX.nil ?_
                refine AnyV.more [5] (by kernel_rfl) (by simp) ?_
                refine allI_cons ?_ ?_
                · refine anyV_op rfl ?_
                  refine VX.store rfl rfl rfl rfl rfl au_sR rfl ?_
                  refine VX.nil ?_
                  refine AnyV.fin (by kernel_rfl) ?_
                  first | (refine ⟨[some 0, some 1, some 2], rfl, by first | trivial | decide, rfl, ?_, ?_⟩ <;> (repeat' first | exact trivial | exact CvB_n | exact CvB_d | refine CvE_app ?_ ?_ | refine CvE_cons rfl ?_ ?_ | refine CvH_cons ?_ ?_ | refine CvB_c rfl ?_ | fail) <;> first | exact au_v | (first | exact CvL.cons (Cv.pure (encL_pure cR _)) CvL.nil | exact Cv.iptr (cv_pl (Cv.pure (encL_pure cU _)) (Cv.slc rfl (.inl rfl))) | exact Cv.clo CvL.nil (cv_caps rfl (penC_pure p _)))) | (refine ⟨[some 0, some 1, some 3], rfl, by first | trivial | decide, rfl, ?_, ?_⟩ <;> (repeat' first | exact trivial | exact CvB_n | exact CvB_d | refine CvE_app ?_ ?_ | refine CvE_cons rfl ?_ ?_ | refine CvH_cons ?_ ?_ | refine CvB_c rfl ?_ | fail) <;> first | exact au_v | (first | exact CvL.cons (Cv.pure (encL_pure cR _)) CvL.nil | exact Cv.iptr (cv_pl (Cv.pure (encL_pure cU _)) (Cv.slc rfl (.inl rfl))) | exact Cv.clo CvL.nil (cv_caps rfl (penC_pure p _))))
                exact trivial
              exact trivial
            refine allI_cons ?_ ?_
            · refine anyV_op rfl ?_
              refine VX.new rfl rfl ?_
              refine VX.nil ?_
              refine AnyV.more [3] (by kernel_rfl) (by simp) ?_
              refine allI_cons ?_ ?_
              · refine anyV_op rfl ?_
                refine VX.callP0 rfl rfl rfl (hwi) ?_
                refine VX.nil ?_
                refine AnyV.more [5] (by kernel_rfl) (by simp) ?_
                refine allI_cons ?_ ?_
                · refine anyV_op rfl ?_
                  refine VX.store rfl rfl rfl rfl rfl au_sR rfl ?_
                  refine VX.nil ?_
                  refine AnyV.fin (by kernel_rfl) ?_
                  first | (refine ⟨[some 0, some 1, some 2], rfl, by first | trivial | decide, rfl, ?_, ?_⟩ <;> (repeat' first | exact trivial | exact CvB_n | exact CvB_d | refine CvE_app ?_ ?_ | refine CvE_cons rfl ?_ ?_ | refine CvH_cons ?_ ?_ | refine CvB_c rfl ?_ | fail) <;> first | exact au_v | (first | exact CvL.cons (Cv.pure (encL_pure cR _)) CvL.nil | exact Cv.iptr (cv_pl (Cv.pure (encL_pure cU _)) (Cv.slc rfl (.inl rfl))) | exact Cv.clo CvL.nil (cv_caps rfl (penC_pure p _)))) | (refine ⟨[some 0, some 1, some 3], rfl, by first | trivial | decide, rfl, ?_, ?_⟩ <;> (repeat' first | exact trivial | exact CvB_n | exact CvB_d | refine CvE_app ?_ ?_ | refine CvE_cons rfl ?_ ?_ | refine CvH_cons ?_ ?_ | refine CvB_c rfl ?_ | fail) <;> first | exact au_v | (first | exact CvL.cons (Cv.pure (encL_pure cR _)) CvL.nil | exact Cv.iptr (cv_pl (Cv.pure (encL_pure cU _)) (Cv.slc rfl (.inl rfl))) | exact Cv.clo CvL.nil (cv_caps rfl (penC_pure p _))))
                exact trivial
              exact trivial
            exact trivial
          refine allI_cons ?_ ?_
          · refine anyV_op rfl ?_
            refine VX.new rfl rfl ?_
            refine VX.nil ?_
            refine AnyV.more [2] (by kernel_rfl) (by simp) ?_
            refine allI_cons ?_ ?_
            · refine anyV_op rfl ?_
              refine VX.callT rfl rfl (CallT.frame (prect_t w h px (encL cU px)) [1] rfl au_ci au_ci ?_)
              rintro _ _ ⟨rfl, rfl⟩
              refine frK au_co au_co ?_
              refine VX.nil ?_
              refine AnyV.more [3] (by kernel_rfl) (by simp) ?_
              refine allI_cons ?_ ?_
              · refine anyV_op rfl ?_
                refine VX.callP0 rfl rfl rfl (hwi) ?_
                refine VX.nil ?_
                refine AnyV.more [5] (by kernel_rfl) (by simp) ?_
                refine allI_cons ?_ ?_
                · refine anyV_op rfl ?_
                  refine VX.store rfl rfl rfl rfl rfl au_sR rfl ?_
                  refine VX.nil ?_
                  refine AnyV.fin (by kernel_rfl) ?_
                  first | (refine ⟨[some 0, some 1, some 2], rfl, by first | trivial | decide, rfl, ?_, ?_⟩ <;> (repeat' first | exact trivial | exact CvB_n | exact CvB_d | refine CvE_app ?_ ?_ | refine CvE_cons rfl ?_ ?_ | refine CvH_cons ?_ ?_ | refine CvB_c rfl ?_ | fail) <;> first | exact au_v | (first | exact CvL.cons (Cv.pure (encL_pure cR _)) CvL.nil | exact Cv.iptr (cv_pl (Cv.pure (encL_pure cU _)) (Cv.slc rfl (.inl rfl))) | exact Cv.clo CvL.nil (cv_caps rfl (penC_pure p _)))) | (refine ⟨[some 0, some 1, some 3], rfl, by first | trivial | decide, rfl, ?_, ?_⟩ <;> (repeat' first | exact trivial | exact CvB_n | exact CvB_d | refine CvE_app ?_ ?_ | refine CvE_cons rfl ?_ ?_ | refine CvH_cons ?_ ?_ | refine CvB_c rfl ?_ | fail) <;> first | exact au_v | (first | exact CvL.cons (Cv.pure (encL_pure cR _)) CvL.nil | exact Cv.iptr (cv_pl (Cv.pure (encL_pure cU _)) (Cv.slc rfl (.inl rfl))) | exact Cv.clo CvL.nil (cv_caps rfl (penC_pure p _))))
                exact trivial
              exact trivial
            exact trivial
          exact trivial
        refine allI_cons ?_ ?_
        · refine anyV_op rfl ?_
          refine VX.new rfl rfl ?_
          refine VX.nil ?_
          refine AnyV.more [1] (by kernel_rfl) (by simp) ?_
          refine allI_cons ?_ ?_
          · refine anyV_op rfl ?_
            refine VX.meek rfl ?_
            refine VX.nil ?_
            refine AnyV.more [2] (by kernel_rfl) (by simp) ?_
            refine allI_cons ?_ ?_
            · refine anyV_op rfl ?_
              refine VX.callT rfl rfl (CallT.frame (prect_t w h px (encL cU px)) [1] rfl au_ci au_ci ?_)
              rintro _ _ ⟨rfl, rfl⟩
              refine frK au_co au_co ?_
              refine VX.nil ?_
              refine AnyV.more [3] (by kernel_rfl) (by simp) ?_
              refine allI_cons ?_ ?_
              · refine anyV_op rfl ?_
                refine VX.callP0 rfl rfl rfl (hwi) ?_
                refine VX.nil ?_
                refine AnyV.more [5] (by kernel_rfl) (by simp) ?_
                refine allI_cons ?_ ?_
                · refine anyV_op rfl ?_
                  refine VX.store rfl rfl rfl rfl rfl au_sR rfl ?_
                  refine VX.nil ?_
                  refine AnyV.fin (by kernel_rfl) ?_
                  first | (refine ⟨[some 0, some 1, some 2], rfl, by first | trivial | decide, rfl, ?_, ?_⟩ <;> (repeat' first | exact trivial | exact CvB_n | exact CvB_d | refine CvE_app ?_ ?_ | refine CvE_cons rfl ?_ ?_ | refine CvH_cons ?_ ?_ | refine CvB_c rfl ?_ | fail) <;> first | exact au_v | (first | exact CvL.cons (Cv.pure (encL_pure cR _)) CvL.nil | exact Cv.iptr (cv_pl (Cv.pure (encL_pure cU _)) (Cv.slc rfl (.inl rfl))) | exact Cv.clo CvL.nil (cv_caps rfl (penC_pure p _)))) | (refine ⟨[some 0, some 1, some 3], rfl, by first | trivial | decide, rfl, ?_, ?_⟩ <;> (repeat' first | exact trivial | exact CvB_n | exact CvB_d | refine CvE_app ?_ ?_ | refine CvE_cons rfl ?_ ?_ | refine CvH_cons ?_ ?_ | refine CvB_c rfl ?_ | fail) <;> first | exact au_v | (first | exact CvL.cons (Cv.pure (encL_pure cR _)) CvL.nil | exact Cv.iptr (cv_pl (Cv.pure (encL_pure cU _)) (Cv.slc rfl (.inl rfl))) | exact Cv.clo CvL.nil (cv_caps rfl (penC_pure p _))))
                exact trivial
              exact trivial
            exact trivial
          exact trivial
        exact trivial
      refine allI_cons ?_ ?_
      · refine anyV_op rfl ?_
        refine VX.meek rfl ?_
        refine VX.nil ?_
        refine AnyV.more [0, 2, 4] (by kernel_rfl) (by simp) ?_
        refine allI_cons ?_ ?_
        · refine anyV_op rfl ?_
          first | refine VX.meek rfl ?_ | refine VX.loadI rfl rfl au_l ?_ | refine VX.loadP rfl rfl rfl au_l ?_
          refine VX.nil ?_
          refine AnyV.more [2, 4] (by kernel_rfl) (by simp) ?_
          refine allI_cons ?_ ?_
          · refine anyV_op rfl ?_
            refine VX.callT rfl rfl (CallT.frame (prect_t w h px (encL cU px)) [1] rfl au_ci au_ci ?_)
            rintro _ _ ⟨rfl, rfl⟩
            refine frK au_co au_co ?_
            refine VX.nil ?_
            refine AnyV.more [3, 4] (by kernel_rfl) (by simp) ?_
            refine allI_cons ?_ ?_
            · refine anyV_op rfl ?_
              refine VX.callP0 rfl rfl rfl (hwi) ?_
              refine VX.nil ?_
              refine AnyV.more [4] (by kernel_rfl) (by simp) ?_
              refine allI_cons ?_ ?_
              · refine anyV_op rfl ?_
                refine VX.new rfl rfl ?_
                refine VX.nil ?_
                refine AnyV.more [5] (by kernel_rfl) (by simp) ?_
                refine allI_cons ?_ ?_
                · refine anyV_op rfl ?_
                  refine VX.store rfl rfl rfl rfl rfl au_sR rfl ?_
                  refine VX.nil ?_
                  refine AnyV.fin (by kernel_rfl) ?_
                  first | (refine ⟨[some 0, some 1, some 2], rfl, by first | trivial | decide, rfl, ?_, ?_⟩ <;> (repeat' first | exact trivial | exact CvB_n | exact CvB_d | refine CvE_app ?_ ?_ | refine CvE_cons rfl ?_ ?_ | refine CvH_cons ?_ ?_ | refine CvB_c rfl ?_ | fail) <;> first | exact au_v | (first | exact CvL.cons (Cv.pure (encL_pure cR _)) CvL.nil | exact Cv.iptr (cv_pl (Cv.pure (encL_pure cU _)) (Cv.slc rfl (.inl rfl))) | exact Cv.clo CvL.nil (cv_caps rfl (penC_pure p _)))) | (refine ⟨[some 0, some 1, some 3], rfl, by first | trivial | decide, rfl, ?_, ?_⟩ <;> (repeat' first | exact trivial | exact CvB_n | exact CvB_d | refine CvE_app ?_ ?_ | refine CvE_cons rfl ?_ ?_ | refine CvH_cons ?_ ?_ | refine CvB_c rfl ?_ | fail) <;> first | exact au_v | (first | exact CvL.cons (Cv.pure (encL_pure cR _)) CvL.nil | exact Cv.iptr (cv_pl (Cv.pure (encL_pure cU _)) (Cv.slc rfl (.inl rfl))) | exact Cv.clo CvL.nil (cv_caps rfl (penC_pure p _))))
                exact trivial
              exact trivial
            refine allI_cons ?_ ?_
            · refine anyV_op rfl ?_
              refine VX.new rfl rfl ?_
              refine VX.nil ?_
              refine AnyV.more [3] (by kernel_rfl) (by simp) ?_
              refine allI_cons ?_ ?_
              · refine anyV_op rfl ?_
                refine VX.callP0 rfl rfl rfl (hwi) ?_
                refine VX.nil ?_
                refine AnyV.more [5] (by kernel_rfl) (by simp) ?_
                refine allI_cons ?_ ?_
                · refine anyV_op rfl ?_
                  refine VX.store rfl rfl rfl rfl rfl au_sR rfl ?_
                  refine VX.nil ?_
                  refine AnyV.fin (by kernel_rfl) ?_
                  first | (refine ⟨[some 0, some 1, some 2], rfl, by first | trivial | decide, rfl, ?_, ?_⟩ <;> (repeat' first | exact trivial | exact CvB_n | exact CvB_d | refine CvE_app ?_ ?_ | refine CvE_cons rfl ?_ ?_ | refine CvH_cons ?_ ?_ | refine CvB_c rfl ?_ | fail) <;> first | exact au_v | (first | exact CvL.cons (Cv.pure (encL_pure cR _)) CvL.nil | exact Cv.iptr (cv_pl (Cv.pure (encL_pure cU _)) (Cv.slc rfl (.inl rfl))) | exact Cv.clo CvL.nil (cv_caps rfl (penC_pure p _)))) | (refine ⟨[some 0, some 1, some 3], rfl, by first | trivial | decide, rfl, ?_, ?_⟩ <;> (repeat' first | exact trivial | exact CvB_n | exact CvB_d | refine CvE_app ?_ ?_ | refine CvE_cons rfl ?_ ?_ | refine CvH_cons ?_ ?_ | refine CvB_c rfl ?_ | fail) <;> first | exact au_v | (first | exact CvL.cons (Cv.pure (encL_pure cR _)) CvL.nil | exact Cv.iptr (cv_pl (Cv.pure (encL_pure cU _)) (Cv.slc rfl (.inl rfl))) | exact Cv.clo CvL.nil (cv_caps rfl (penC_pure p _))))
                exact trivial
              exact trivial
            exact trivial
          refine allI_cons ?_ ?_
          · refine anyV_op rfl ?_
            refine VX.new rfl rfl ?_
            refine VX.nil ?_
            refine AnyV.more [2] (by kernel_rfl) (by simp) ?_
            refine allI_cons ?_ ?_
            · refine anyV_op rfl ?_
              refine VX.callT rfl rfl (CallT.frame (prect_t w h px (encL cU px)) [1] rfl au_ci au_ci ?_)
              rintro _ _ ⟨rfl, rfl⟩
              refine frK au_co au_co ?_
              refine VX.nil ?_
              refine AnyV.more [3] (by kernel_rfl) (by simp) ?_
              refine allI_cons ?_ ?_
              · refine anyV_op rfl ?_
                refine VX.callP0 rfl rfl rfl (hwi) ?_
                refine VX.nil ?_
                refine AnyV.more [5] (by kernel_rfl) (by simp) ?_
                refine allI_cons ?_ ?_
                · refine anyV_op rfl ?_
                  refine VX.store rfl rfl rfl rfl rfl au_sR rfl ?_
                  refine VX.nil ?_
                  refine AnyV.fin (by kernel_rfl) ?_
                  first | (refine ⟨[some 0, some 1, some 2], rfl, by first | trivial | decide, rfl, ?_, ?_⟩ <;> (repeat' first | exact trivial | exact CvB_n | exact CvB_d | refine CvE_app ?_ ?_ | refine CvE_cons rfl ?_ ?_ | refine CvH_cons ?_ ?_ | refine CvB_c rfl ?_ | fail) <;> first | exact au_v | (first | exact CvL.cons (Cv.pure (encL_pure cR _)) CvL.nil | exact Cv.iptr (cv_pl (Cv.pure (encL_pure cU _)) (Cv.slc rfl (.inl rfl))) | exact Cv.clo CvL.nil (cv_caps rfl (penC_pure p _)))) | (refine ⟨[some 0, some 1, some 3], rfl, by first | trivial | decide, rfl, ?_, ?_⟩ <;> (repeat' first | exact trivial | exact CvB_n | exact CvB_d | refine CvE_app ?_ ?_ | refine CvE_cons rfl ?_ ?_ | refine CvH_cons ?_ ?_ | refine CvB_c rfl ?_ | fail) <;> first | exact au_v | (first | exact CvL.cons (Cv.pure (encL_pure cR _)) CvL.nil | exact Cv.iptr (cv_pl (Cv.pure (encL_pure cU _)) (Cv.slc rfl (.inl rfl))) | exact Cv.clo CvL.nil (cv_caps rfl (penC_pure p _))))
                exact trivial
              exact trivial
            exact trivial
          exact trivial
        refine allI_cons ?_ ?_
        · refine anyV_op rfl ?_
          refine VX.callT rfl rfl (CallT.frame (prect_t w h px (encL cU px)) [1] rfl au_ci au_ci ?_)
          rintro _ _ ⟨rfl, rfl⟩
          refine frK au_co au_co ?_
          refine VX.nil ?_
          refine AnyV.more [0, 4] (by kernel_rfl) (by simp) ?_
          refine allI_cons ?_ ?_
          · refine anyV_op rfl ?_
            first | refine VX.meek rfl ?_ | refine VX.loadI rfl rfl au_l ?_ | refine VX.loadP rfl rfl rfl au_l ?_
            refine VX.nil ?_
            refine AnyV.more [3, 4] (by kernel_rfl) (by simp) ?_
            refine allI_cons ?_ ?_
            · refine anyV_op rfl ?_
              refine VX.callP0 rfl rfl rfl (hwi) ?_
              refine VX.nil ?_
              refine AnyV.more [4] (by kernel_rfl) (by simp) ?_
              refine allI_cons ?_ ?_
              · refine anyV_op rfl ?_
                refine VX.new rfl rfl ?_
                refine VX.nil ?_
                refine AnyV.more [5] (by kernel_rfl) (by simp) ?_
                refine allI_cons ?_ ?_
                · refine anyV_op rfl ?_
                  refine VX.store rfl rfl rfl rfl rfl au_sR rfl ?_
                  refine VX.nil ?_
                  refine AnyV.fin (by kernel_rfl) ?_
                  first | (refine ⟨[some 0, some 1, some 2], rfl, by first | trivial | decide, rfl, ?_, ?_⟩ <;> (repeat' first | exact trivial | exact CvB_n | exact CvB_d | refine CvE_app ?_ ?_ | refine CvE_cons rfl ?_ ?_ | refine CvH_cons ?_ ?_ | refine CvB_c rfl ?_ | fail) <;> first | exact au_v | (first | exact CvL.cons (Cv.pure (encL_pure cR _)) CvL.nil | exact Cv.iptr (cv_pl (Cv.pure (encL_pure cU _)) (Cv.slc rfl (.inl rfl))) | exact Cv.clo CvL.nil (cv_caps rfl (penC_pure p _)))) | (refine ⟨[some 0, some 1, some 3], rfl, by first | trivial | decide, rfl, ?_, ?_⟩ <;> (repeat' first | exact trivial | exact CvB_n | exact CvB_d | refine CvE_app ?_ ?_ | refine CvE_cons rfl ?_ ?_ | refine CvH_cons ?_ ?_ | refine CvB_c rfl ?_ | fail) <;> first | exact au_v | (first | exact CvL.cons (Cv.pure (encL_pure cR _)) CvL.nil | exact Cv.iptr (cv_pl (Cv.pure (encL_pure cU _)) (Cv.slc rfl (.inl rfl))) | exact Cv.clo CvL.nil (cv_caps rfl (penC_pure p _))))
                exact trivial
              exact trivial
            refine allI_cons ?_ ?_
            · refine anyV_op rfl ?_
              refine VX.new rfl rfl ?_
              refine VX.nil ?_
              refine AnyV.more [3] (by kernel_rfl) (by simp) ?_
              refine allI_cons ?_ ?_
              · refine anyV_op rfl ?_
                refine VX.callP0 rfl rfl rfl (hwi) ?_
                refine VX.nil ?_
                refine AnyV.more [5] (by kernel_rfl) (by simp) ?_
                refine allI_cons ?_ ?_
                · refine anyV_op rfl ?_
                  refine VX.store rfl rfl rfl rfl rfl au_sR rfl ?_
                  refine VX.nil ?_
                  refine AnyV.fin (by kernel_rfl) ?_
                  first | (refine ⟨[some 0, some 1, some 2], rfl, by first | trivial | decide, rfl, ?_, ?_⟩ <;> (repeat' first | exact trivial | exact CvB_n | exact CvB_d | refine CvE_app ?_ ?_ | refine CvE_cons rfl ?_ ?_ | refine CvH_cons ?_ ?_ | refine CvB_c rfl ?_ | fail) <;> first | exact au_v | (first | exact CvL.cons (Cv.pure (encL_pure cR _)) CvL.nil | exact Cv.iptr (cv_pl (Cv.pure (encL_pure cU _)) (Cv.slc rfl (.inl rfl))) | exact Cv.clo CvL.nil (cv_caps rfl (penC_pure p _)))) | (refine ⟨[some 0, some 1, some 3], rfl, by first | trivial | decide, rfl, ?_, ?_⟩ <;> (repeat' first | exact trivial | exact CvB_n | exact CvB_d | refine CvE_app ?_ ?_ | refine CvE_cons rfl ?_ ?_ | refine CvH_cons ?_ ?_ | refine CvB_c rfl ?_ | fail) <;> first | exact au_v | (first | exact CvL.cons (Cv.pure (encL_pure cR _)) CvL.nil | exact Cv.iptr (cv_pl (Cv.pure (encL_pure cU _)) (Cv.slc rfl (.inl rfl))) | exact Cv.clo CvL.nil (cv_caps rfl (penC_pure p _))))
                exact trivial
              exact trivial
            exact trivial
          refine allI_cons ?_ ?_
          · refine anyV_op rfl ?_
            refine VX.new rfl rfl ?_
            refine VX.nil ?_
            refine AnyV.more [0] (by kernel_rfl) (by simp) ?_
            refine allI_cons ?_ ?_
            · refine anyV_op rfl ?_
              first | refine VX.meek rfl ?_ | refine VX.loadI rfl rfl au_l ?_ | refine VX.loadP rfl rfl rfl au_l ?_
              refine VX.nil ?_
              refine AnyV.more [3] (by kernel_rfl) (by simp) ?_
              refine allI_cons ?_ ?_
              · refine anyV_op rfl ?_
                refine VX.callP0 rfl rfl rfl (hwi) ?_
                refine VX.nil ?_
                refine AnyV.more [5] (by kernel_rfl) (by simp) ?_
                refine allI_cons ?_ ?_
                · refine anyV_op rfl ?_
                  refine VX.store rfl rfl rfl rfl rfl au_sR rfl ?_
                  refine VX.nil ?_
                  refine AnyV.fin (by kernel_rfl) ?_
                  first | (refine ⟨[some 0, some 1, some 2], rfl, by first | trivial | decide, rfl, ?_, ?_⟩ <;> (repeat' first | exact trivial | exact CvB_n | exact CvB_d | refine CvE_app ?_ ?_ | refine CvE_cons rfl ?_ ?_ | refine CvH_cons ?_ ?_ | refine CvB_c rfl ?_ | fail) <;> first | exact au_v | (first | exact CvL.cons (Cv.pure (encL_pure cR _)) CvL.nil | exact Cv.iptr (cv_pl (Cv.pure (encL_pure cU _)) (Cv.slc rfl (.inl rfl))) | exact Cv.clo CvL.nil (cv_caps rfl (penC_pure p _)))) | (refine ⟨[some 0, some 1, some 3], rfl, by first | trivial | decide, rfl, ?_, ?_⟩ <;> (repeat' first | exact trivial | exact CvB_n | exact CvB_d | refine CvE_app ?_ ?_ | refine CvE_cons rfl ?_ ?_ | refine CvH_cons ?_ ?_ | refine CvB_c rfl ?_ | fail) <;> first | exact au_v | (first | exact CvL.cons (Cv.pure (encL_pure cR _)) CvL.nil | exact Cv.iptr (cv_pl (Cv.pure (encL_pure cU _)) (Cv.slc rfl (.inl rfl))) | exact Cv.clo CvL.nil (cv_caps rfl (penC_pure p _))))
                exact trivial
              exact trivial
            exact trivial
          exact trivial
        refine allI_cons ?_ ?_
        · refine anyV_op rfl ?_
          refine VX.new rfl rfl ?_
          refine VX.nil ?_
          refine AnyV.more [0, 2] (by kernel_rfl) (by simp) ?_
          refine allI_cons ?_ ?_
          · refine anyV_op rfl ?_
            first | refine VX.meek rfl ?_ | refine VX.loadI rfl rfl au_l ?_ | refine VX.loadP rfl rfl rfl au_l ?_
            refine VX.nil ?_
            refine AnyV.more [2] (by kernel_rfl) (by simp) ?_
            refine allI_cons ?_ ?_
            · refine anyV_op rfl ?_
              refine VX.callT rfl rfl (CallT.frame (prect_t w h px (encL cU px)) [1] rfl au_ci au_ci ?_)
              rintro _ _ ⟨rfl, rfl⟩
              refine frK au_co au_co ?_
              refine VX.nil ?_
              refine AnyV.more [3] (by kernel_rfl) (by simp) ?_
              refine allI_cons ?_ ?_
              · refine anyV_op rfl ?_
                refine VX.callP0 rfl rfl rfl (hwi) ?_
                refine VX.nil ?_
                refine AnyV.more [5] (by kernel_rfl) (by simp) ?_
                refine allI_cons ?_ ?_
                · refine anyV_op rfl ?_
                  refine VX.store rfl rfl rfl rfl rfl au_sR rfl ?_
                  refine VX.nil ?_
                  refine AnyV.fin (by kernel_rfl) ?_
                  first | (refine ⟨[some 0, some 1, some 2], rfl, by first | trivial | decide, rfl, ?_, ?_⟩ <;> (repeat' first | exact trivial | exact CvB_n | exact CvB_d | refine CvE_app ?_ ?_ | refine CvE_cons rfl ?_ ?_ | refine CvH_cons ?_ ?_ | refine CvB_c rfl ?_ | fail) <;> first | exact au_v | (first | exact CvL.cons (Cv.pure (encL_pure cR _)) CvL.nil | exact Cv.iptr (cv_pl (Cv.pure (encL_pure cU _)) (Cv.slc rfl (.inl rfl))) | exact Cv.clo CvL.nil (cv_caps rfl (penC_pure p _)))) | (refine ⟨[some 0, some 1, some 3], rfl, by first | trivial | decide, rfl, ?_, ?_⟩ <;> (repeat' first | exact trivial | exact CvB_n | exact CvB_d | refine CvE_app ?_ ?_ | refine CvE_cons rfl ?_ ?_ | refine CvH_cons ?_ ?_ | refine CvB_c rfl ?_ | fail) <;> first | exact au_v | (first | exact CvL.cons (Cv.pure (encL_pure cR _)) CvL.nil | exact Cv.iptr (cv_pl (Cv.pure (encL_pure cU _)) (Cv.slc rfl (.inl rfl))) | exact Cv.clo CvL.nil (cv_caps rfl (penC_pure p _))))
                exact trivial
              exact trivial
            exact trivial
          refine allI_cons ?_ ?_
          · refine anyV_op rfl ?_
            refine VX.callT rfl rfl (CallT.frame (prect_t w h px (encL cU px)) [1] rfl au_ci au_ci ?_)
            rintro _ _ ⟨rfl, rfl⟩
            refine frK au_co au_co ?_
            refine VX.nil ?_
            refine AnyV.more [0] (by kernel_rfl) (by simp) ?_
            refine allI_cons ?_ ?_
            · refine anyV_op rfl ?_
              first | refine VX.meek rfl ?_ | refine VX.loadI rfl rfl au_l ?_ | refine VX.loadP rfl rfl rfl au_l ?_
              refine VX.nil ?_
              refine AnyV.more [3] (by kernel_rfl) (by simp) ?_
              refine allI_cons ?_ ?_
              · refine anyV_op rfl ?_
                refine VX.callP0 rfl rfl rfl (hwi) ?_
                refine VX.nil ?_
                refine AnyV.more [5] (by kernel_rfl) (by simp) ?_
                refine allI_cons ?_ ?_
                · refine anyV_op rfl ?_
                  refine VX.store rfl rfl rfl rfl rfl au_sR rfl ?_
                  refine VX.nil ?_
                  refine AnyV.fin (by kernel_rfl) ?_
                  first | (refine ⟨[some 0, some 1, some 2], rfl, by first | trivial | decide, rfl, ?_, ?_⟩ <;> (repeat' first | exact trivial | exact CvB_n | exact CvB_d | refine CvE_app ?_ ?_ | refine CvE_cons rfl ?_ ?_ | refine CvH_cons ?_ ?_ | refine CvB_c rfl ?_ | fail) <;> first | exact au_v | (first | exact CvL.cons (Cv.pure (encL_pure cR _)) CvL.nil | exact Cv.iptr (cv_pl (Cv.pure (encL_pure cU _)) (Cv.slc rfl (.inl rfl))) | exact Cv.clo CvL.nil (cv_caps rfl (penC_pure p _)))) | (refine ⟨[some 0, some 1, some 3], rfl, by first | trivial | decide, rfl, ?_, ?_⟩ <;> (repeat' first | exact trivial | exact CvB_n | exact CvB_d | refine CvE_app ?_ ?_ | refine CvE_cons rfl ?_ ?_ | refine CvH_cons ?_ ?_ | refine CvB_c rfl ?_ | fail) <;> first | exact au_v | (first | exact CvL.cons (Cv.pure (encL_pure cR _)) CvL.nil | exact Cv.iptr (cv_pl (Cv.pure (encL_pure cU _)) (Cv.slc rfl (.inl rfl))) | exact Cv.clo CvL.nil (cv_caps rfl (penC_pure p _))))
                exact trivial
              exact trivial
            exact trivial
          exact trivial
        exact trivial
      refine allI_cons ?_ ?_
      · refine anyV_op rfl ?_
        refine VX.new rfl rfl ?_
        refine VX.nil ?_
        refine AnyV.more [0, 1] (by kernel_rfl) (by simp) ?_
        refine allI_cons ?_ ?_
        · refine anyV_op rfl ?_
          first | refine VX.meek rfl ?_ | refine VX.loadI rfl rfl au_l ?_ | refine VX.loadP rfl rfl rfl au_l ?_
          refine VX.nil ?_
          refine AnyV.more [1] (by kernel_rfl) (by simp) ?_
          refine allI_cons ?_ ?_
          · refine anyV_op rfl ?_
            refine VX.meek rfl ?_
            refine VX.nil ?_
            refine AnyV.more [2] (by kernel_rfl) (by simp) ?_
            refine allI_cons ?_ ?_
            · refine anyV_op rfl ?_
              refine VX.callT rfl rfl (CallT.frame (prect_t w h px (encL cU px)) [1] rfl au_ci au_ci ?_)
              rintro _ _ ⟨rfl, rfl⟩
              refine frK au_co au_co ?_
              refine VX.nil ?_
              refine AnyV.more [3] (by kernel_rfl) (by simp) ?_
              refine allI_cons ?_ ?_
              · refine anyV_op rfl ?_
                refine VX.callP0 rfl rfl rfl (hwi) ?_
                refine VX.nil ?_
                refine AnyV.more [5] (by kernel_rfl) (by simp) ?_
                refine allI_cons ?_ ?_
                · refine anyV_op rfl ?_
                  refine VX.store rfl rfl rfl rfl rfl au_sR rfl ?_
                  refine VX.nil ?_
                  refine AnyV.fin (by kernel_rfl) ?_
                  first | (refine ⟨[some 0, some 1, some 2], rfl, by first | trivial | decide, rfl, ?_, ?_⟩ <;> (repeat' first | exact trivial | exact CvB_n | exact CvB_d | refine CvE_app ?_ ?_ | refine CvE_cons rfl ?_ ?_ | refine CvH_cons ?_ ?_ | refine CvB_c rfl ?_ | fail) <;> first | exact au_v | (first | exact CvL.cons (Cv.pure (encL_pure cR _)) CvL.nil | exact Cv.iptr (cv_pl (Cv.pure (encL_pure cU _)) (Cv.slc rfl (.inl rfl))) | exact Cv.clo CvL.nil (cv_caps rfl (penC_pure p _)))) | (refine ⟨[some 0, some 1, some 3], rfl, by first | trivial | decide, rfl, ?_, ?_⟩ <;> (repeat' first | exact trivial | exact CvB_n | exact CvB_d | refine CvE_app ?_ ?_ | refine CvE_cons rfl ?_ ?_ | refine CvH_cons ?_ ?_ | refine CvB_c rfl ?_ | fail) <;> first | exact au_v | (first | exact CvL.cons (Cv.pure (encL_pure cR _)) CvL.nil | exact Cv.iptr (cv_pl (Cv.pure (encL_pure cU _)) (Cv.slc rfl (.inl rfl))) | exact Cv.clo CvL.nil (cv_caps rfl (penC_pure p _))))
                exact trivial
              exact trivial
            exact trivial
          exact trivial
        refine allI_cons ?_ ?_
        · refine anyV_op rfl ?_
          refine VX.meek rfl ?_
          refine VX.nil ?_
          refine AnyV.more [0, 2] (by kernel_rfl) (by simp) ?_
          refine allI_cons ?_ ?_
          · refine anyV_op rfl ?_
            first | refine VX.meek rfl ?_ | refine VX.loadI rfl rfl au_l ?_ | refine VX.loadP rfl rfl rfl au_l ?_
            refine VX.nil ?_
            refine AnyV.more [2] (by kernel_rfl) (by simp) ?_
            refine allI_cons ?_ ?_
            · refine anyV_op rfl ?_
              refine VX.callT rfl rfl (CallT.frame (prect_t w h px (encL cU px)) [1] rfl au_ci au_ci ?_)
              rintro _ _ ⟨rfl, rfl⟩
              refine frK au_co au_co ?_
              refine VX.nil ?_
              refine AnyV.more [3] (by kernel_rfl) (by simp) ?_
              refine allI_cons ?_ ?_
              · refine anyV_op rfl ?_
                refine VX.callP0 rfl rfl rfl (hwi) ?_
                refine VX.nil ?_
                refine AnyV.more [5] (by kernel_rfl) (by simp) ?_
                refine allI_cons ?_ ?_
                · refine anyV_op rfl ?_
                  refine VX.store rfl rfl rfl rfl rfl au_sR rfl ?_
                  refine VX.nil ?_
                  refine AnyV.fin (by kernel_rfl) ?_
                  first | (refine ⟨[some 0, some 1, some 2], rfl, by first | trivial | decide, rfl, ?_, ?_⟩ <;> (repeat' first | exact trivial | exact CvB_n | exact CvB_d | refine CvE_app ?_ ?_ | refine CvE_cons rfl ?_ ?_ | refine CvH_cons ?_ ?_ | refine CvB_c rfl ?_ | fail) <;> first | exact au_v | (first | exact CvL.cons (Cv.pure (encL_pure cR _)) CvL.nil | exact Cv.iptr (cv_pl (Cv.pure (encL_pure cU _)) (Cv.slc rfl (.inl rfl))) | exact Cv.clo CvL.nil (cv_caps rfl (penC_pure p _)))) | (refine ⟨[some 0, some 1, some 3], rfl, by first | trivial | decide, rfl, ?_, ?_⟩ <;> (repeat' first | exact trivial | exact CvB_n | exact CvB_d | refine CvE_app ?_ ?_ | refine CvE_cons rfl ?_ ?_ | refine CvH_cons ?_ ?_ | refine CvB_c rfl ?_ | fail) <;> first | exact au_v | (first | exact CvL.cons (Cv.pure (encL_pure cR _)) CvL.nil | exact Cv.iptr (cv_pl (Cv.pure (encL_pure cU _)) (Cv.slc rfl (.inl rfl))) | exact Cv.clo CvL.nil (cv_caps rfl (penC_pure p _))))
                exact trivial
              exact trivial
            exact trivial
          refine allI_cons ?_ ?_
          · refine anyV_op rfl ?_
            refine VX.callT rfl rfl (CallT.frame (prect_t w h px (encL cU px)) [1] rfl au_ci au_ci ?_)
            rintro _ _ ⟨rfl, rfl⟩
            refine frK au_co au_co ?_
            refine VX.nil ?_
            refine AnyV.more [0] (by kernel_rfl) (by simp) ?_
            refine allI_cons ?_ ?_
            · refine anyV_op rfl ?_
              first | refine VX.meek rfl ?_ | refine VX.loadI rfl rfl au_l ?_ | refine VX.loadP rfl rfl rfl au_l ?_
              refine VX.nil ?_
              refine AnyV.more [3] (by kernel_rfl) (by simp) ?_
              refine allI_cons ?_ ?_
              · refine anyV_op rfl ?_
                refine VX.callP0 rfl rfl rfl (hwi) ?_
                refine VX.nil ?_
                refine AnyV.more [5] (by kernel_rfl) (by simp) ?_
                refine allI_cons ?_ ?_
                · refine anyV_op rfl ?_
                  refine VX.store rfl rfl rfl rfl rfl au_sR rfl ?_
                  refine VX.nil ?_
                  refine AnyV.fin (by kernel_rfl) ?_
                  first | (refine ⟨[some 0, some 1, some 2], rfl, by first | trivial | decide, rfl, ?_, ?_⟩ <;> (repeat' first | exact trivial | exact CvB_n | exact CvB_d | refine CvE_app ?_ ?_ | refine CvE_cons rfl ?_ ?_ | refine CvH_cons ?_ ?_ | refine CvB_c rfl ?_ | fail) <;> first | exact au_v | (first | exact CvL.cons (Cv.pure (encL_pure cR _)) CvL.nil | exact Cv.iptr (cv_pl (Cv.pure (encL_pure cU _)) (Cv.slc rfl (.inl rfl))) | exact Cv.clo CvL.nil (cv_caps rfl (penC_pure p _)))) | (refine ⟨[some 0, some 1, some 3], rfl, by first | trivial | decide, rfl, ?_, ?_⟩ <;> (repeat' first | exact trivial | exact CvB_n | exact CvB_d | refine CvE_app ?_ ?_ | refine CvE_cons rfl ?_ ?_ | refine CvH_cons ?_ ?_ | refine CvB_c rfl ?_ | fail) <;> first | exact au_v | (first | exact CvL.cons (Cv.pure (encL_pure cR _)) CvL.nil | exact Cv.iptr (cv_pl (Cv.pure (encL_pure cU _)) (Cv.slc rfl (.inl rfl))) | exact Cv.clo CvL.nil (cv_caps rfl (penC_pure p _))))
                exact trivial
              exact trivial
            exact trivial
          exact trivial
        exact trivial
      exact trivial
    refine VC.seq ?_
    refine VC.reg tab_ok [] rfl ?_
    iterate 3 refine VX.meek rfl ?_
    refine VX.nil ?_
    refine VC.block ?_
    refine VC.loopS (σ := Nat) (fun k => l.length - k) (fun k => k ≤ l.length) (fun k => [(31, I64 k), (8, .ptr 0 0), (11, .ptr 2 0), (9, plT 1 w h px), (10, .clo 134 [] [.iptr [plT 1 w h px] 0, .iptr (penC p) 0, .iptr [U8 p.fo] 0])]) (fun k => [.c [I64 0, I64 0, NIL], .c (encL cU (rectsPx w clip p (l.take k) px)), .c [.islc (encL cR R) R.length none]]) [29, 30] rfl (0) ?_ ?_ ?_
    · refine ⟨[some 0, some 1, some 2], rfl, by first | trivial | decide, rfl, ?_, ?_⟩ <;> (repeat' first | exact trivial | exact CvB_n | exact CvB_d | refine CvE_app ?_ ?_ | refine CvE_cons rfl ?_ ?_ | refine CvH_cons ?_ ?_ | refine CvB_c rfl ?_ | fail) <;> first | exact au_v | (first | exact CvL.cons (Cv.pure (encL_pure cR _)) CvL.nil | exact Cv.iptr (cv_pl (Cv.pure (encL_pure cU _)) (Cv.slc rfl (.inl rfl))) | exact Cv.clo CvL.nil (cv_caps rfl (penC_pure p _)))
    · (try dsimp only); omega
    rintro k hk
    refine VC.reg tab_ok [] rfl ?_
    refine VX.meek rfl ?_
    refine VX.nil ?_
    refine VC.seq ?_
    refine VC.cond rfl (fun hc1 => ?_) (fun hc1 => ?_)
    · (try simp only [au_std] at hc1); have hkl : k < l.length := (by omega); have hlk := hlx l[k]! (List.mem_iff_getElem?.2 ⟨k, getE hkl⟩); have hsl := rectsPx_len w clip p (l.take k) px; have hsb := rectsPx_bd (w := w) (clip := clip) (p := p) (l := l.take k) hpb
      have hr := opL_reg (k := and) rfl hs (Reg.of [l[k]!])
      have hlen : (opL and R (bandOf [l[k]!])).length ≤ 1048576 := Nat.le_trans hr.len (Nat.le_trans (Nat.mul_le_mul (by simp; omega) (by simp; omega)) (show 500 * 500 ≤ 1048576 by decide))
      have hins : ∀ x y, inL (opL and R (bandOf [l[k]!])) x y → 0 ≤ x ∧ x < w ∧ 0 ≤ y ∧ y < h := fun x y hi => ((hsin x y).1 (opL_sub2 hs (Reg.of _) hi).1).2
      have hst : paintL w (inL (opL and R (bandOf [l[k]!]))) (mixF p p.fo) (rectsPx w clip p (l.take k) px) = rectsPx w clip p (l.take (k + 1)) px := (by
        rw [rectsPx_snoc hkl]
        exact paint_congr (by rw [hsl, hl]) (fun a b h1 h2 h3 h4 => by rw [opL_and hs (Reg.of _), hsin]; simp [h1, h2, h3, h4]) (fun _ _ _ _ _ _ _ => rfl))
      refine VC.skip ?_
      refine VC.seq ?_
      refine VC.block ?_
      refine VC.reg tab_ok [] rfl ?_
      first | refine VX.idxI rfl rfl rfl rfl rfl rfl (by omega) ?_ | refine VX.idxO0 rfl rfl rfl rfl rfl rfl rfl (by omega) ?_ | refine VX.idxO0 rfl rfl rfl rfl rfl rfl au_z (by omega) ?_ | refine VX.idxO rfl rfl rfl rfl rfl rfl rfl (by omega) ?_ | refine VX.idxI rfl rfl rfl rfl rfl au_z (by omega) ?_ | refine VX.idxO rfl rfl rfl rfl rfl rfl au_z (by omega) ?_ | refine VX.meek rfl ?_
      first | refine VX.meek rfl ?_ | refine VX.loadI rfl rfl au_l ?_ | refine VX.loadP rfl rfl rfl au_l ?_
      refine VX.new rfl rfl ?_
      refine VX.store rfl rfl rfl rfl rfl au_sR rfl ?_
      refine VX.nil ?_
      refine VC.regN tab_ok [] rfl ?_
      first | refine VX.meek rfl ?_ | refine VX.loadI rfl rfl au_l ?_ | refine VX.loadP rfl rfl rfl au_l ?_
      first | refine VX.meek rfl ?_ | refine VX.loadI rfl rfl au_l ?_ | refine VX.loadP rfl rfl rfl au_l ?_
      refine VX.callP0 rfl rfl rfl (within_p hs l[k]! hlk (by simp; omega)) ?_
      refine VX.meek rfl ?_
      refine VX.callT rfl rfl (CallT.frame (each_t w h px (rectsPx w clip p (l.take k) px) (opL and R (bandOf [l[k]!])) _ _ (mixF p p.fo) (penC_pure p p.fo) hw hh (by rw [hsl, hl]) hr.1 hr.2 hlen hins hsb (mixF_bd p p.fo) (brush_t w h px p p.fo hw hh hl hsr hp)) [1] rfl au_ci au_ci ?_)
      rintro _ _ ⟨rfl, rfl⟩
      refine frK au_co au_co ?_
      refine VX.nil ?_
      refine VC.regN tab_ok [] rfl ?_
      first | refine VX.add rfl rfl (by omega) ?_ | refine VX.meek rfl ?_
      refine VX.meek rfl ?_
      refine VX.nil ?_
      refine ⟨k + 1, by (try dsimp only); omega, ?_, (by refine ⟨[some 0, some 1, some 2], rfl, by first | trivial | decide, rfl, ?_, ?_⟩ <;> (repeat' first | exact trivial | exact CvB_n | exact CvB_d | refine CvE_app ?_ ?_ | refine CvE_cons rfl ?_ ?_ | refine CvH_cons ?_ ?_ | refine CvB_c rfl ?_ | fail) <;> first | exact au_v | (first | exact CvL.cons (Cv.pure (encL_pure cR _)) CvL.nil | exact Cv.iptr (cv_pl (Cv.pure (encL_pure cU _)) (Cv.slc rfl (.inl rfl))) | exact Cv.clo CvL.nil (cv_caps rfl (penC_pure p _)) | exact CvL.eq (congrArg (encL cU) hst) (encL_pure cU _)))⟩
      (try dsimp only); omega
    · (try simp only [au_std] at hc1); obtain rfl : k = l.length := (by omega); rw [List.take_length]
      refine VC.view ([(9, .iptr (plC w h px (.islc (encL cU (rectsPx w clip p l px)) px.length none)) 0), (8, .ptr 0 0)]) ([.c [I64 0, I64 0, NIL]]) [] rfl (by refine ⟨[some 0], rfl, by first | trivial | decide, rfl, ?_, ?_⟩ <;> (repeat' first | exact trivial | exact CvB_n | exact CvB_d | refine CvE_app ?_ ?_ | refine CvE_cons rfl ?_ ?_ | refine CvH_cons ?_ ?_ | refine CvB_c rfl ?_ | fail) <;> first | exact au_v | (first | exact CvL.pure rfl | exact Cv.iptr (cv_pl (Cv.pure (encL_pure cU _)) (Cv.fslc0 ⟨rfl, by simp⟩ (CvL.pure (encL_pure cU _)))))) ?_
      refine VC.exit ?_
      refine VC.reg tab_ok [] rfl ?_
      refine VX.meek rfl ?_
      refine VX.callP0 rfl rfl rfl (pgrid_n w h px (rectsPx w clip p l px) px.length (rectsPx_len w clip p l px) hw hh hl (by rw [rectsPx_len, hl]) hpb (rectsPx_bd hpb)) ?_
      refine VX.store rfl rfl rfl rfl rfl au_sR rfl ?_
      refine VX.nil ?_
      refine VC.ret ?_
      refine ⟨trivial, _, rfl, Cv.agg (cv_g (Cv.pure (encL_pure cU _)))⟩
end
section
open Go.RowKit Go.Sort
set_option maxRecDepth 10000
def cP : Cd (Int × Int) := ⟨2, fun q => [I64 q.1, I64 q.2], fun _ => rfl, fun _ => rfl, fun _ => rfl, by decide⟩
theorem cP_sz : cP.sz = 2 := rfl
theorem au_sP {p : Prop} (h : p := by first | rfl | exact Nat.le_of_ble_eq_true rfl | omega | (simp only [encL_len, List.length_append, List.length_cons, List.length_nil, List.length_replicate, Nat.zero_add, cI_sz, cU_sz, cR_sz, cLR_sz, cP_sz]; omega) | (simp [encL_len, cI_sz, cU_sz, cR_sz, cLR_sz, cP_sz]; done) | (simp [encL_len, cI_sz, cU_sz, cR_sz, cLR_sz, cP_sz]; omega)) : p := h
open Classical in
noncomputable def pointPx (w h : Nat) (clip : List Rect) (p : PenS) (q : Int × Int) (s : List Int) : List Int :=
  if inB' w h q.1 q.2 = true ∧ inL clip q.1 q.2 then s.set (q.2 * w + q.1).toNat (mixF p p.fo q.1 q.2 s[(q.2 * w + q.1).toNat]!) else s
noncomputable def pointsPx (w h : Nat) (clip : List Rect) (p : PenS) (l : List (Int × Int)) (px : List Int) : List Int := l.foldl (fun s q => pointPx w h clip p q s) px
theorem pointPx_len (w h : Nat) (clip : List Rect) (p : PenS) (q : Int × Int) (s : List Int) : (pointPx w h clip p q s).length = s.length := by
  unfold pointPx; split
  · rw [List.length_set]
  · rfl
theorem pointsPx_len (w h : Nat) (clip : List Rect) (p : PenS) : ∀ (l : List (Int × Int)) (px : List Int), (pointsPx w h clip p l px).length = px.length
  | [], px => rfl
  | q :: l, px => by show (pointsPx w h clip p l _).length = _; rw [pointsPx_len w h clip p l, pointPx_len]
theorem set_bd {s : List Int} {i : Nat} {v : Int} (h : ∀ v ∈ s, 0 ≤ v ∧ v < 256) (hv : 0 ≤ v ∧ v < 256) : ∀ u ∈ s.set i v, 0 ≤ u ∧ u < 256 := fun u hu => by
  rcases List.mem_or_eq_of_mem_set hu with k | rfl
  · exact h u k
  · exact hv
theorem pointPx_bd {w h : Nat} {clip : List Rect} {p : PenS} {q : Int × Int} {s : List Int} (hb : ∀ v ∈ s, 0 ≤ v ∧ v < 256) : ∀ v ∈ pointPx w h clip p q s, 0 ≤ v ∧ v < 256 := by
  unfold pointPx; split
  · exact set_bd hb (mixF_bd p p.fo _ _ _ (bang_bd hb _))
  · exact hb
theorem pointsPx_bd {w h : Nat} {clip : List Rect} {p : PenS} : ∀ {l : List (Int × Int)} {px : List Int}, (∀ v ∈ px, 0 ≤ v ∧ v < 256) → ∀ v ∈ pointsPx w h clip p l px, 0 ≤ v ∧ v < 256
  | [], px, hb => hb
  | q :: l, px, hb => pointsPx_bd (l := l) (pointPx_bd hb)
theorem pointsPx_snoc {w h : Nat} {clip : List Rect} {p : PenS} {l : List (Int × Int)} {k : Nat} {px : List Int} (hk : k < l.length) : pointsPx w h clip p (l.take (k + 1)) px = pointPx w h clip p l[k]! (pointsPx w h clip p (l.take k) px) := by
  unfold pointsPx
  rw [take_snoc hk, List.foldl_append]; rfl
theorem points_t {n : Nat} (w h : Nat) (px : List Int) (clip : List Rect) (l : List (Int × Int)) (p : PenS) (hw : w ≤ 128) (hh : h ≤ 128) (hl : px.length = w * h) (hpb : ∀ v ∈ px, 0 ≤ v ∧ v < 256) (hc : Reg n clip) (hn : n ≤ 490) (hll : l.length ≤ 1048576) (hok : PenOk p) (hsr : 0 ≤ p.fo ∧ p.fo < 256) (hp : 0 ≤ p.pl ∧ p.pl < 256) :
    CallP Tryz.prog 30 [gT w h px, regT clip, penT p, .islc (encL cP l) l.length none] (gT w h (pointsPx w h clip p l px)) := by
  have hcl : clip.length ≤ 1048576 := Nat.le_trans hc.len (Nat.le_trans (Nat.mul_le_mul hn hn) (show 490 * 490 ≤ 1048576 by decide))
  have hcp : T.pureL [.islc (encL cR clip) clip.length none] = true := by simp only [T.pureL, T.pure, encL_pure, Bool.and_self]
  refine CallP.intro2 au_pu au_pu ?_
  refine CallT.intro tab_ok Tryz.func30 rfl (by kernel_rfl) (Nat.le_of_ble_eq_true rfl) ?_
  refine VC.reg tab_ok [4, 5, 6] rfl ?_
  refine VX.newI rfl rfl ?_
  refine VX.newI rfl rfl ?_
  refine VX.newI rfl rfl ?_
  refine VX.new rfl rfl ?_
  refine VX.nil ?_
  refine VC.seq ?_
  refine VC.reg tab_ok [] rfl ?_
  first | refine VX.meek rfl ?_ | refine VX.loadI rfl rfl au_l ?_ | refine VX.loadP rfl rfl rfl au_l ?_
  refine VX.callP0 rfl rfl rfl (check_p p hok) ?_
  refine VX.meek rfl ?_
  refine VX.nil ?_
  refine VC.cond rfl (fun hc0 => ?_) (fun hc0 => ?_)
  · exact absurd hc0 (by decide)
  · (try simp only [au_std] at hc0)
    refine VC.skip ?_
    refine VC.reg tab_ok [] rfl ?_
    first | refine VX.meek rfl ?_ | refine VX.loadI rfl rfl au_l ?_ | refine VX.loadP rfl rfl rfl au_l ?_
    refine VX.callT rfl rfl (CallT.frame (planeOf_t w h px hw hh hl hpb) [] rfl au_ci au_ci ?_)
    rintro _ _ ⟨rfl, rfl⟩
    refine frK au_co au_co ?_
    refine VX.meek rfl ?_
    refine VX.nil ?_
    refine VC.reg tab_ok [] rfl ?_
    refine VX.meek rfl ?_
    first | refine VX.meek rfl ?_ | refine VX.loadI rfl rfl au_l ?_ | refine VX.loadP rfl rfl rfl au_l ?_
    refine VX.meek rfl ?_
    first | refine VX.meek rfl ?_ | refine VX.loadI rfl rfl au_l ?_ | refine VX.loadP rfl rfl rfl au_l ?_
    refine VX.callT rfl rfl (CallT.frame (painter_t w h px p p.fo (encL cU px)) [1] rfl au_ci au_ci ?_)
    rintro _ _ ⟨rfl, rfl⟩
    refine frK au_co au_co ?_
    refine VX.meek rfl ?_
    refine VX.nil ?_
    refine VC.seq ?_
    refine VC.reg tab_ok [] rfl ?_
    iterate 3 refine VX.meek rfl ?_
    refine VX.nil ?_
    refine VC.block ?_
    refine VC.loopS (σ := Nat) (fun k => l.length - k) (fun k => k ≤ l.length) (fun k => [(26, I64 k), (8, .ptr 0 0), (9, plT 1 w h px), (10, .clo 134 [] [.iptr [plT 1 w h px] 0, .iptr (penC p) 0, .iptr [U8 p.fo] 0])]) (fun k => [.c [I64 0, I64 0, NIL], .c (encL cU (pointsPx w h clip p (l.take k) px))]) [5, 24, 25] rfl (0) ?_ ?_ ?_
    · refine ⟨[some 0, some 1], rfl, by first | trivial | decide, rfl, ?_, ?_⟩ <;> (repeat' first | exact trivial | exact CvB_n | exact CvB_d | refine CvE_app ?_ ?_ | refine CvE_cons rfl ?_ ?_ | refine CvH_cons ?_ ?_ | refine CvB_c rfl ?_ | fail) <;> first | exact au_v | (first | exact Cv.pure hcp | exact Cv.iptr (cv_pl (Cv.pure (encL_pure cU _)) (Cv.slc rfl (.inl rfl))) | exact Cv.clo CvL.nil (cv_caps rfl (penC_pure p _)))
    · (try dsimp only); omega
    rintro k hk
    refine VC.reg tab_ok [] rfl ?_
    refine VX.meek rfl ?_
    refine VX.nil ?_
    refine VC.seq ?_
    refine VC.cond rfl (fun hc1 => ?_) (fun hc1 => ?_)
    · (try simp only [au_std] at hc1); have hkl : k < l.length := (by omega); have hsl := pointsPx_len w h clip p (l.take k) px; have hsb := pointsPx_bd (w := w) (h := h) (clip := clip) (p := p) (l := l.take k) hpb; have hsn := pointsPx_snoc (w := w) (h := h) (clip := clip) (p := p) (px := px) hkl
      refine VC.skip ?_
      refine VC.seq ?_
      refine VC.block ?_
      refine VC.reg tab_ok [] rfl ?_
      first | refine VX.idxI rfl rfl rfl rfl rfl rfl (by omega) ?_ | refine VX.idxO0 rfl rfl rfl rfl rfl rfl rfl (by omega) ?_ | refine VX.idxO0 rfl rfl rfl rfl rfl rfl au_z (by omega) ?_ | refine VX.idxO rfl rfl rfl rfl rfl rfl rfl (by omega) ?_ | refine VX.idxI rfl rfl rfl rfl rfl au_z (by omega) ?_ | refine VX.idxO rfl rfl rfl rfl rfl rfl au_z (by omega) ?_ | refine VX.meek rfl ?_
      first | refine VX.meek rfl ?_ | refine VX.loadI rfl rfl au_l ?_ | refine VX.loadP rfl rfl rfl au_l ?_
      refine VX.new rfl rfl ?_
      refine VX.store rfl rfl rfl rfl rfl au_sP rfl ?_
      refine VX.nil ?_
      refine VC.reg tab_ok [] rfl ?_
      iterate 2 refine VX.meek rfl ?_
      first | refine VX.meek rfl ?_ | refine VX.loadI rfl rfl au_l ?_ | refine VX.loadP rfl rfl rfl au_l ?_
      refine VX.meek rfl ?_
      first | refine VX.meek rfl ?_ | refine VX.loadI rfl rfl au_l ?_ | refine VX.loadP rfl rfl rfl au_l ?_
      refine VX.callT rfl rfl ((phas_t w h px (nwT 1 px.length) _ l[k]!.1 l[k]!.2).mono ?_)
      rintro _ _ ⟨rfl, rfl⟩
      refine VX.meek rfl ?_
      refine' VX.merge (d := 43) [_, _, _, _, _, _, _] rfl ?_ rfl ?_
      rotate_left
      · refine VX.guard rfl rfl (fun hb8_6 => ?_) (fun hb8_6 => ?_)
        · have ghb8_6 := hb8_6
          try simp only [au_std, Bool.not_true, Bool.not_false] at ghb8_6
          first | refine VX.meek rfl ?_ | refine VX.loadI rfl rfl au_l ?_ | refine VX.loadP rfl rfl rfl au_l ?_
          refine VX.guardT rfl rfl hb8_6 ?_
          refine VX.meek rfl ?_
          refine VX.guardT rfl rfl hb8_6 ?_
          first | refine VX.meek rfl ?_ | refine VX.loadI rfl rfl au_l ?_ | refine VX.loadP rfl rfl rfl au_l ?_
          refine VX.guardT rfl rfl hb8_6 ?_
          refine VX.meek rfl ?_
          refine VX.guardT rfl rfl hb8_6 ?_
          first | refine VX.meek rfl ?_ | refine VX.loadI rfl rfl au_l ?_ | refine VX.loadP rfl rfl rfl au_l ?_
          refine VX.guardT rfl rfl hb8_6 ?_
          refine VX.callP0 rfl rfl rfl (has_p clip hc.1 hc.2 hcl l[k]!.1 l[k]!.2) ?_
          refine VX.pickA rfl (fun _ => rfl) ?_
          exact VX.nil ⟨rfl, rfl⟩
        · refine VX.guardF rfl rfl hb8_6 ?_
          refine VX.guardF rfl rfl hb8_6 ?_
          refine VX.guardF rfl rfl hb8_6 ?_
          refine VX.guardF rfl rfl hb8_6 ?_
          refine VX.guardF rfl rfl hb8_6 ?_
          exact VX.pickA rfl (fun h => absurd (h.symm.trans hb8_6) (by decide)) (VX.nil ⟨rfl, rfl⟩)
      refine VX.nil ?_
      refine VC.cond rfl (fun hc2 => ?_) (fun hc2 => ?_)
      · simp only [Bool.and_eq_true, decide_eq_true_eq] at hc2; have hpos : 0 ≤ l[k]!.1 ∧ l[k]!.1 < w ∧ 0 ≤ l[k]!.2 ∧ l[k]!.2 < h := (by have q := hc2.1; unfold inB' at q; simp only [Bool.and_eq_true, decide_eq_true_eq] at q; omega)
        have hst : pointPx w h clip p l[k]! (pointsPx w h clip p (l.take k) px) = (pointsPx w h clip p (l.take k) px).set (l[k]!.2 * w + l[k]!.1).toNat (mixF p p.fo l[k]!.1 l[k]!.2 (pointsPx w h clip p (l.take k) px)[(l[k]!.2 * w + l[k]!.1).toNat]!) := if_pos hc2
        refine VC.regN tab_ok [] rfl ?_
        iterate 2 refine VX.meek rfl ?_
        first | refine VX.meek rfl ?_ | refine VX.loadI rfl rfl au_l ?_ | refine VX.loadP rfl rfl rfl au_l ?_
        refine VX.meek rfl ?_
        first | refine VX.meek rfl ?_ | refine VX.loadI rfl rfl au_l ?_ | refine VX.loadP rfl rfl rfl au_l ?_
        refine VX.callT rfl rfl (CallT.frame (brush_t w h px p p.fo hw hh hl hsr hp (pointsPx w h clip p (l.take k) px) l[k]!.1 l[k]!.2 (by rw [hsl, hl]) hsb hpos.1 hpos.2.1 hpos.2.2.1 hpos.2.2.2) [1] rfl au_ci au_ci ?_)
        rintro _ _ ⟨rfl, rfl⟩
        refine frK au_co au_co ?_
        refine VX.nil ?_
        refine VC.regN tab_ok [] rfl ?_
        first | refine VX.add rfl rfl (by omega) ?_ | refine VX.meek rfl ?_
        refine VX.meek rfl ?_
        refine VX.nil ?_
        refine ⟨k + 1, by (try dsimp only); omega, ?_, (by refine ⟨[some 0, some 1], rfl, by first | trivial | decide, rfl, ?_, ?_⟩ <;> (repeat' first | exact trivial | exact CvB_n | exact CvB_d | refine CvE_app ?_ ?_ | refine CvE_cons rfl ?_ ?_ | refine CvH_cons ?_ ?_ | refine CvB_c rfl ?_ | fail) <;> first | exact au_v | (first | exact Cv.pure hcp | exact Cv.iptr (cv_pl (Cv.pure (encL_pure cU _)) (Cv.slc rfl (.inl rfl))) | exact Cv.clo CvL.nil (cv_caps rfl (penC_pure p _)) | exact CvL.eq (congrArg (encL cU) (by rw [hsn, hst])) (encL_pure cU _)))⟩
        (try dsimp only); omega
      · have hst : pointPx w h clip p l[k]! (pointsPx w h clip p (l.take k) px) = pointsPx w h clip p (l.take k) px := if_neg (fun q => by rw [q.1, decide_eq_true q.2] at hc2; cases hc2)
        refine VC.skip ?_
        refine VC.regN tab_ok [] rfl ?_
        first | refine VX.add rfl rfl (by omega) ?_ | refine VX.meek rfl ?_
        refine VX.meek rfl ?_
        refine VX.nil ?_
        refine ⟨k + 1, by (try dsimp only); omega, ?_, (by refine ⟨[some 0, some 1], rfl, by first | trivial | decide, rfl, ?_, ?_⟩ <;> (repeat' first | exact trivial | exact CvB_n | exact CvB_d | refine CvE_app ?_ ?_ | refine CvE_cons rfl ?_ ?_ | refine CvH_cons ?_ ?_ | refine CvB_c rfl ?_ | fail) <;> first | exact au_v | (first | exact Cv.pure hcp | exact Cv.iptr (cv_pl (Cv.pure (encL_pure cU _)) (Cv.slc rfl (.inl rfl))) | exact Cv.clo CvL.nil (cv_caps rfl (penC_pure p _)) | exact CvL.eq (congrArg (encL cU) (by rw [hsn, hst])) (encL_pure cU _)))⟩
        (try dsimp only); omega
    · (try simp only [au_std] at hc1); obtain rfl : k = l.length := (by omega); rw [List.take_length]
      refine VC.view ([(9, .iptr (plC w h px (.islc (encL cU (pointsPx w h clip p l px)) px.length none)) 0), (8, .ptr 0 0)]) ([.c [I64 0, I64 0, NIL]]) [] rfl (by refine ⟨[some 0], rfl, by first | trivial | decide, rfl, ?_, ?_⟩ <;> (repeat' first | exact trivial | exact CvB_n | exact CvB_d | refine CvE_app ?_ ?_ | refine CvE_cons rfl ?_ ?_ | refine CvH_cons ?_ ?_ | refine CvB_c rfl ?_ | fail) <;> first | exact au_v | (first | exact CvL.pure rfl | exact Cv.iptr (cv_pl (Cv.pure (encL_pure cU _)) (Cv.fslc0 ⟨rfl, by simp⟩ (CvL.pure (encL_pure cU _)))))) ?_
      refine VC.exit ?_
      refine VC.reg tab_ok [] rfl ?_
      refine VX.meek rfl ?_
      refine VX.callP0 rfl rfl rfl (pgrid_n w h px (pointsPx w h clip p l px) px.length (pointsPx_len w h clip p l px) hw hh hl (by rw [pointsPx_len, hl]) hpb (pointsPx_bd hpb)) ?_
      refine VX.store rfl rfl rfl rfl rfl au_sP rfl ?_
      refine VX.nil ?_
      refine VC.ret ?_
      refine ⟨trivial, _, rfl, Cv.agg (cv_g (Cv.pure (encL_pure cU _)))⟩
end
end Go.Proofs.YtelhkfdpkjkpjaaGreat
