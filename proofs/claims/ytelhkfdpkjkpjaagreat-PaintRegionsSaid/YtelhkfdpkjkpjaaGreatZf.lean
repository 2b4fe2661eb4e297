/-
  The proof's lemmas, part 6.
-/
import Derived.Test.YtelhkfdpkjkpjaaGreatZe
import Derived.OpenVars
import Derived.Carry
namespace Go.Proofs.YtelhkfdpkjkpjaaGreat
section
open Go.RowKit Go.Sort
set_option linter.unusedSimpArgs false
set_option linter.unusedVariables false
set_option maxRecDepth 10000
def rect0 : Rect := ⟨0, 0, 0, 0⟩
theorem right_p (r : Rect) : CallP Tryz.prog 176 [rectT r] (BL (decide (r = rect0) || countsB r)) := by
  refine CallP.intro2 au_pu au_pu ?_
  refine CallT.intro tab_ok Tryz.func176 rfl (by kernel_rfl) (Nat.le_of_ble_eq_true rfl) ?_
  refine VC.reg tab_ok [1] rfl ?_
  refine VX.newI rfl rfl ?_
  refine VX.meek rfl ?_
  refine VX.nil ?_
  refine VC.seq ?_
  refine VC.reg tab_ok [] rfl ?_
  first | refine VX.meek rfl ?_ | refine VX.loadI rfl rfl au_l ?_ | refine VX.loadP rfl rfl rfl au_l ?_
  iterate 2 refine VX.meek rfl ?_
  refine VX.nil ?_
  refine VC.cond rfl (fun hc0 => ?_) (fun hc0 => ?_)
  · have hz : r = rect0 := rect_ext.2 (show r.X = 0 ∧ r.Y = 0 ∧ r.W = 0 ∧ r.H = 0 from by simpa using hc0)
    refine VC.reg tab_ok [] rfl ?_
    refine VX.meek rfl ?_
    refine VX.nil ?_
    refine VC.ret ?_
    exact ⟨trivial, _, rfl, Cv.eq (congrArg BL (by rw [decide_eq_true hz]; rfl)) rfl⟩
  · have hz : ¬ r = rect0 := (fun h => by subst h; simp [rect0] at hc0)
    refine VC.skip ?_
    refine VC.reg tab_ok [] rfl ?_
    refine VX.meek rfl ?_
    first | refine VX.meek rfl ?_ | refine VX.loadI rfl rfl au_l ?_ | refine VX.loadP rfl rfl rfl au_l ?_
    iterate 2 refine VX.meek rfl ?_
    refine' VX.merge (d := 13) [_, _, _, _] rfl ?_ rfl ?_
    rotate_left
    · refine VX.guard rfl rfl (fun hb3_3 => ?_) (fun hb3_3 => ?_)
      · have ghb3_3 := hb3_3
        try simp only [au_std, Bool.not_true, Bool.not_false] at ghb3_3
        refine VX.meek rfl ?_
        refine VX.guardT rfl rfl hb3_3 ?_
        first | refine VX.meek rfl ?_ | refine VX.loadI rfl rfl au_l ?_ | refine VX.loadP rfl rfl rfl au_l ?_
        refine VX.guardT rfl rfl hb3_3 ?_
        refine VX.meek rfl ?_
        refine VX.pickA rfl (fun _ => rfl) ?_
        exact VX.nil ⟨rfl, rfl⟩
      · refine VX.guardF rfl rfl hb3_3 ?_
        refine VX.guardF rfl rfl hb3_3 ?_
        exact VX.pickA rfl (fun h => absurd (h.symm.trans hb3_3) (by decide)) (VX.nil ⟨rfl, rfl⟩)
    refine VX.meek rfl ?_
    refine' VX.merge (d := 18) [_, _, _, _] rfl ?_ rfl ?_
    rotate_left
    · refine VX.guard rfl rfl (fun hb3_8 => ?_) (fun hb3_8 => ?_)
      · have ghb3_8 := hb3_8
        try simp only [au_std, Bool.not_true, Bool.not_false] at ghb3_8
        refine VX.meek rfl ?_
        refine VX.guardT rfl rfl hb3_8 ?_
        first | refine VX.meek rfl ?_ | refine VX.loadI rfl rfl au_l ?_ | refine VX.loadP rfl rfl rfl au_l ?_
        refine VX.guardT rfl rfl hb3_8 ?_
        refine VX.meek rfl ?_
        refine VX.pickA rfl (fun _ => rfl) ?_
        exact VX.nil ⟨rfl, rfl⟩
      · refine VX.guardF rfl rfl hb3_8 ?_
        refine VX.guardF rfl rfl hb3_8 ?_
        exact VX.pickA rfl (fun h => absurd (h.symm.trans hb3_8) (by decide)) (VX.nil ⟨rfl, rfl⟩)
    refine VX.meek rfl ?_
    refine' VX.merge (d := 23) [_, _, _, _] rfl ?_ rfl ?_
    rotate_left
    · refine VX.guard rfl rfl (fun hb3_13 => ?_) (fun hb3_13 => ?_)
      · have ghb3_13 := hb3_13
        try simp only [au_std, Bool.not_true, Bool.not_false] at ghb3_13
        refine VX.meek rfl ?_
        refine VX.guardT rfl rfl hb3_13 ?_
        first | refine VX.meek rfl ?_ | refine VX.loadI rfl rfl au_l ?_ | refine VX.loadP rfl rfl rfl au_l ?_
        refine VX.guardT rfl rfl hb3_13 ?_
        refine VX.meek rfl ?_
        refine VX.pickA rfl (fun _ => rfl) ?_
        exact VX.nil ⟨rfl, rfl⟩
      · refine VX.guardF rfl rfl hb3_13 ?_
        refine VX.guardF rfl rfl hb3_13 ?_
        exact VX.pickA rfl (fun h => absurd (h.symm.trans hb3_13) (by decide)) (VX.nil ⟨rfl, rfl⟩)
    refine VX.meek rfl ?_
    refine' VX.merge (d := 28) [_, _, _, _] rfl ?_ rfl ?_
    rotate_left
    · refine VX.guard rfl rfl (fun hb3_18 => ?_) (fun hb3_18 => ?_)
      · have ghb3_18 := hb3_18
        try simp only [au_std, Bool.not_true, Bool.not_false] at ghb3_18
        refine VX.meek rfl ?_
        refine VX.guardT rfl rfl hb3_18 ?_
        first | refine VX.meek rfl ?_ | refine VX.loadI rfl rfl au_l ?_ | refine VX.loadP rfl rfl rfl au_l ?_
        refine VX.guardT rfl rfl hb3_18 ?_
        refine VX.meek rfl ?_
        refine VX.pickA rfl (fun _ => rfl) ?_
        exact VX.nil ⟨rfl, rfl⟩
      · refine VX.guardF rfl rfl hb3_18 ?_
        refine VX.guardF rfl rfl hb3_18 ?_
        exact VX.pickA rfl (fun h => absurd (h.symm.trans hb3_18) (by decide)) (VX.nil ⟨rfl, rfl⟩)
    refine VX.meek rfl ?_
    refine' VX.merge (d := 33) [_, _, _, _] rfl ?_ rfl ?_
    rotate_left
    · refine VX.guard rfl rfl (fun hb3_23 => ?_) (fun hb3_23 => ?_)
      · have ghb3_23 := hb3_23
        try simp only [au_std, Bool.not_true, Bool.not_false] at ghb3_23
        refine VX.meek rfl ?_
        refine VX.guardT rfl rfl hb3_23 ?_
        first | refine VX.meek rfl ?_ | refine VX.loadI rfl rfl au_l ?_ | refine VX.loadP rfl rfl rfl au_l ?_
        refine VX.guardT rfl rfl hb3_23 ?_
        refine VX.meek rfl ?_
        refine VX.pickA rfl (fun _ => rfl) ?_
        exact VX.nil ⟨rfl, rfl⟩
      · refine VX.guardF rfl rfl hb3_23 ?_
        refine VX.guardF rfl rfl hb3_23 ?_
        exact VX.pickA rfl (fun h => absurd (h.symm.trans hb3_23) (by decide)) (VX.nil ⟨rfl, rfl⟩)
    refine VX.meek rfl ?_
    refine' VX.merge (d := 41) [_, _, _, _, _, _, _] rfl ?_ rfl ?_
    rotate_left
    · refine VX.guard rfl rfl (fun hb3_28 => ?_) (fun hb3_28 => ?_)
      · have ghb3_28 := hb3_28
        try simp only [au_std, Bool.not_true, Bool.not_false] at ghb3_28
        refine VX.meek rfl ?_
        refine VX.guardT rfl rfl hb3_28 ?_
        first | refine VX.meek rfl ?_ | refine VX.loadI rfl rfl au_l ?_ | refine VX.loadP rfl rfl rfl au_l ?_
        refine VX.guardT rfl rfl hb3_28 ?_
        refine VX.meek rfl ?_
        refine VX.guardT rfl rfl hb3_28 ?_
        first | refine VX.meek rfl ?_ | refine VX.loadI rfl rfl au_l ?_ | refine VX.loadP rfl rfl rfl au_l ?_
        refine VX.guardT rfl rfl hb3_28 ?_
        first | refine VX.sub rfl rfl (by omega) ?_ | refine VX.meek rfl ?_
        refine VX.guardT rfl rfl hb3_28 ?_
        refine VX.meek rfl ?_
        refine VX.pickA rfl (fun _ => rfl) ?_
        exact VX.nil ⟨rfl, rfl⟩
      · refine VX.guardF rfl rfl hb3_28 ?_
        refine VX.guardF rfl rfl hb3_28 ?_
        refine VX.guardF rfl rfl hb3_28 ?_
        refine VX.guardF rfl rfl hb3_28 ?_
        refine VX.guardF rfl rfl hb3_28 ?_
        exact VX.pickA rfl (fun h => absurd (h.symm.trans hb3_28) (by decide)) (VX.nil ⟨rfl, rfl⟩)
    refine VX.meek rfl ?_
    refine' VX.merge (d := 49) [_, _, _, _, _, _, _] rfl ?_ rfl ?_
    rotate_left
    · refine VX.guard rfl rfl (fun hb3_36 => ?_) (fun hb3_36 => ?_)
      · have ghb3_36 := hb3_36
        try simp only [au_std, Bool.not_true, Bool.not_false] at ghb3_36
        refine VX.meek rfl ?_
        refine VX.guardT rfl rfl hb3_36 ?_
        first | refine VX.meek rfl ?_ | refine VX.loadI rfl rfl au_l ?_ | refine VX.loadP rfl rfl rfl au_l ?_
        refine VX.guardT rfl rfl hb3_36 ?_
        refine VX.meek rfl ?_
        refine VX.guardT rfl rfl hb3_36 ?_
        first | refine VX.meek rfl ?_ | refine VX.loadI rfl rfl au_l ?_ | refine VX.loadP rfl rfl rfl au_l ?_
        refine VX.guardT rfl rfl hb3_36 ?_
        first | refine VX.sub rfl rfl (by omega) ?_ | refine VX.meek rfl ?_
        refine VX.guardT rfl rfl hb3_36 ?_
        refine VX.meek rfl ?_
        refine VX.pickA rfl (fun _ => rfl) ?_
        exact VX.nil ⟨rfl, rfl⟩
      · refine VX.guardF rfl rfl hb3_36 ?_
        refine VX.guardF rfl rfl hb3_36 ?_
        refine VX.guardF rfl rfl hb3_36 ?_
        refine VX.guardF rfl rfl hb3_36 ?_
        refine VX.guardF rfl rfl hb3_36 ?_
        exact VX.pickA rfl (fun h => absurd (h.symm.trans hb3_36) (by decide)) (VX.nil ⟨rfl, rfl⟩)
    refine VX.meek rfl ?_
    refine VX.nil ?_
    refine VC.ret ?_
    exact ⟨trivial, _, rfl, Cv.eq (congrArg BL (by rw [decide_eq_false hz, Bool.false_or, Bool.eq_iff_iff]; unfold countsB fitsB; simp only [Bool.and_eq_true, decide_eq_true_eq]; omega)) rfl⟩
theorem as_p (r : Rect) : CallP Tryz.prog 160 [rectT r] (rectT (if countsB r = true then r else rect0)) := by
  refine CallP.intro2 au_pu au_pu ?_
  refine CallT.intro tab_ok Tryz.func160 rfl (by kernel_rfl) (Nat.le_of_ble_eq_true rfl) ?_
  refine VC.reg tab_ok [1] rfl ?_
  refine VX.newI rfl rfl ?_
  refine VX.new rfl rfl ?_
  refine VX.nil ?_
  refine VC.seq ?_
  refine VC.reg tab_ok [] rfl ?_
  first | refine VX.meek rfl ?_ | refine VX.loadI rfl rfl au_l ?_ | refine VX.loadP rfl rfl rfl au_l ?_
  refine VX.callP0 rfl rfl rfl (right_p r) ?_
  refine VX.meek rfl ?_
  refine VX.nil ?_
  refine VC.cond rfl (fun hc0 => ?_) (fun hc0 => ?_)
  · have hc : ¬ countsB r = true := (by simp at hc0; simp [hc0]); rw [if_neg hc]
    refine VC.reg tab_ok [] rfl ?_
    refine VX.meek rfl ?_
    refine VX.store rfl rfl rfl rfl rfl au_sR rfl ?_
    refine VX.nil ?_
    refine VC.ret ?_
    exact ⟨trivial, _, rfl, Cv.eq rfl rfl⟩
  · have hc : (if countsB r = true then r else rect0) = r := (by
      by_cases h : countsB r = true
      · rw [if_pos h]
      · rw [if_neg h]; simp [h] at hc0; exact hc0.symm)
    rw [hc]
    refine VC.skip ?_
    refine VC.reg tab_ok [] rfl ?_
    first | refine VX.meek rfl ?_ | refine VX.loadI rfl rfl au_l ?_ | refine VX.loadP rfl rfl rfl au_l ?_
    refine VX.store rfl rfl rfl rfl rfl au_sR rfl ?_
    refine VX.nil ?_
    refine VC.ret ?_
    exact ⟨trivial, _, rfl, Cv.eq rfl rfl⟩
theorem has12_p (r : Rect) (x y : Int) : CallP Tryz.prog 129 [rectT r, I64 x, I64 y] (BL (decide (inL ([r].filter countsB) x y))) := by
  have e : ∀ q : Rect, (q = if countsB r = true then r else rect0) → (decide (inL ([r].filter countsB) x y) = (decide (q.X ≤ x) && decide (x < q.X + q.W) && decide (q.Y ≤ y) && decide (y < q.Y + q.H))) := fun q hq => by
    rw [Bool.eq_iff_iff, decide_eq_true_eq]
    simp only [Bool.and_eq_true, decide_eq_true_eq]
    by_cases h : countsB r = true
    · rw [if_pos h] at hq; subst hq
      rw [List.filter_cons, if_pos h, List.filter_nil, inL_cons]
      have : ¬ inL [] x y := inL_nil
      unfold Rect.has
      constructor
      · rintro (k | k)
        · omega
        · exact absurd k this
      · intro k; exact .inl (by omega)
    · rw [if_neg h] at hq; subst hq
      rw [List.filter_cons, if_neg h, List.filter_nil]
      exact ⟨fun k => absurd k inL_nil, fun k => by unfold rect0 at k; dsimp only at k; omega⟩
  generalize hq : (if countsB r = true then r else rect0) = q at e
  have hqb : -1048576 ≤ q.X ∧ q.X ≤ 1048576 ∧ 0 ≤ q.W ∧ q.W ≤ 2097152 ∧ -1048576 ≤ q.Y ∧ q.Y ≤ 1048576 ∧ 0 ≤ q.H ∧ q.H ≤ 2097152 := by
    by_cases h : countsB r = true
    · rw [if_pos h] at hq; subst hq
      have := countsB_rok h; unfold rok at this; omega
    · rw [if_neg h] at hq; subst hq; unfold rect0; dsimp only; omega
  rw [e q rfl]
  refine CallP.intro2 au_pu au_pu ?_
  refine CallT.intro tab_ok Tryz.func129 rfl (by kernel_rfl) (Nat.le_of_ble_eq_true rfl) ?_
  refine VC.reg tab_ok [] rfl ?_
  refine VX.new rfl rfl ?_
  refine VX.meek rfl ?_
  refine VX.nil ?_
  refine VC.reg tab_ok [] rfl ?_
  first | refine VX.meek rfl ?_ | refine VX.loadI rfl rfl au_l ?_ | refine VX.loadP rfl rfl rfl au_l ?_
  refine VX.callP0 rfl rfl rfl ((show CallP Tryz.prog 160 [rectT r] (rectT q) from hq ▸ as_p r)) ?_
  refine VX.store rfl rfl rfl rfl rfl (show 0 + 4 ≤ 4 from Nat.le_refl 4) rfl ?_
  refine VX.nil ?_
  refine VC.view ([(3, .ptr 0 0)]) ([.c [I64 q.X, I64 q.Y, I64 q.W, I64 q.H]]) [1, 2] rfl (by refine ⟨[some 0], rfl, by first | trivial | decide, rfl, ?_, ?_⟩ <;> (repeat' first | exact trivial | exact CvB_n | exact CvB_d | refine CvE_app ?_ ?_ | refine CvE_cons rfl ?_ ?_ | refine CvH_cons ?_ ?_ | refine CvB_c rfl ?_ | fail) <;> first | exact au_v | (exact CvL.eq rfl rfl)) ?_
  refine VC.reg tab_ok [] rfl ?_
  iterate 2 refine VX.meek rfl ?_
  first | refine VX.meek rfl ?_ | refine VX.loadI rfl rfl au_l ?_ | refine VX.loadP rfl rfl rfl au_l ?_
  iterate 2 refine VX.meek rfl ?_
  refine' VX.merge (d := 21) [_, _, _, _, _, _, _, _] rfl ?_ rfl ?_
  rotate_left
  · refine VX.guard rfl rfl (fun hb2_4 => ?_) (fun hb2_4 => ?_)
    · have ghb2_4 := hb2_4
      try simp only [au_std, Bool.not_true, Bool.not_false] at ghb2_4
      refine VX.meek rfl ?_
      refine VX.guardT rfl rfl hb2_4 ?_
      refine VX.meek rfl ?_
      refine VX.guardT rfl rfl hb2_4 ?_
      first | refine VX.meek rfl ?_ | refine VX.loadI rfl rfl au_l ?_ | refine VX.loadP rfl rfl rfl au_l ?_
      refine VX.guardT rfl rfl hb2_4 ?_
      refine VX.meek rfl ?_
      refine VX.guardT rfl rfl hb2_4 ?_
      first | refine VX.meek rfl ?_ | refine VX.loadI rfl rfl au_l ?_ | refine VX.loadP rfl rfl rfl au_l ?_
      refine VX.guardT rfl rfl hb2_4 ?_
      first | refine VX.add rfl rfl (by omega) ?_ | refine VX.meek rfl ?_
      refine VX.guardT rfl rfl hb2_4 ?_
      refine VX.meek rfl ?_
      refine VX.pickA rfl (fun _ => rfl) ?_
      exact VX.nil ⟨rfl, rfl⟩
    · refine VX.guardF rfl rfl hb2_4 ?_
      refine VX.guardF rfl rfl hb2_4 ?_
      refine VX.guardF rfl rfl hb2_4 ?_
      refine VX.guardF rfl rfl hb2_4 ?_
      refine VX.guardF rfl rfl hb2_4 ?_
      refine VX.guardF rfl rfl hb2_4 ?_
      exact VX.pickA rfl (fun h => absurd (h.symm.trans hb2_4) (by decide)) (VX.nil ⟨rfl, rfl⟩)
  refine VX.meek rfl ?_
  refine' VX.merge (d := 27) [_, _, _, _, _] rfl ?_ rfl ?_
  rotate_left
  · refine VX.guard rfl rfl (fun hb2_13 => ?_) (fun hb2_13 => ?_)
    · have ghb2_13 := hb2_13
      try simp only [au_std, Bool.not_true, Bool.not_false] at ghb2_13
      refine VX.meek rfl ?_
      refine VX.guardT rfl rfl hb2_13 ?_
      refine VX.meek rfl ?_
      refine VX.guardT rfl rfl hb2_13 ?_
      first | refine VX.meek rfl ?_ | refine VX.loadI rfl rfl au_l ?_ | refine VX.loadP rfl rfl rfl au_l ?_
      refine VX.guardT rfl rfl hb2_13 ?_
      refine VX.meek rfl ?_
      refine VX.pickA rfl (fun _ => rfl) ?_
      exact VX.nil ⟨rfl, rfl⟩
    · refine VX.guardF rfl rfl hb2_13 ?_
      refine VX.guardF rfl rfl hb2_13 ?_
      refine VX.guardF rfl rfl hb2_13 ?_
      exact VX.pickA rfl (fun h => absurd (h.symm.trans hb2_13) (by decide)) (VX.nil ⟨rfl, rfl⟩)
  refine VX.meek rfl ?_
  refine' VX.merge (d := 36) [_, _, _, _, _, _, _, _] rfl ?_ rfl ?_
  rotate_left
  · refine VX.guard rfl rfl (fun hb2_19 => ?_) (fun hb2_19 => ?_)
    · have ghb2_19 := hb2_19
      try simp only [au_std, Bool.not_true, Bool.not_false] at ghb2_19
      refine VX.meek rfl ?_
      refine VX.guardT rfl rfl hb2_19 ?_
      refine VX.meek rfl ?_
      refine VX.guardT rfl rfl hb2_19 ?_
      first | refine VX.meek rfl ?_ | refine VX.loadI rfl rfl au_l ?_ | refine VX.loadP rfl rfl rfl au_l ?_
      refine VX.guardT rfl rfl hb2_19 ?_
      refine VX.meek rfl ?_
      refine VX.guardT rfl rfl hb2_19 ?_
      first | refine VX.meek rfl ?_ | refine VX.loadI rfl rfl au_l ?_ | refine VX.loadP rfl rfl rfl au_l ?_
      refine VX.guardT rfl rfl hb2_19 ?_
      first | refine VX.add rfl rfl (by omega) ?_ | refine VX.meek rfl ?_
      refine VX.guardT rfl rfl hb2_19 ?_
      refine VX.meek rfl ?_
      refine VX.pickA rfl (fun _ => rfl) ?_
      exact VX.nil ⟨rfl, rfl⟩
    · refine VX.guardF rfl rfl hb2_19 ?_
      refine VX.guardF rfl rfl hb2_19 ?_
      refine VX.guardF rfl rfl hb2_19 ?_
      refine VX.guardF rfl rfl hb2_19 ?_
      refine VX.guardF rfl rfl hb2_19 ?_
      refine VX.guardF rfl rfl hb2_19 ?_
      exact VX.pickA rfl (fun h => absurd (h.symm.trans hb2_19) (by decide)) (VX.nil ⟨rfl, rfl⟩)
  refine VX.meek rfl ?_
  refine VX.nil ?_
  refine VC.ret ?_
  exact ⟨trivial, _, rfl, Cv.eq rfl rfl⟩
theorem in23_q (l : List Rect) (tl : List T) (htl : T.pureL tl = true) (x y : Int) (hn : l.length ≤ 1048576) : CallP Tryz.prog 89 [.islc (encL cR l ++ tl) l.length none, I64 x, I64 y] (BL (decide (inL (l.filter countsB) x y))) := by
  have hpu : T.pureL [.islc (encL cR l ++ tl) l.length none, I64 x, I64 y] = true := by simp only [T.pureL, T.pure, pureL_app, encL_pure, htl]; rfl
  refine CallP.intro2 hpu rfl ?_
  refine CallT.intro tab_ok Tryz.func89 rfl (by kernel_rfl) (Nat.le_of_ble_eq_true rfl) ?_
  refine VC.reg tab_ok [] rfl ?_
  refine VX.meek rfl ?_
  refine VX.nil ?_
  refine VC.seq ?_
  refine VC.reg tab_ok [] rfl ?_
  refine VX.meek rfl ?_
  refine VX.nil ?_
  refine VC.block ?_
  refine VC.loopS (σ := Nat) (fun k => l.length - k) (fun k => k ≤ l.length ∧ ∀ i, i < k → ¬ inL ([l[i]!].filter countsB) x y) (fun k => [(7, I64 k)]) (fun _ => []) [0, 1, 2] rfl (0) ?_ ?_ ?_
  · refine ⟨[], rfl, by first | trivial | decide, rfl, ?_, ?_⟩ <;> (repeat' first | exact trivial | exact CvB_n | exact CvB_d | refine CvE_app ?_ ?_ | refine CvE_cons rfl ?_ ?_ | refine CvH_cons ?_ ?_ | refine CvB_c rfl ?_ | fail) <;> first | exact au_v | (skip)
  · exact ⟨by omega, fun i hi => by omega⟩
  rintro k ⟨hk, hno⟩
  refine VC.seq ?_
  refine VC.reg tab_ok [] rfl ?_
  iterate 4 refine VX.meek rfl ?_
  refine VX.nil ?_
  refine VC.cond rfl (fun hc0 => ?_) (fun hc0 => ?_)
  · (try simp only [au_std] at hc0); have hkl : k < l.length := (by omega)
    refine VC.skip ?_
    refine VC.seq ?_
    refine VC.block ?_
    refine VC.reg tab_ok [] rfl ?_
    iterate 2 refine VX.meek rfl ?_
    first | refine VX.idxI rfl rfl rfl rfl rfl rfl (by omega) ?_ | refine VX.idxO0 rfl rfl rfl rfl rfl rfl rfl (by omega) ?_ | refine VX.idxO0 rfl rfl rfl rfl rfl rfl au_z (by omega) ?_ | refine VX.idxO rfl rfl rfl rfl rfl rfl rfl (by omega) ?_ | refine VX.idxI rfl rfl rfl rfl rfl au_z (by omega) ?_ | refine VX.idxO rfl rfl rfl rfl rfl rfl au_z (by omega) ?_ | refine VX.meek rfl ?_
    refine VX.loadI rfl rfl (encL_partA0 _ (getE (by omega)) (by decide) rfl) ?_
    iterate 2 refine VX.meek rfl ?_
    refine VX.callP0 rfl rfl rfl (has12_p l[k]! x y) ?_
    refine VX.nil ?_
    refine VC.cond rfl (fun hc1 => ?_) (fun hc1 => ?_)
    · have hy := of_decide_eq_true hc1; have hres : decide (inL (l.filter countsB) x y) = true := decide_eq_true (by
        obtain ⟨r, h1, h2⟩ := hy
        have h3 := List.mem_filter.1 h1
        rw [List.mem_singleton] at h3
        exact ⟨r, List.mem_filter.2 ⟨by rw [h3.1]; exact List.mem_iff_getElem?.2 ⟨k, getE hkl⟩, h3.2⟩, h2⟩)
      refine VC.reg tab_ok [] rfl ?_
      refine VX.meek rfl ?_
      refine VX.nil ?_
      refine VC.ret ?_
      exact ⟨trivial, _, rfl, Cv.eq (by rw [hres]; rfl) rfl⟩
    · have hn1 := of_decide_eq_false hc1
      refine VC.skip ?_
      refine VC.regN tab_ok [] rfl ?_
      refine VX.meek rfl ?_
      first | refine VX.add rfl rfl (by omega) ?_ | refine VX.meek rfl ?_
      refine VX.meek rfl ?_
      refine VX.nil ?_
      refine ⟨k + 1, by (try dsimp only); omega, ?_, (by refine ⟨[], rfl, by first | trivial | decide, rfl, ?_, ?_⟩ <;> (repeat' first | exact trivial | exact CvB_n | exact CvB_d | refine CvE_app ?_ ?_ | refine CvE_cons rfl ?_ ?_ | refine CvH_cons ?_ ?_ | refine CvB_c rfl ?_ | fail) <;> first | exact au_v | (fail))⟩
      exact ⟨by omega, fun i hi => by rcases Nat.lt_or_ge i k with g | g; exact hno i g; rw [show i = k by omega]; exact hn1⟩
  · (try simp only [au_std] at hc0); have hres : decide (inL (l.filter countsB) x y) = false := decide_eq_false (by
      rintro ⟨r, h1, h2⟩
      have h3 := List.mem_filter.1 h1
      obtain ⟨i, hi, e⟩ := List.mem_iff_getElem.1 h3.1
      refine hno i (by omega) ⟨r, List.mem_filter.2 ⟨?_, h3.2⟩, h2⟩
      rw [getElem!_pos l i hi, e]; exact List.mem_singleton.2 rfl)
    refine VC.exit ?_
    refine VC.reg tab_ok [] rfl ?_
    refine VX.meek rfl ?_
    refine VX.nil ?_
    refine VC.ret ?_
    exact ⟨trivial, _, rfl, Cv.eq (by rw [hres]; rfl) rfl⟩
theorem in23_p (l : List Rect) (x y : Int) (hn : l.length ≤ 1048576) : CallP Tryz.prog 89 [.islc (encL cR l) l.length none, I64 x, I64 y] (BL (decide (inL (l.filter countsB) x y))) := by
  have := in23_q l [] rfl x y hn
  rwa [List.append_nil] at this
theorem is_p (n : Int) : CallP Tryz.prog 177 [I64 n] (BL (ropKnown n)) := by
  refine CallP.intro2 au_pu au_pu ?_
  refine CallT.intro tab_ok Tryz.func177 rfl (by kernel_rfl) (Nat.le_of_ble_eq_true rfl) ?_
  refine VC.reg tab_ok [] rfl ?_
  refine VX.meek rfl ?_
  refine VX.nil ?_
  refine VC.reg tab_ok [] rfl ?_
  iterate 3 refine VX.meek rfl ?_
  refine' VX.merge (d := 8) [_, _, _] rfl ?_ rfl ?_
  rotate_left
  · refine VX.guard rfl rfl (fun hb1_2 => ?_) (fun hb1_2 => ?_)
    · have ghb1_2 := hb1_2
      try simp only [au_std, Bool.not_true, Bool.not_false] at ghb1_2
      refine VX.meek rfl ?_
      refine VX.guardT rfl rfl hb1_2 ?_
      refine VX.meek rfl ?_
      refine VX.pickA rfl (fun _ => rfl) ?_
      exact VX.nil ⟨rfl, rfl⟩
    · refine VX.guardF rfl rfl hb1_2 ?_
      exact VX.pickA rfl (fun h => absurd (h.symm.trans hb1_2) (by decide)) (VX.nil ⟨rfl, rfl⟩)
  refine VX.meek rfl ?_
  refine VX.nil ?_
  refine VC.ret ?_
  exact ⟨trivial, _, rfl, Cv.eq (by first | rfl | (simp [*]; done)) rfl⟩
def ropPlace (s d : Bool) : Nat := if s && d then 0 else if s then 1 else if d then 2 else 3
theorem place1 {s d : Bool} (h1 : s = true → d = false) (h2 : s = true) : ropPlace s d = 1 := by cases s <;> cases d <;> simp_all [ropPlace]
theorem place2 {s d : Bool} (h1 : s = false) (h2 : d = true) : ropPlace s d = 2 := by cases s <;> cases d <;> simp_all [ropPlace]
theorem place3 {s d : Bool} (h1 : s = false) (h2 : d = false) : ropPlace s d = 3 := by cases s <;> cases d <;> simp_all [ropPlace]
theorem place_fin : ∀ (a : Fin 16) (s d : Bool), (halve (ropPlace s d) (a.val : Int) % 2 == 1) = ropDoes a.val s d := by decide +kernel
theorem place_does {n : Int} (h : ropKnown n = true) (s d : Bool) : (halve (ropPlace s d) n % 2 == 1) = ropDoes n s d := by
  have hn : 0 ≤ n ∧ n ≤ 15 := by unfold ropKnown at h; simp at h; exact h
  obtain ⟨k, rfl⟩ := Int.eq_ofNat_of_zero_le hn.1
  exact place_fin ⟨k, by omega⟩ s d
theorem bit_p (n : Int) (s d : Bool) : CallP Tryz.prog 161 [I64 n, BL s, BL d] (BL (ropFn n s d)) := by
  by_cases hk : ropKnown n = true
  case neg =>
    have e : ropFn n s d = d := by unfold ropFn; rw [if_neg hk]
    rw [e]
    refine CallP.intro2 au_pu au_pu ?_
    refine CallT.intro tab_ok Tryz.func161 rfl (by kernel_rfl) (Nat.le_of_ble_eq_true rfl) ?_
    refine VC.reg tab_ok [] rfl ?_
    refine VX.meek rfl ?_
    refine VX.nil ?_
    refine VC.seq ?_
    refine VC.reg tab_ok [] rfl ?_
    refine VX.meek rfl ?_
    refine VX.callP0 rfl rfl rfl (is_p n) ?_
    refine VX.meek rfl ?_
    refine VX.nil ?_
    refine VC.cond rfl (fun hc0 => ?_) (fun hc0 => ?_)
    · (try simp only [au_std] at hc0)
      refine VC.reg tab_ok [] rfl ?_
      iterate 2 refine VX.meek rfl ?_
      refine VX.nil ?_
      refine VC.ret ?_
      exact ⟨trivial, _, rfl, Cv.eq (by first | rfl | (simp [*]; done)) rfl⟩
    · exact absurd hc0 (by simp [hk])
  have hn : 0 ≤ n ∧ n ≤ 15 := by unfold ropKnown at hk; simp at hk; exact hk
  have e : ropFn n s d = (halve (ropPlace s d) n % 2 == 1) := by unfold ropFn; rw [if_pos hk, place_does hk]
  rw [e]
  refine CallP.intro2 au_pu au_pu ?_
  refine CallT.intro tab_ok Tryz.func161 rfl (by kernel_rfl) (Nat.le_of_ble_eq_true rfl) ?_
  refine VC.reg tab_ok [] rfl ?_
  refine VX.meek rfl ?_
  refine VX.nil ?_
  refine VC.seq ?_
  refine VC.reg tab_ok [] rfl ?_
  refine VX.meek rfl ?_
  refine VX.callP0 rfl rfl rfl (is_p n) ?_
  refine VX.meek rfl ?_
  refine VX.nil ?_
  refine VC.cond rfl (fun hc0 => ?_) (fun hc0 => ?_)
  · exact absurd hc0 (by simp [hk])
  · (try simp only [au_std] at hc0)
    refine VC.skip ?_
    refine VC.reg tab_ok [] rfl ?_
    refine VX.meek rfl ?_
    refine VX.nil ?_
    refine VC.seq ?_
    refine VC.reg tab_ok [] rfl ?_
    iterate 2 refine VX.meek rfl ?_
    refine' VX.merge (d := 16) [_, _] rfl ?_ rfl ?_
    rotate_left
    · refine VX.guard rfl rfl (fun hb4_1 => ?_) (fun hb4_1 => ?_)
      · have ghb4_1 := hb4_1
        try simp only [au_std, Bool.not_true, Bool.not_false] at ghb4_1
        refine VX.meek rfl ?_
        refine VX.pickA rfl (fun _ => rfl) ?_
        exact VX.nil ⟨rfl, rfl⟩
      · exact VX.pickA rfl (fun h => absurd (h.symm.trans hb4_1) (by decide)) (VX.nil ⟨rfl, rfl⟩)
    refine VX.nil ?_
    refine VC.cond rfl (fun hc1 => ?_) (fun hc1 => ?_)
    · have hP : ropPlace s d = 0 := (by simp at hc1; simp [ropPlace, hc1])
      refine VC.regN tab_ok [] rfl ?_
      refine VX.meek rfl ?_
      refine VX.nil ?_
      refine VC.seq ?_
      refine VC.reg tab_ok [] rfl ?_
      refine VX.meek rfl ?_
      refine VX.nil ?_
      refine VC.block ?_
      refine VC.loopS (σ := Nat) (fun i => ropPlace s d - i) (fun i => i ≤ ropPlace s d) (fun i => [(8, I64 i), (0, I64 (halve i n))]) (fun _ => []) [7] rfl (0) ?_ ?_ ?_
      · refine ⟨[], rfl, by first | trivial | decide, rfl, ?_, ?_⟩ <;> (repeat' first | exact trivial | exact CvB_n | exact CvB_d | refine CvE_app ?_ ?_ | refine CvE_cons rfl ?_ ?_ | refine CvH_cons ?_ ?_ | refine CvB_c rfl ?_ | fail) <;> first | exact au_v | (skip)
      · (try dsimp only); omega
      rintro i hi
      refine VC.seq ?_
      refine VC.reg tab_ok [] rfl ?_
      iterate 3 refine VX.meek rfl ?_
      refine VX.nil ?_
      refine VC.cond rfl (fun hc4 => ?_) (fun hc4 => ?_)
      · (try simp only [au_std] at hc4); have hil : i < ropPlace s d := (by omega); have h1 := halve_nonneg i n hn.1; have h2 := halve_le i n hn.1
        refine VC.skip ?_
        refine VC.seq ?_
        refine VC.block ?_
        refine VC.regN tab_ok [] rfl ?_
        refine VX.meek rfl ?_
        first | refine VX.quo rfl rfl (by omega) (by omega) (by omega) ?_ | refine VX.meek rfl ?_
        refine VX.meek rfl ?_
        refine VX.nil ?_
        refine VC.regN tab_ok [] rfl ?_
        refine VX.meek rfl ?_
        first | refine VX.add rfl rfl (by omega) ?_ | refine VX.meek rfl ?_
        refine VX.meek rfl ?_
        refine VX.nil ?_
        refine ⟨i + 1, by (try dsimp only); omega, ?_, (by refine ⟨[], rfl, by first | trivial | decide, rfl, ?_, ?_⟩ <;> (repeat' first | exact trivial | exact CvB_n | exact CvB_d | refine CvE_app ?_ ?_ | refine CvE_cons rfl ?_ ?_ | refine CvH_cons ?_ ?_ | refine CvB_c rfl ?_ | fail) <;> first | exact au_v | (fail))⟩
        (try dsimp only); omega
      · (try simp only [au_std] at hc4); have h1 := halve_nonneg i n hn.1; obtain rfl : i = ropPlace s d := (by omega)
        refine VC.exit ?_
        refine VC.reg tab_ok [] rfl ?_
        refine VX.meek rfl ?_
        first | refine VX.rem rfl rfl (by omega) (by omega) ?_ | refine VX.meek rfl ?_
        iterate 2 refine VX.meek rfl ?_
        refine VX.nil ?_
        refine VC.ret ?_
        exact ⟨trivial, _, rfl, Cv.eq (by first | rfl | (simp [*]; done)) rfl⟩
    · (try simp only [au_std] at hc1)
      refine VC.reg tab_ok [] rfl ?_
      refine VX.meek rfl ?_
      refine VX.nil ?_
      refine VC.cond rfl (fun hc2 => ?_) (fun hc2 => ?_)
      · have hP : ropPlace s d = 1 := place1 hc1 hc2
        refine VC.regN tab_ok [] rfl ?_
        refine VX.meek rfl ?_
        refine VX.nil ?_
        refine VC.seq ?_
        refine VC.reg tab_ok [] rfl ?_
        refine VX.meek rfl ?_
        refine VX.nil ?_
        refine VC.block ?_
        refine VC.loopS (σ := Nat) (fun i => ropPlace s d - i) (fun i => i ≤ ropPlace s d) (fun i => [(8, I64 i), (0, I64 (halve i n))]) (fun _ => []) [7] rfl (0) ?_ ?_ ?_
        · refine ⟨[], rfl, by first | trivial | decide, rfl, ?_, ?_⟩ <;> (repeat' first | exact trivial | exact CvB_n | exact CvB_d | refine CvE_app ?_ ?_ | refine CvE_cons rfl ?_ ?_ | refine CvH_cons ?_ ?_ | refine CvB_c rfl ?_ | fail) <;> first | exact au_v | (skip)
        · (try dsimp only); omega
        rintro i hi
        refine VC.seq ?_
        refine VC.reg tab_ok [] rfl ?_
        iterate 3 refine VX.meek rfl ?_
        refine VX.nil ?_
        refine VC.cond rfl (fun hc4 => ?_) (fun hc4 => ?_)
        · (try simp only [au_std] at hc4); have hil : i < ropPlace s d := (by omega); have h1 := halve_nonneg i n hn.1; have h2 := halve_le i n hn.1
          refine VC.skip ?_
          refine VC.seq ?_
          refine VC.block ?_
          refine VC.regN tab_ok [] rfl ?_
          refine VX.meek rfl ?_
          first | refine VX.quo rfl rfl (by omega) (by omega) (by omega) ?_ | refine VX.meek rfl ?_
          refine VX.meek rfl ?_
          refine VX.nil ?_
          refine VC.regN tab_ok [] rfl ?_
          refine VX.meek rfl ?_
          first | refine VX.add rfl rfl (by omega) ?_ | refine VX.meek rfl ?_
          refine VX.meek rfl ?_
          refine VX.nil ?_
          refine ⟨i + 1, by (try dsimp only); omega, ?_, (by refine ⟨[], rfl, by first | trivial | decide, rfl, ?_, ?_⟩ <;> (repeat' first | exact trivial | exact CvB_n | exact CvB_d | refine CvE_app ?_ ?_ | refine CvE_cons rfl ?_ ?_ | refine CvH_cons ?_ ?_ | refine CvB_c rfl ?_ | fail) <;> first | exact au_v | (fail))⟩
          (try dsimp only); omega
        · (try simp only [au_std] at hc4); have h1 := halve_nonneg i n hn.1; obtain rfl : i = ropPlace s d := (by omega)
          refine VC.exit ?_
          refine VC.reg tab_ok [] rfl ?_
          refine VX.meek rfl ?_
          first | refine VX.rem rfl rfl (by omega) (by omega) ?_ | refine VX.meek rfl ?_
          iterate 2 refine VX.meek rfl ?_
          refine VX.nil ?_
          refine VC.ret ?_
          exact ⟨trivial, _, rfl, Cv.eq (by first | rfl | (simp [*]; done)) rfl⟩
      · (try simp only [au_std] at hc2)
        refine VC.reg tab_ok [] rfl ?_
        refine VX.meek rfl ?_
        refine VX.nil ?_
        refine VC.cond rfl (fun hc3 => ?_) (fun hc3 => ?_)
        · have hP : ropPlace s d = 2 := place2 hc2 hc3
          refine VC.regN tab_ok [] rfl ?_
          refine VX.meek rfl ?_
          refine VX.nil ?_
          refine VC.seq ?_
          refine VC.reg tab_ok [] rfl ?_
          refine VX.meek rfl ?_
          refine VX.nil ?_
          refine VC.block ?_
          refine VC.loopS (σ := Nat) (fun i => ropPlace s d - i) (fun i => i ≤ ropPlace s d) (fun i => [(8, I64 i), (0, I64 (halve i n))]) (fun _ => []) [7] rfl (0) ?_ ?_ ?_
          · refine ⟨[], rfl, by first | trivial | decide, rfl, ?_, ?_⟩ <;> (repeat' first | exact trivial | exact CvB_n | exact CvB_d | refine CvE_app ?_ ?_ | refine CvE_cons rfl ?_ ?_ | refine CvH_cons ?_ ?_ | refine CvB_c rfl ?_ | fail) <;> first | exact au_v | (skip)
          · (try dsimp only); omega
          rintro i hi
          refine VC.seq ?_
          refine VC.reg tab_ok [] rfl ?_
          iterate 3 refine VX.meek rfl ?_
          refine VX.nil ?_
          refine VC.cond rfl (fun hc4 => ?_) (fun hc4 => ?_)
          · (try simp only [au_std] at hc4); have hil : i < ropPlace s d := (by omega); have h1 := halve_nonneg i n hn.1; have h2 := halve_le i n hn.1
            refine VC.skip ?_
            refine VC.seq ?_
            refine VC.block ?_
            refine VC.regN tab_ok [] rfl ?_
            refine VX.meek rfl ?_
            first | refine VX.quo rfl rfl (by omega) (by omega) (by omega) ?_ | refine VX.meek rfl ?_
            refine VX.meek rfl ?_
            refine VX.nil ?_
            refine VC.regN tab_ok [] rfl ?_
            refine VX.meek rfl ?_
            first | refine VX.add rfl rfl (by omega) ?_ | refine VX.meek rfl ?_
            refine VX.meek rfl ?_
            refine VX.nil ?_
            refine ⟨i + 1, by (try dsimp only); omega, ?_, (by refine ⟨[], rfl, by first | trivial | decide, rfl, ?_, ?_⟩ <;> (repeat' first | exact trivial | exact CvB_n | exact CvB_d | refine CvE_app ?_ ?_ | refine CvE_cons rfl ?_ ?_ | refine CvH_cons ?_ ?_ | refine CvB_c rfl ?_ | fail) <;> first | exact au_v | (fail))⟩
            (try dsimp only); omega
          · (try simp only [au_std] at hc4); have h1 := halve_nonneg i n hn.1; obtain rfl : i = ropPlace s d := (by omega)
            refine VC.exit ?_
            refine VC.reg tab_ok [] rfl ?_
            refine VX.meek rfl ?_
            first | refine VX.rem rfl rfl (by omega) (by omega) ?_ | refine VX.meek rfl ?_
            iterate 2 refine VX.meek rfl ?_
            refine VX.nil ?_
            refine VC.ret ?_
            exact ⟨trivial, _, rfl, Cv.eq (by first | rfl | (simp [*]; done)) rfl⟩
        · have hP : ropPlace s d = 3 := place3 hc2 hc3
          refine VC.skip ?_
          refine VC.seq ?_
          refine VC.reg tab_ok [] rfl ?_
          refine VX.meek rfl ?_
          refine VX.nil ?_
          refine VC.block ?_
          refine VC.loopS (σ := Nat) (fun i => ropPlace s d - i) (fun i => i ≤ ropPlace s d) (fun i => [(8, I64 i), (0, I64 (halve i n))]) (fun _ => []) [7] rfl (0) ?_ ?_ ?_
          · refine ⟨[], rfl, by first | trivial | decide, rfl, ?_, ?_⟩ <;> (repeat' first | exact trivial | exact CvB_n | exact CvB_d | refine CvE_app ?_ ?_ | refine CvE_cons rfl ?_ ?_ | refine CvH_cons ?_ ?_ | refine CvB_c rfl ?_ | fail) <;> first | exact au_v | (skip)
          · (try dsimp only); omega
          rintro i hi
          refine VC.seq ?_
          refine VC.reg tab_ok [] rfl ?_
          iterate 3 refine VX.meek rfl ?_
          refine VX.nil ?_
          refine VC.cond rfl (fun hc4 => ?_) (fun hc4 => ?_)
          · (try simp only [au_std] at hc4); have hil : i < ropPlace s d := (by omega); have h1 := halve_nonneg i n hn.1; have h2 := halve_le i n hn.1
            refine VC.skip ?_
            refine VC.seq ?_
            refine VC.block ?_
            refine VC.regN tab_ok [] rfl ?_
            refine VX.meek rfl ?_
            first | refine VX.quo rfl rfl (by omega) (by omega) (by omega) ?_ | refine VX.meek rfl ?_
            refine VX.meek rfl ?_
            refine VX.nil ?_
            refine VC.regN tab_ok [] rfl ?_
            refine VX.meek rfl ?_
            first | refine VX.add rfl rfl (by omega) ?_ | refine VX.meek rfl ?_
            refine VX.meek rfl ?_
            refine VX.nil ?_
            refine ⟨i + 1, by (try dsimp only); omega, ?_, (by refine ⟨[], rfl, by first | trivial | decide, rfl, ?_, ?_⟩ <;> (repeat' first | exact trivial | exact CvB_n | exact CvB_d | refine CvE_app ?_ ?_ | refine CvE_cons rfl ?_ ?_ | refine CvH_cons ?_ ?_ | refine CvB_c rfl ?_ | fail) <;> first | exact au_v | (fail))⟩
            (try dsimp only); omega
          · (try simp only [au_std] at hc4); have h1 := halve_nonneg i n hn.1; obtain rfl : i = ropPlace s d := (by omega)
            refine VC.exit ?_
            refine VC.reg tab_ok [] rfl ?_
            refine VX.meek rfl ?_
            first | refine VX.rem rfl rfl (by omega) (by omega) ?_ | refine VX.meek rfl ?_
            iterate 2 refine VX.meek rfl ?_
            refine VX.nil ?_
            refine VC.ret ?_
            exact ⟨trivial, _, rfl, Cv.eq (by first | rfl | (simp [*]; done)) rfl⟩
theorem mix18_p (n s d p : Int) (hs : 0 ≤ s ∧ s < 256) (hd : 0 ≤ d ∧ d < 256) (hp : 0 ≤ p ∧ p < 256) : CallP Tryz.prog 130 [I64 n, U8 s, U8 d, U8 p] (U8 (mixI n s d p)) := by
  have e : refTo (ropFn n) s d p 8 = mixI n s d p := by
    have := refTo_eq (ropFn n) s.toNat d.toNat p.toNat (by omega) (by omega) (by omega)
    rw [Int.toNat_of_nonneg hs.1, Int.toNat_of_nonneg hd.1, Int.toNat_of_nonneg hp.1] at this
    exact this
  have hb := mixI_bd n s d p
  rw [← e] at hb ⊢
  refine CallP.intro2 au_pu au_pu ?_
  refine CallT.intro tab_ok Tryz.func130 rfl (by kernel_rfl) (Nat.le_of_ble_eq_true rfl) ?_
  refine VC.reg tab_ok [] rfl ?_
  refine VX.meek rfl ?_
  refine VX.nil ?_
  refine VC.reg tab_ok [] rfl ?_
  iterate 2 refine VX.meek rfl ?_
  refine VX.nil ?_
  refine VC.reg tab_ok [] rfl ?_
  refine VX.meek rfl ?_
  refine VX.meek (t := I64 s) (by show some (T.v (.int .i64 (IntKind.i64.wrap s)), (none : Option (Nat × List T))) = _; rw [wrap_in (by omega)]) ?_
  refine VX.meek rfl ?_
  refine VX.meek (t := I64 d) (by show some (T.v (.int .i64 (IntKind.i64.wrap d)), (none : Option (Nat × List T))) = _; rw [wrap_in (by omega)]) ?_
  refine VX.meek rfl ?_
  refine VX.meek (t := I64 p) (by show some (T.v (.int .i64 (IntKind.i64.wrap p)), (none : Option (Nat × List T))) = _; rw [wrap_in (by omega)]) ?_
  iterate 3 refine VX.meek rfl ?_
  refine VX.nil ?_
  refine VC.seq ?_
  refine VC.reg tab_ok [] rfl ?_
  refine VX.meek rfl ?_
  refine VX.nil ?_
  refine VC.block ?_
  refine VC.loopS (σ := Nat) (fun k => 8 - k) (fun k => k ≤ 8) (fun k => [(14, I64 k), (9, I64 (refTo (ropFn n) s d p k)), (10, I64 (pow2 k)), (11, I64 (halve k s)), (12, I64 (halve k d)), (13, I64 (halve k p))]) (fun _ => []) [0] rfl (0) ?_ ?_ ?_
  · refine ⟨[], rfl, by first | trivial | decide, rfl, ?_, ?_⟩ <;> (repeat' first | exact trivial | exact CvB_n | exact CvB_d | refine CvE_app ?_ ?_ | refine CvE_cons rfl ?_ ?_ | refine CvH_cons ?_ ?_ | refine CvB_c rfl ?_ | fail) <;> first | exact au_v | (skip)
  · (try dsimp only); omega
  rintro k hk
  refine VC.seq ?_
  refine VC.reg tab_ok [] rfl ?_
  iterate 2 refine VX.meek rfl ?_
  refine VX.nil ?_
  refine VC.cond rfl (fun hc0 => ?_) (fun hc0 => ?_)
  · (try simp only [au_std] at hc0); have hkl : k < 8 := (by omega); have hp2 := pow2_bd k hk; have hrb := refTo_bd (ropFn n) s d p k hk; have a1 := halve_nonneg k s hs.1; have a2 := halve_nonneg k d hd.1; have a3 := halve_nonneg k p hp.1; have b1 := halve_le k s hs.1; have b2 := halve_le k d hd.1; have b3 := halve_le k p hp.1
    refine VC.skip ?_
    refine VC.seq ?_
    refine VC.block ?_
    refine VC.reg tab_ok [] rfl ?_
    refine VX.meek rfl ?_
    first | refine VX.rem rfl rfl (by omega) (by omega) ?_ | refine VX.meek rfl ?_
    iterate 2 refine VX.meek rfl ?_
    refine VX.nil ?_
    refine VC.seq ?_
    refine VC.reg tab_ok [] rfl ?_
    refine VX.meek rfl ?_
    first | refine VX.rem rfl rfl (by omega) (by omega) ?_ | refine VX.meek rfl ?_
    refine VX.meek rfl ?_
    refine VX.nil ?_
    refine VC.cond rfl (fun hc1 => ?_) (fun hc1 => ?_)
    · have hbb : refBitAt (ropFn n) s d p k = ropFn n (halve k s % 2 == 1) (halve k d % 2 == 1) := if_pos hc1
      refine VC.regN tab_ok [] rfl ?_
      iterate 2 refine VX.meek rfl ?_
      first | refine VX.rem rfl rfl (by omega) (by omega) ?_ | refine VX.meek rfl ?_
      iterate 2 refine VX.meek rfl ?_
      refine VX.callP0 rfl rfl rfl (bit_p n _ _) ?_
      refine VX.meek rfl ?_
      refine VX.nil ?_
      refine VC.seq ?_
      refine VC.reg tab_ok [] rfl ?_
      refine VX.meek rfl ?_
      refine VX.nil ?_
      refine VC.cond rfl (fun hc2 => ?_) (fun hc2 => ?_)
      · have hsu : refTo (ropFn n) s d p (k + 1) = refTo (ropFn n) s d p k + pow2 k := if_pos (hbb.trans hc2)
        refine VC.regN tab_ok [] rfl ?_
        iterate 2 refine VX.meek rfl ?_
        first | refine VX.add rfl rfl (by omega) ?_ | refine VX.meek rfl ?_
        refine VX.meek rfl ?_
        refine VX.nil ?_
        refine VC.regN tab_ok [] rfl ?_
        refine VX.meek rfl ?_
        first | refine VX.quo rfl rfl (by omega) (by omega) (by omega) ?_ | refine VX.meek rfl ?_
        refine VX.meek rfl ?_
        first | refine VX.quo rfl rfl (by omega) (by omega) (by omega) ?_ | refine VX.meek rfl ?_
        refine VX.meek rfl ?_
        first | refine VX.quo rfl rfl (by omega) (by omega) (by omega) ?_ | refine VX.meek rfl ?_
        refine VX.meek rfl ?_
        first | refine VX.mul rfl rfl (by omega) ?_ | refine VX.meek rfl ?_
        iterate 4 refine VX.meek rfl ?_
        refine VX.nil ?_
        refine VC.regN tab_ok [] rfl ?_
        refine VX.meek rfl ?_
        first | refine VX.add rfl rfl (by omega) ?_ | refine VX.meek rfl ?_
        refine VX.meek rfl ?_
        refine VX.nil ?_
        refine ⟨k + 1, by (try dsimp only); omega, ?_, (by refine ⟨[], rfl, by first | trivial | decide, rfl, ?_, ?_⟩ <;> (repeat' first | exact trivial | exact CvB_n | exact CvB_d | refine CvE_app ?_ ?_ | refine CvE_cons rfl ?_ ?_ | refine CvH_cons ?_ ?_ | refine CvB_c rfl ?_ | fail) <;> first | exact au_v | (first | exact Cv.eq (congrArg I64 hsu.symm) rfl | exact Cv.pure rfl))⟩
        (try dsimp only); omega
      · have hsu : refTo (ropFn n) s d p (k + 1) = refTo (ropFn n) s d p k := if_neg (by rw [hbb, hc2]; simp)
        refine VC.skip ?_
        refine VC.regN tab_ok [] rfl ?_
        refine VX.meek rfl ?_
        first | refine VX.quo rfl rfl (by omega) (by omega) (by omega) ?_ | refine VX.meek rfl ?_
        refine VX.meek rfl ?_
        first | refine VX.quo rfl rfl (by omega) (by omega) (by omega) ?_ | refine VX.meek rfl ?_
        refine VX.meek rfl ?_
        first | refine VX.quo rfl rfl (by omega) (by omega) (by omega) ?_ | refine VX.meek rfl ?_
        refine VX.meek rfl ?_
        first | refine VX.mul rfl rfl (by omega) ?_ | refine VX.meek rfl ?_
        iterate 4 refine VX.meek rfl ?_
        refine VX.nil ?_
        refine VC.regN tab_ok [] rfl ?_
        refine VX.meek rfl ?_
        first | refine VX.add rfl rfl (by omega) ?_ | refine VX.meek rfl ?_
        refine VX.meek rfl ?_
        refine VX.nil ?_
        refine ⟨k + 1, by (try dsimp only); omega, ?_, (by refine ⟨[], rfl, by first | trivial | decide, rfl, ?_, ?_⟩ <;> (repeat' first | exact trivial | exact CvB_n | exact CvB_d | refine CvE_app ?_ ?_ | refine CvE_cons rfl ?_ ?_ | refine CvH_cons ?_ ?_ | refine CvB_c rfl ?_ | fail) <;> first | exact au_v | (first | exact Cv.eq (congrArg I64 hsu.symm) rfl | exact Cv.pure rfl))⟩
        (try dsimp only); omega
    · have hbb : refBitAt (ropFn n) s d p k = (halve k d % 2 == 1) := if_neg (by rw [hc1]; simp)
      refine VC.skip ?_
      refine VC.seq ?_
      refine VC.reg tab_ok [] rfl ?_
      refine VX.meek rfl ?_
      refine VX.nil ?_
      refine VC.cond rfl (fun hc2 => ?_) (fun hc2 => ?_)
      · have hsu : refTo (ropFn n) s d p (k + 1) = refTo (ropFn n) s d p k + pow2 k := if_pos (hbb.trans hc2)
        refine VC.regN tab_ok [] rfl ?_
        iterate 2 refine VX.meek rfl ?_
        first | refine VX.add rfl rfl (by omega) ?_ | refine VX.meek rfl ?_
        refine VX.meek rfl ?_
        refine VX.nil ?_
        refine VC.regN tab_ok [] rfl ?_
        refine VX.meek rfl ?_
        first | refine VX.quo rfl rfl (by omega) (by omega) (by omega) ?_ | refine VX.meek rfl ?_
        refine VX.meek rfl ?_
        first | refine VX.quo rfl rfl (by omega) (by omega) (by omega) ?_ | refine VX.meek rfl ?_
        refine VX.meek rfl ?_
        first | refine VX.quo rfl rfl (by omega) (by omega) (by omega) ?_ | refine VX.meek rfl ?_
        refine VX.meek rfl ?_
        first | refine VX.mul rfl rfl (by omega) ?_ | refine VX.meek rfl ?_
        iterate 4 refine VX.meek rfl ?_
        refine VX.nil ?_
        refine VC.regN tab_ok [] rfl ?_
        refine VX.meek rfl ?_
        first | refine VX.add rfl rfl (by omega) ?_ | refine VX.meek rfl ?_
        refine VX.meek rfl ?_
        refine VX.nil ?_
        refine ⟨k + 1, by (try dsimp only); omega, ?_, (by refine ⟨[], rfl, by first | trivial | decide, rfl, ?_, ?_⟩ <;> (repeat' first | exact trivial | exact CvB_n | exact CvB_d | refine CvE_app ?_ ?_ | refine CvE_cons rfl ?_ ?_ | refine CvH_cons ?_ ?_ | refine CvB_c rfl ?_ | fail) <;> first | exact au_v | (first | exact Cv.eq (congrArg I64 hsu.symm) rfl | exact Cv.pure rfl))⟩
        (try dsimp only); omega
      · have hsu : refTo (ropFn n) s d p (k + 1) = refTo (ropFn n) s d p k := if_neg (by rw [hbb, hc2]; simp)
        refine VC.skip ?_
        refine VC.regN tab_ok [] rfl ?_
        refine VX.meek rfl ?_
        first | refine VX.quo rfl rfl (by omega) (by omega) (by omega) ?_ | refine VX.meek rfl ?_
        refine VX.meek rfl ?_
        first | refine VX.quo rfl rfl (by omega) (by omega) (by omega) ?_ | refine VX.meek rfl ?_
        refine VX.meek rfl ?_
        first | refine VX.quo rfl rfl (by omega) (by omega) (by omega) ?_ | refine VX.meek rfl ?_
        refine VX.meek rfl ?_
        first | refine VX.mul rfl rfl (by omega) ?_ | refine VX.meek rfl ?_
        iterate 4 refine VX.meek rfl ?_
        refine VX.nil ?_
        refine VC.regN tab_ok [] rfl ?_
        refine VX.meek rfl ?_
        first | refine VX.add rfl rfl (by omega) ?_ | refine VX.meek rfl ?_
        refine VX.meek rfl ?_
        refine VX.nil ?_
        refine ⟨k + 1, by (try dsimp only); omega, ?_, (by refine ⟨[], rfl, by first | trivial | decide, rfl, ?_, ?_⟩ <;> (repeat' first | exact trivial | exact CvB_n | exact CvB_d | refine CvE_app ?_ ?_ | refine CvE_cons rfl ?_ ?_ | refine CvH_cons ?_ ?_ | refine CvB_c rfl ?_ | fail) <;> first | exact au_v | (first | exact Cv.eq (congrArg I64 hsu.symm) rfl | exact Cv.pure rfl))⟩
        (try dsimp only); omega
  · (try simp only [au_std] at hc0); obtain rfl : k = 8 := (by omega)
    refine VC.exit ?_
    refine VC.reg tab_ok [] rfl ?_
    refine VX.meek rfl ?_
    refine VX.meek (t := U8 (refTo (ropFn n) s d p 8)) (by show some (T.v (.int .u8 (IntKind.u8.wrap (refTo (ropFn n) s d p 8))), (none : Option (Nat × List T))) = _; rw [wrap_u8, Int.emod_eq_of_lt hb.1 (by omega)]) ?_
    refine VX.meek rfl ?_
    refine VX.nil ?_
    refine VC.ret ?_
    exact ⟨trivial, _, rfl, Cv.eq (by first | rfl | (simp [*]; done)) rfl⟩
end
section
open Go.RowKit Go.Sort
set_option linter.unusedSimpArgs false
set_option linter.unusedVariables false
set_option maxRecDepth 10000
section
variable {P : Program} {tab : Tab} {im : List Nat} {ops : Array Oper} {l : List Oper} {E : Env} {Hm F : Hp} {K : Env → Hp → Prop} {wd : List Bool} {d : Nat} {ty : TypeId} {pos : String} {after : Array Edge}
theorem VD.add {x y : Operand} {t t2 : Nat} {a b : Int} (hx : E.opd x = some (I64 a)) (hy : E.opd y = some (I64 b)) (h : -9223372036854775808 ≤ a + b ∧ a + b ≤ 9223372036854775807) (k : VD P tab im ops Hm l wd ((d, I64 (a + b)) :: E) F K) : VD P tab im ops Hm (⟨some d, .binOp .add t x y t2, ty, pos, after, none⟩ :: l) (false :: wd) E F K :=
  VD.meek (t := I64 (a + b)) (by simp only [opM, hx, hy, mBin, binInt, wrap_in h]; rfl) k
theorem VD.mul {x y : Operand} {t t2 : Nat} {a b : Int} (hx : E.opd x = some (I64 a)) (hy : E.opd y = some (I64 b)) (h : -9223372036854775808 ≤ a * b ∧ a * b ≤ 9223372036854775807) (k : VD P tab im ops Hm l wd ((d, I64 (a * b)) :: E) F K) : VD P tab im ops Hm (⟨some d, .binOp .mul t x y t2, ty, pos, after, none⟩ :: l) (false :: wd) E F K :=
  VD.meek (t := I64 (a * b)) (by simp only [opM, hx, hy, mBin, binInt, wrap_in h]; rfl) k
end
def atG (w h : Nat) (px : List Int) (x y : Int) : Int := if inB' w h x y = true then px[(y * w + x).toNat]! else 0
theorem inB_iff {w h : Nat} {x y : Int} : inB' w h x y = true ↔ 0 ≤ x ∧ x < w ∧ 0 ≤ y ∧ y < h := by unfold inB'; simp only [Bool.and_eq_true, decide_eq_true_eq]; omega
theorem at23_p (w h : Nat) (px : List Int) (x y : Int) (hw : w ≤ 128) (hh : h ≤ 128) (hl : px.length = w * h) : CallP Tryz.prog 75 [gT w h px, I64 x, I64 y] (U8 (atG w h px x y)) := by
  refine CallP.intro2 au_pu au_pu ?_
  refine CallT.intro tab_ok Tryz.func75 rfl (by kernel_rfl) (Nat.le_of_ble_eq_true rfl) ?_
  refine VC.reg tab_ok [3] rfl ?_
  refine VX.newI rfl rfl ?_
  refine VX.meek rfl ?_
  refine VX.nil ?_
  refine VC.seq ?_
  refine VC.reg tab_ok [] rfl ?_
  iterate 3 refine VX.meek rfl ?_
  refine' VX.merge (d := 12) [_, _, _] rfl ?_ rfl ?_
  rotate_left
  · refine VX.guard rfl rfl (fun hb1_2 => ?_) (fun hb1_2 => ?_)
    · have ghb1_2 := hb1_2
      try simp only [au_std, Bool.not_true, Bool.not_false] at ghb1_2
      refine VX.meek rfl ?_
      refine VX.guardT rfl rfl hb1_2 ?_
      refine VX.meek rfl ?_
      refine VX.pickO rfl (fun _ => rfl) ?_
      exact VX.nil ⟨rfl, rfl⟩
    · refine VX.guardF rfl rfl hb1_2 ?_
      exact VX.pickO rfl (fun h => absurd (h.symm.trans hb1_2) (by decide)) (VX.nil ⟨rfl, rfl⟩)
  refine VX.meek rfl ?_
  refine' VX.merge (d := 18) [_, _, _, _, _] rfl ?_ rfl ?_
  rotate_left
  · refine VX.guard rfl rfl (fun hb1_6 => ?_) (fun hb1_6 => ?_)
    · have ghb1_6 := hb1_6
      try simp only [au_std, Bool.not_true, Bool.not_false] at ghb1_6
      refine VX.meek rfl ?_
      refine VX.guardT rfl rfl hb1_6 ?_
      refine VX.meek rfl ?_
      refine VX.guardT rfl rfl hb1_6 ?_
      first | refine VX.meek rfl ?_ | refine VX.loadI rfl rfl au_l ?_ | refine VX.loadP rfl rfl rfl au_l ?_
      refine VX.guardT rfl rfl hb1_6 ?_
      refine VX.meek rfl ?_
      refine VX.pickO rfl (fun _ => rfl) ?_
      exact VX.nil ⟨rfl, rfl⟩
    · refine VX.guardF rfl rfl hb1_6 ?_
      refine VX.guardF rfl rfl hb1_6 ?_
      refine VX.guardF rfl rfl hb1_6 ?_
      exact VX.pickO rfl (fun h => absurd (h.symm.trans hb1_6) (by decide)) (VX.nil ⟨rfl, rfl⟩)
  refine VX.meek rfl ?_
  refine' VX.merge (d := 24) [_, _, _, _, _] rfl ?_ rfl ?_
  rotate_left
  · refine VX.guard rfl rfl (fun hb1_12 => ?_) (fun hb1_12 => ?_)
    · have ghb1_12 := hb1_12
      try simp only [au_std, Bool.not_true, Bool.not_false] at ghb1_12
      refine VX.meek rfl ?_
      refine VX.guardT rfl rfl hb1_12 ?_
      refine VX.meek rfl ?_
      refine VX.guardT rfl rfl hb1_12 ?_
      first | refine VX.meek rfl ?_ | refine VX.loadI rfl rfl au_l ?_ | refine VX.loadP rfl rfl rfl au_l ?_
      refine VX.guardT rfl rfl hb1_12 ?_
      refine VX.meek rfl ?_
      refine VX.pickO rfl (fun _ => rfl) ?_
      exact VX.nil ⟨rfl, rfl⟩
    · refine VX.guardF rfl rfl hb1_12 ?_
      refine VX.guardF rfl rfl hb1_12 ?_
      refine VX.guardF rfl rfl hb1_12 ?_
      exact VX.pickO rfl (fun h => absurd (h.symm.trans hb1_12) (by decide)) (VX.nil ⟨rfl, rfl⟩)
  refine VX.nil ?_
  refine VC.cond rfl (fun hc0 => ?_) (fun hc0 => ?_)
  · (try simp only [au_std] at hc0); have hres : atG w h px x y = 0 := if_neg (by rw [inB_iff]; omega)
    refine VC.reg tab_ok [] rfl ?_
    refine VX.meek rfl ?_
    refine VX.nil ?_
    refine VC.ret ?_
    exact ⟨trivial, _, rfl, Cv.eq (congrArg U8 hres.symm) rfl⟩
  · (try simp only [au_std] at hc0); have hin := in_place (x := x) (y := y) hw hh (by omega) (by omega) (by omega) (by omega); have hres : atG w h px x y = px[(y * w + x).toNat]! := if_pos (by rw [inB_iff]; omega)
    refine VC.skip ?_
    refine VC.reg tab_ok [] rfl ?_
    refine VX.meek rfl ?_
    first | refine VX.meek rfl ?_ | refine VX.loadI rfl rfl au_l ?_ | refine VX.loadP rfl rfl rfl au_l ?_
    iterate 2 refine VX.meek rfl ?_
    first | refine VX.meek rfl ?_ | refine VX.loadI rfl rfl au_l ?_ | refine VX.loadP rfl rfl rfl au_l ?_
    first | refine VX.mul rfl rfl (by omega) ?_ | refine VX.meek rfl ?_
    refine VX.meek rfl ?_
    first | refine VX.add rfl rfl (by omega) ?_ | refine VX.meek rfl ?_
    first | refine VX.idxI rfl rfl rfl rfl rfl rfl (by omega) ?_ | refine VX.idxO0 rfl rfl rfl rfl rfl rfl rfl (by omega) ?_ | refine VX.idxO0 rfl rfl rfl rfl rfl rfl au_z (by omega) ?_ | refine VX.idxO rfl rfl rfl rfl rfl rfl rfl (by omega) ?_ | refine VX.idxI rfl rfl rfl rfl rfl au_z (by omega) ?_ | refine VX.idxO rfl rfl rfl rfl rfl rfl au_z (by omega) ?_ | refine VX.meek rfl ?_
    first | refine VX.meek rfl ?_ | refine VX.loadI rfl rfl au_l ?_ | refine VX.loadP rfl rfl rfl au_l ?_
    refine VX.meek rfl ?_
    refine VX.nil ?_
    refine VC.ret ?_
    exact ⟨trivial, _, rfl, Cv.eq (congrArg U8 hres.symm) rfl⟩
theorem at23_t (w h : Nat) (px : List Int) (x y : Int) (c : Option Nat) (hw : w ≤ 128) (hh : h ≤ 128) (hl : px.length = w * h) : CallT Tryz.prog 75 [.agg [I64 w, I64 h, .slc 0 0 px.length 1 c], I64 x, I64 y] [.c (encL cU px)] (fun t H' => t = U8 (atG w h px x y) ∧ H' = [.c (encL cU px)]) := by
  refine CallT.intro tab_ok Tryz.func75 rfl (by kernel_rfl) (Nat.le_of_ble_eq_true rfl) ?_
  refine VC.reg tab_ok [3] rfl ?_
  refine VX.newI rfl rfl ?_
  refine VX.meek rfl ?_
  refine VX.nil ?_
  refine VC.seq ?_
  refine VC.reg tab_ok [] rfl ?_
  iterate 3 refine VX.meek rfl ?_
  refine' VX.merge (d := 12) [_, _, _] rfl ?_ rfl ?_
  rotate_left
  · refine VX.guard rfl rfl (fun hb1_2 => ?_) (fun hb1_2 => ?_)
    · have ghb1_2 := hb1_2
      try simp only [au_std, Bool.not_true, Bool.not_false] at ghb1_2
      refine VX.meek rfl ?_
      refine VX.guardT rfl rfl hb1_2 ?_
      refine VX.meek rfl ?_
      refine VX.pickO rfl (fun _ => rfl) ?_
      exact VX.nil ⟨rfl, rfl⟩
    · refine VX.guardF rfl rfl hb1_2 ?_
      exact VX.pickO rfl (fun h => absurd (h.symm.trans hb1_2) (by decide)) (VX.nil ⟨rfl, rfl⟩)
  refine VX.meek rfl ?_
  refine' VX.merge (d := 18) [_, _, _, _, _] rfl ?_ rfl ?_
  rotate_left
  · refine VX.guard rfl rfl (fun hb1_6 => ?_) (fun hb1_6 => ?_)
    · have ghb1_6 := hb1_6
      try simp only [au_std, Bool.not_true, Bool.not_false] at ghb1_6
      refine VX.meek rfl ?_
      refine VX.guardT rfl rfl hb1_6 ?_
      refine VX.meek rfl ?_
      refine VX.guardT rfl rfl hb1_6 ?_
      first | refine VX.meek rfl ?_ | refine VX.loadI rfl rfl au_l ?_ | refine VX.loadP rfl rfl rfl au_l ?_
      refine VX.guardT rfl rfl hb1_6 ?_
      refine VX.meek rfl ?_
      refine VX.pickO rfl (fun _ => rfl) ?_
      exact VX.nil ⟨rfl, rfl⟩
    · refine VX.guardF rfl rfl hb1_6 ?_
      refine VX.guardF rfl rfl hb1_6 ?_
      refine VX.guardF rfl rfl hb1_6 ?_
      exact VX.pickO rfl (fun h => absurd (h.symm.trans hb1_6) (by decide)) (VX.nil ⟨rfl, rfl⟩)
  refine VX.meek rfl ?_
  refine' VX.merge (d := 24) [_, _, _, _, _] rfl ?_ rfl ?_
  rotate_left
  · refine VX.guard rfl rfl (fun hb1_12 => ?_) (fun hb1_12 => ?_)
    · have ghb1_12 := hb1_12
      try simp only [au_std, Bool.not_true, Bool.not_false] at ghb1_12
      refine VX.meek rfl ?_
      refine VX.guardT rfl rfl hb1_12 ?_
      refine VX.meek rfl ?_
      refine VX.guardT rfl rfl hb1_12 ?_
      first | refine VX.meek rfl ?_ | refine VX.loadI rfl rfl au_l ?_ | refine VX.loadP rfl rfl rfl au_l ?_
      refine VX.guardT rfl rfl hb1_12 ?_
      refine VX.meek rfl ?_
      refine VX.pickO rfl (fun _ => rfl) ?_
      exact VX.nil ⟨rfl, rfl⟩
    · refine VX.guardF rfl rfl hb1_12 ?_
      refine VX.guardF rfl rfl hb1_12 ?_
      refine VX.guardF rfl rfl hb1_12 ?_
      exact VX.pickO rfl (fun h => absurd (h.symm.trans hb1_12) (by decide)) (VX.nil ⟨rfl, rfl⟩)
  refine VX.nil ?_
  refine VC.cond rfl (fun hc0 => ?_) (fun hc0 => ?_)
  · (try simp only [au_std] at hc0); have hres : atG w h px x y = 0 := if_neg (by rw [inB_iff]; omega)
    refine VC.reg tab_ok [] rfl ?_
    refine VX.meek rfl ?_
    refine VX.nil ?_
    refine VC.ret ?_
    exact ⟨trivial, _, rfl, congrArg U8 hres.symm, rfl⟩
  · (try simp only [au_std] at hc0); have hin := in_place (x := x) (y := y) hw hh (by omega) (by omega) (by omega) (by omega); have hres : atG w h px x y = px[(y * w + x).toNat]! := if_pos (by rw [inB_iff]; omega)
    refine VC.skip ?_
    refine VC.reg tab_ok [] rfl ?_
    refine VX.meek rfl ?_
    first | refine VX.meek rfl ?_ | refine VX.loadI rfl rfl au_l ?_ | refine VX.loadP rfl rfl rfl au_l ?_
    iterate 2 refine VX.meek rfl ?_
    first | refine VX.meek rfl ?_ | refine VX.loadI rfl rfl au_l ?_ | refine VX.loadP rfl rfl rfl au_l ?_
    first | refine VX.mul rfl rfl (by omega) ?_ | refine VX.meek rfl ?_
    refine VX.meek rfl ?_
    first | refine VX.add rfl rfl (by omega) ?_ | refine VX.meek rfl ?_
    first | refine VX.idxI rfl rfl rfl rfl rfl rfl (by omega) ?_ | refine VX.idxO0 rfl rfl rfl rfl rfl rfl rfl (by omega) ?_ | refine VX.idxO0 rfl rfl rfl rfl rfl rfl au_z (by omega) ?_ | refine VX.idxO rfl rfl rfl rfl rfl rfl rfl (by omega) ?_ | refine VX.idxI rfl rfl rfl rfl rfl au_z (by omega) ?_ | refine VX.idxO rfl rfl rfl rfl rfl rfl au_z (by omega) ?_ | refine VX.meek rfl ?_
    first | refine VX.meek rfl ?_ | refine VX.loadI rfl rfl au_l ?_ | refine VX.loadP rfl rfl rfl au_l ?_
    refine VX.meek rfl ?_
    refine VX.nil ?_
    refine VC.ret ?_
    exact ⟨trivial, _, rfl, congrArg U8 hres.symm, rfl⟩
abbrev inkT (f pl p : Int) : T := .agg [I64 f, U8 pl, U8 p]
theorem paint23_t (w h : Nat) (s : List Int) (x y f pl p : Int) (c : Option Nat) (hw : w ≤ 128) (hh : h ≤ 128) (hs : s.length = w * h) (hb : ∀ v ∈ s, 0 ≤ v ∧ v < 256) (hx : 0 ≤ x) (hx2 : x < w) (hy : 0 ≤ y) (hy2 : y < h) (hp : 0 ≤ p ∧ p < 256) (hpl : 0 ≤ pl ∧ pl < 256) :
    CallT Tryz.prog 92 [.agg [I64 w, I64 h, .slc 0 0 s.length 1 c], I64 x, I64 y, inkT f pl p] [.c (encL cU s)] (fun t H' => t = .tup [] ∧ H' = [.c (encL cU (s.set (y * w + x).toNat (mixI f p s[(y * w + x).toNat]! pl)))]) := by
  have hin := in_place hw hh hx hx2 hy hy2
  have hv := bang_bd hb (y * w + x).toNat
  have hat : atG w h s x y = s[(y * w + x).toNat]! := if_pos (inB_iff.2 ⟨hx, hx2, hy, hy2⟩)
  have hat2 := at23_t w h s x y c hw hh hs
  rw [hat] at hat2
  refine CallT.intro tab_ok Tryz.func92 rfl (by kernel_rfl) (Nat.le_of_ble_eq_true rfl) ?_
  refine VC.reg tab_ok [4, 7] rfl ?_
  refine VX.newI rfl rfl ?_
  refine VX.newI rfl rfl ?_
  refine VX.nil ?_
  refine VC.drwCN tab_ok [] [_, _, _, _, _, _, _, _, _, _, _, _, _, _, _, _, _, _, _] ([.d]) [false, false, false, false, false, false, false, false, false, false, false, false, false, false, false, true, false, false, false] rfl (by kernel_rfl) (by kernel_rfl) (by kernel_rfl) (by repeat' first | exact seen_nil | refine seen_dead ?_ | refine seen_same ?_) ?_
  refine VD.meek rfl ?_
  refine VD.meek rfl ?_
  refine VD.meek rfl ?_
  refine VD.meek rfl ?_
  refine VD.meek rfl ?_
  refine VD.mul rfl rfl (by omega) ?_
  refine VD.meek rfl ?_
  refine VD.add rfl rfl (by omega) ?_
  refine VD.meek rfl ?_
  refine VD.meek rfl ?_
  refine VD.meek rfl ?_
  refine VD.meek rfl ?_
  refine VD.meek rfl ?_
  refine VD.meek rfl ?_
  refine VD.meek rfl ?_
  refine VD.call (t := U8 s[(y * w + x).toNat]!) (F1 := [.c (encL cU s)]) rfl rfl ?_ ?_ ?_
  · refine CallT.frame (hat2) [0] rfl au_ci au_ci ?_
    rintro _ _ ⟨rfl, rfl⟩
    refine frK au_co au_co ?_
    exact ⟨rfl, rfl⟩
  · exact (by repeat' first | exact seen_nil | refine seen_dead ?_ | refine seen_same ?_)
  refine VD.meek rfl ?_
  refine VD.meek rfl ?_
  refine VD.callP rfl rfl (mix18_p f p _ pl hp hv hpl) ?_
  refine VD.nil ?_
  first | refine VX.idxI rfl rfl rfl rfl rfl rfl (by omega) ?_ | refine VX.idxO0 rfl rfl rfl rfl rfl rfl rfl (by omega) ?_ | refine VX.idxO0 rfl rfl rfl rfl rfl rfl au_z (by omega) ?_ | refine VX.idxO rfl rfl rfl rfl rfl rfl rfl (by omega) ?_ | refine VX.idxI rfl rfl rfl rfl rfl au_z (by omega) ?_ | refine VX.idxO rfl rfl rfl rfl rfl rfl au_z (by omega) ?_ | refine VX.meek rfl ?_
  refine VX.store rfl rfl rfl rfl rfl (by rw [encL_len, cU_sz]; dsimp only; omega) rfl ?_
  refine VX.nil ?_
  exact ⟨trivial, _, rfl, rfl, by rw [← cells_put (by omega)]; rfl⟩
theorem mApp_empty {tab : Tab} {H : Hp} {t1 t2 : Nat} {y : T} {i j : TyI} {e n2 : Nat} {ys : List T} {cs : List T} (hT : tab t1 = some i) (hk : i.k = .sl e) (hj : tab e = some j) (hs : srcCells tab (lookH H) t2 j.sz y = some (ys, n2)) (h2 : n2 * j.by_ ≤ 2 ^ 47) (h3 : n2 ≤ 2 ^ 47) (h4 : n2 * j.sz = ys.length) :
    mAppend tab H t1 t2 (.islc cs 0 (some 0)) y = some (.slc H.length 0 n2 j.sz none, H ++ [.c ys]) := by
  simp only [mAppend, hT, hk, hj, hs]
  rw [if_pos ⟨h2, h3, h4⟩]
theorem copied_t (w h : Nat) (px : List Int) (hl : px.length ≤ 100000) : CallT Tryz.prog 88 [gT w h px] [] (fun t H' => t = .agg [I64 w, I64 h, .slc 1 0 px.length 1 none] ∧ H' = [.c [I64 w, I64 h, .slc 1 0 px.length 1 none], .c (encL cU px)]) := by
  refine CallT.intro tab_ok Tryz.func88 rfl (by kernel_rfl) (Nat.le_of_ble_eq_true rfl) ?_
  refine VC.reg tab_ok [1] rfl ?_
  refine VX.newI rfl rfl ?_
  refine VX.new rfl rfl ?_
  refine VX.nil ?_
  refine VC.drwC tab_ok [7] [_, _, _, _, _, _, _, _] ([.c [I64 0, I64 0, NIL]]) [false, false, false, false, false, false, false, true] rfl (by kernel_rfl) (by kernel_rfl) (by kernel_rfl) (by repeat' first | exact seen_nil | refine seen_dead ?_ | refine seen_same ?_) ?_
  refine VD.meek rfl ?_
  refine VD.meek rfl ?_
  refine VD.meek rfl ?_
  refine VD.meek rfl ?_
  refine VD.newI rfl ?_
  refine VD.meek rfl ?_
  refine VD.meek rfl ?_
  refine VD.app rfl rfl (mApp_empty rfl rfl rfl (src_isl cU rfl rfl rfl) (by dsimp only; omega) (by omega) (by rw [encL_len]; rfl)) (seen_same seen_nil) ?_
  refine VD.nil ?_
  refine VX.meek rfl ?_
  refine VX.store rfl rfl rfl rfl rfl au_sR rfl ?_
  refine VX.nil ?_
  refine VC.ret ?_
  exact ⟨trivial, _, rfl, rfl, rfl⟩
end
section
open Go.RowKit Go.Sort
set_option linter.unusedSimpArgs false
set_option linter.unusedVariables false
set_option maxRecDepth 10000
def mixQ (f p pl : Int) : Int → Int → Int → Int := fun _ _ o => mixI f p o pl
theorem mixQ_bd (f p pl : Int) : ∀ x y o, 0 ≤ o ∧ o < 256 → 0 ≤ mixQ f p pl x y o ∧ mixQ f p pl x y o < 256 := fun x y o _ => by have := mixI_bd f p o pl; unfold mixQ; omega
def visV (V : Int → Int → Prop) (y x : Int) (a b : Int) : Prop := V a b ∧ (b < y ∨ (b = y ∧ a < x))
theorem paint23_n (w h : Nat) (s : List Int) (x y f pl p : Int) (n : Nat) (hn : s.length = n) (hw : w ≤ 128) (hh : h ≤ 128) (hs : s.length = w * h) (hb : ∀ v ∈ s, 0 ≤ v ∧ v < 256) (hx : 0 ≤ x) (hx2 : x < w) (hy : 0 ≤ y) (hy2 : y < h) (hp : 0 ≤ p ∧ p < 256) (hpl : 0 ≤ pl ∧ pl < 256) :
    CallT Tryz.prog 92 [.agg [I64 w, I64 h, .slc 0 0 n 1 none], I64 x, I64 y, inkT f pl p] [.c (encL cU s)] (fun t H' => t = .tup [] ∧ H' = [.c (encL cU (s.set (y * w + x).toNat (mixI f p s[(y * w + x).toNat]! pl)))]) := by
  subst hn; exact paint23_t w h s x y f pl p none hw hh hs hb hx hx2 hy hy2 hp hpl
theorem region23_q (w h : Nat) (px : List Int) (clip what : List Rect) (tl : List T) (htl : T.pureL tl = true) (f pl p : Int) (hw : w ≤ 128) (hh : h ≤ 128) (hl : px.length = w * h) (hb : ∀ v ∈ px, 0 ≤ v ∧ v < 256) (hcn : clip.length ≤ 1048576) (hwn : what.length ≤ 1048576) (hp : 0 ≤ p ∧ p < 256) (hpl : 0 ≤ pl ∧ pl < 256) :
    CallP Tryz.prog 27 [gT w h px, .islc (encL cR clip) clip.length none, .islc (encL cR what ++ tl) what.length none, inkT f pl p] (gT w h (paintL w (fun a b => inL (clip.filter countsB) a b ∧ inL (what.filter countsB) a b) (mixQ f p pl) px)) := by
  have hpu : T.pureL [gT w h px, .islc (encL cR clip) clip.length none, .islc (encL cR what ++ tl) what.length none, inkT f pl p] = true := by simp only [T.pureL, T.pure, pureL_app, encL_pure, htl]; rfl
  have hpr : T.pure (gT w h (paintL w (fun a b => inL (clip.filter countsB) a b ∧ inL (what.filter countsB) a b) (mixQ f p pl) px)) = true := by simp only [T.pureL, T.pure, encL_pure]; rfl
  have hwh : w * h ≤ 128 * 128 := Nat.mul_le_mul hw hh
  refine CallP.intro2 hpu hpr ?_
  generalize hV : (fun a b => inL (clip.filter countsB) a b ∧ inL (what.filter countsB) a b) = V
  have hV2 : ∀ a b, V a b ↔ inL (clip.filter countsB) a b ∧ inL (what.filter countsB) a b := fun a b => by rw [← hV]
  have hlen : ∀ y x, (paintL w (visV V y x) (mixQ f p pl) px).length = px.length := fun y x => paintL_len _ _ _ _
  have hgp : T.pureL [I64 w, I64 h, .islc (encL cU px) px.length none] = true := by simp only [T.pureL, T.pure, encL_pure, Bool.and_self]
  refine CallT.intro tab_ok Tryz.func27 rfl (by kernel_rfl) (Nat.le_of_ble_eq_true rfl) ?_
  refine VC.reg tab_ok [4, 7] rfl ?_
  refine VX.newI rfl rfl ?_
  refine VX.newI rfl rfl ?_
  refine VX.new rfl rfl ?_
  refine VX.nil ?_
  refine VC.reg tab_ok [] rfl ?_
  first | refine VX.meek rfl ?_ | refine VX.loadI rfl rfl au_l ?_ | refine VX.loadP rfl rfl rfl au_l ?_
  refine VX.callT rfl rfl (CallT.frame (copied_t w h px (by omega)) [] rfl au_ci au_ci ?_)
  rintro _ _ ⟨rfl, rfl⟩
  refine frK au_co au_co ?_
  refine VX.new rfl rfl ?_
  refine VX.store rfl rfl rfl rfl rfl au_sR rfl ?_
  refine VX.nil ?_
  refine VC.seq ?_
  refine VC.reg tab_ok [] rfl ?_
  refine VX.meek rfl ?_
  refine VX.nil ?_
  refine VC.block ?_
  refine VC.loopS (σ := Nat) (fun y => h - y) (fun y => y ≤ h) (fun y => [(10, I64 y), (8, .ptr 0 0), (9, .ptr 1 0)]) (fun y => [.c [I64 0, I64 0, NIL], .c [I64 w, I64 h, .slc 2 0 px.length 1 none], .c (encL cU (paintL w (visV V y 0) (mixQ f p pl) px))]) [1, 2, 4, 7] rfl (0) ?_ ?_ ?_
  · refine ⟨[some 0, some 3, some 2], rfl, by first | trivial | decide, rfl, ?_, ?_⟩ <;> (repeat' first | exact trivial | exact CvB_n | exact CvB_d | refine CvE_app ?_ ?_ | refine CvE_cons rfl ?_ ?_ | refine CvH_cons ?_ ?_ | refine CvB_c rfl ?_ | fail) <;> first | exact au_v | (first | exact Cv.pure hgp | exact cv_g (Cv.slc rfl (.inl rfl)) | (refine CvL.eq (congrArg (encL cU) ?_) (encL_pure cU _); exact (paint_none hl (fun a b _ _ _ _ hh => by unfold visV at hh; omega)).symm) | exact Cv.pure (by show T.pure (.islc (encL cR what ++ tl) what.length none) = true; simp only [T.pure, pureL_app, encL_pure, htl]; rfl))
  · (try dsimp only); omega
  rintro y hy
  refine VC.seq ?_
  refine VC.reg tab_ok [] rfl ?_
  iterate 2 refine VX.meek rfl ?_
  first | refine VX.meek rfl ?_ | refine VX.loadI rfl rfl au_l ?_ | refine VX.loadP rfl rfl rfl au_l ?_
  refine VX.meek rfl ?_
  refine VX.nil ?_
  refine VC.cond rfl (fun hc0 => ?_) (fun hc0 => ?_)
  · (try simp only [au_std] at hc0); have hyl : y < h := (by omega)
    refine VC.skip ?_
    refine VC.seq ?_
    refine VC.block ?_
    refine VC.reg tab_ok [] rfl ?_
    refine VX.meek rfl ?_
    refine VX.nil ?_
    refine VC.block ?_
    refine VC.loopS (σ := Nat) (fun x => w - x) (fun x => x ≤ w) (fun x => [(11, I64 x), (8, .ptr 0 0), (9, .ptr 1 0)]) (fun x => [.c [I64 0, I64 0, NIL], .c [I64 w, I64 h, .slc 2 0 px.length 1 none], .c (encL cU (paintL w (visV V y x) (mixQ f p pl) px))]) [1, 2, 4, 7, 10] rfl (0) ?_ ?_ ?_
    · refine ⟨[some 0, some 1, some 2], rfl, by first | trivial | decide, rfl, ?_, ?_⟩ <;> (repeat' first | exact trivial | exact CvB_n | exact CvB_d | refine CvE_app ?_ ?_ | refine CvE_cons rfl ?_ ?_ | refine CvH_cons ?_ ?_ | refine CvB_c rfl ?_ | fail) <;> first | exact au_v | (first | exact Cv.pure hgp | exact cv_g (Cv.slc rfl (.inl rfl)) | exact Cv.pure (by show T.pure (.islc (encL cR what ++ tl) what.length none) = true; simp only [T.pure, pureL_app, encL_pure, htl]; rfl))
    · (try dsimp only); omega
    rintro x hx
    refine VC.seq ?_
    refine VC.reg tab_ok [] rfl ?_
    iterate 2 refine VX.meek rfl ?_
    first | refine VX.meek rfl ?_ | refine VX.loadI rfl rfl au_l ?_ | refine VX.loadP rfl rfl rfl au_l ?_
    refine VX.meek rfl ?_
    refine VX.nil ?_
    refine VC.cond rfl (fun hc1 => ?_) (fun hc1 => ?_)
    · (try simp only [au_std] at hc1); have hxl : x < w := (by omega); have hpi := place_lt (x := (x : Int)) (y := (y : Int)) (by omega) (by omega) (by omega) (show (y : Int) < h by omega); have hln := hlen y x
      refine VC.skip ?_
      refine VC.seq ?_
      refine VC.block ?_
      refine VC.reg tab_ok [] rfl ?_
      iterate 3 refine VX.meek rfl ?_
      refine VX.callP0 rfl rfl rfl (in23_p clip x y hcn) ?_
      refine VX.meek rfl ?_
      refine' VX.merge (d := 35) [_, _, _, _, _] rfl ?_ rfl ?_
      rotate_left
      · refine VX.guard rfl rfl (fun hb8_4 => ?_) (fun hb8_4 => ?_)
        · have ghb8_4 := hb8_4
          try simp only [au_std, Bool.not_true, Bool.not_false] at ghb8_4
          refine VX.meek rfl ?_
          refine VX.guardT rfl rfl hb8_4 ?_
          refine VX.meek rfl ?_
          refine VX.guardT rfl rfl hb8_4 ?_
          refine VX.meek rfl ?_
          refine VX.guardT rfl rfl hb8_4 ?_
          refine VX.callP0 rfl rfl rfl (in23_q what tl htl x y hwn) ?_
          refine VX.pickA rfl (fun _ => rfl) ?_
          exact VX.nil ⟨rfl, rfl⟩
        · refine VX.guardF rfl rfl hb8_4 ?_
          refine VX.guardF rfl rfl hb8_4 ?_
          refine VX.guardF rfl rfl hb8_4 ?_
          exact VX.pickA rfl (fun h => absurd (h.symm.trans hb8_4) (by decide)) (VX.nil ⟨rfl, rfl⟩)
      refine VX.nil ?_
      refine VC.cond rfl (fun hc2 => ?_) (fun hc2 => ?_)
      · simp only [Bool.and_eq_true, decide_eq_true_eq] at hc2; have hVx := (hV2 x y).2 hc2
        have hst : (paintL w (visV V y x) (mixQ f p pl) px).set ((y : Int) * w + x).toNat (mixI f p (paintL w (visV V y x) (mixQ f p pl) px)[((y : Int) * w + x).toNat]! pl) = paintL w (visV V y (x + 1 : Nat)) (mixQ f p pl) px := paint_put hl (by omega) (by omega) (by omega) (show (y : Int) < h by omega) (by
          rw [paintL_not ⟨by omega, by omega⟩ (by omega) (by omega) (by unfold visV; omega)]; rfl) (fun a b _ _ _ _ => by
            unfold visV
            by_cases hab : a = x ∧ b = y
            · obtain ⟨rfl, rfl⟩ := hab; exact ⟨fun _ => .inr ⟨rfl, rfl⟩, fun _ => ⟨hVx, .inr ⟨rfl, by omega⟩⟩⟩
            · by_cases hv : V a b
              · simp only [hv, true_and]; omega
              · simp only [hv, false_and, false_or]; exact ⟨fun k => k.elim, fun k => absurd k hab⟩)
        refine VC.regN tab_ok [] rfl ?_
        first | refine VX.meek rfl ?_ | refine VX.loadI rfl rfl au_l ?_ | refine VX.loadP rfl rfl rfl au_l ?_
        iterate 2 refine VX.meek rfl ?_
        first | refine VX.meek rfl ?_ | refine VX.loadI rfl rfl au_l ?_ | refine VX.loadP rfl rfl rfl au_l ?_
        refine VX.callT rfl rfl (CallT.frame (paint23_n w h (paintL w (visV V y x) (mixQ f p pl) px) x y f pl p px.length hln hw hh (by rw [hln, hl]) (paintL_bd hb (mixQ_bd f p pl)) (by omega) (by omega) (by omega) (by omega) hp hpl) [2] rfl au_ci au_ci ?_)
        rintro _ _ ⟨rfl, rfl⟩
        refine frK au_co au_co ?_
        refine VX.nil ?_
        refine VC.regN tab_ok [] rfl ?_
        refine VX.meek rfl ?_
        first | refine VX.add rfl rfl (by omega) ?_ | refine VX.meek rfl ?_
        refine VX.meek rfl ?_
        refine VX.nil ?_
        refine ⟨x + 1, by (try dsimp only); omega, ?_, (by refine ⟨[some 0, some 1, some 2], rfl, by first | trivial | decide, rfl, ?_, ?_⟩ <;> (repeat' first | exact trivial | exact CvB_n | exact CvB_d | refine CvE_app ?_ ?_ | refine CvE_cons rfl ?_ ?_ | refine CvH_cons ?_ ?_ | refine CvB_c rfl ?_ | fail) <;> first | exact au_v | (first | exact Cv.pure hgp | exact cv_g (Cv.slc rfl (.inl rfl)) | exact CvL.eq (congrArg (encL cU) hst) (encL_pure cU _) | exact Cv.pure (by show T.pure (.islc (encL cR what ++ tl) what.length none) = true; simp only [T.pure, pureL_app, encL_pure, htl]; rfl)))⟩
        (try dsimp only); omega
      · have hVx : ¬ V x y := (fun k => by have k2 := (hV2 x y).1 k; rw [decide_eq_true k2.1, decide_eq_true k2.2] at hc2; cases hc2)
        have hst : paintL w (visV V y x) (mixQ f p pl) px = paintL w (visV V y (x + 1 : Nat)) (mixQ f p pl) px := paint_congr hl (fun a b _ _ _ _ => by
          unfold visV
          by_cases hab : a = x ∧ b = y
          · obtain ⟨rfl, rfl⟩ := hab; simp only [hVx, false_and]
          · by_cases hv : V a b
            · simp only [hv, true_and]; omega
            · simp only [hv, false_and]) (fun _ _ _ _ _ _ _ => rfl)
        refine VC.skip ?_
        refine VC.regN tab_ok [] rfl ?_
        refine VX.meek rfl ?_
        first | refine VX.add rfl rfl (by omega) ?_ | refine VX.meek rfl ?_
        refine VX.meek rfl ?_
        refine VX.nil ?_
        refine ⟨x + 1, by (try dsimp only); omega, ?_, (by refine ⟨[some 0, some 1, some 2], rfl, by first | trivial | decide, rfl, ?_, ?_⟩ <;> (repeat' first | exact trivial | exact CvB_n | exact CvB_d | refine CvE_app ?_ ?_ | refine CvE_cons rfl ?_ ?_ | refine CvH_cons ?_ ?_ | refine CvB_c rfl ?_ | fail) <;> first | exact au_v | (first | exact Cv.pure hgp | exact cv_g (Cv.slc rfl (.inl rfl)) | exact CvL.eq (congrArg (encL cU) hst) (encL_pure cU _) | exact Cv.pure (by show T.pure (.islc (encL cR what ++ tl) what.length none) = true; simp only [T.pure, pureL_app, encL_pure, htl]; rfl)))⟩
        (try dsimp only); omega
    · (try simp only [au_std] at hc1); have hxw : (x : Int) = w := (by omega)
      refine VC.exit ?_
      refine VC.regN tab_ok [] rfl ?_
      refine VX.meek rfl ?_
      first | refine VX.add rfl rfl (by omega) ?_ | refine VX.meek rfl ?_
      refine VX.meek rfl ?_
      refine VX.nil ?_
      refine ⟨y + 1, by (try dsimp only); omega, ?_, (by refine ⟨[some 0, some 1, some 2], rfl, by first | trivial | decide, rfl, ?_, ?_⟩ <;> (repeat' first | exact trivial | exact CvB_n | exact CvB_d | refine CvE_app ?_ ?_ | refine CvE_cons rfl ?_ ?_ | refine CvH_cons ?_ ?_ | refine CvB_c rfl ?_ | fail) <;> first | exact au_v | (first | exact Cv.pure hgp | exact cv_g (Cv.slc rfl (.inl rfl)) | (refine CvL.eq (congrArg (encL cU) ?_) (encL_pure cU _); exact paint_congr hl (fun a b h1 h2 h3 h4 => by unfold visV; by_cases hv : V a b; simp only [hv, true_and]; omega; simp only [hv, false_and]) (fun _ _ _ _ _ _ _ => rfl)) | exact Cv.pure (by show T.pure (.islc (encL cR what ++ tl) what.length none) = true; simp only [T.pure, pureL_app, encL_pure, htl]; rfl)))⟩
      (try dsimp only); omega
  · (try simp only [au_std] at hc0); obtain rfl : h = y := (by omega); have hfin : paintL w (visV V h 0) (mixQ f p pl) px = paintL w V (mixQ f p pl) px := paint_congr hl (fun a b h1 h2 h3 h4 => by unfold visV; by_cases hv : V a b; simp only [hv, true_and, true_iff]; omega; simp only [hv, false_and]) (fun _ _ _ _ _ _ _ => rfl)
    rw [hfin]; have hfl := paintL_len w V (mixQ f p pl) px
    refine VC.exit ?_
    refine VC.reg tab_ok [] rfl ?_
    first | refine VX.meek rfl ?_ | refine VX.loadI rfl rfl au_l ?_ | refine VX.loadP rfl rfl rfl au_l ?_
    refine VX.store rfl rfl rfl rfl rfl au_sR rfl ?_
    refine VX.nil ?_
    refine VC.ret ?_
    refine ⟨trivial, _, rfl, Cv.agg (cv_g ?_)⟩; rw [hfl]; exact Cv.fslc0 ⟨rfl, by simp⟩ (CvL.pure (encL_pure cU _))
theorem region23_p (w h : Nat) (px : List Int) (clip what : List Rect) (f pl p : Int) (hw : w ≤ 128) (hh : h ≤ 128) (hl : px.length = w * h) (hb : ∀ v ∈ px, 0 ≤ v ∧ v < 256) (hcn : clip.length ≤ 1048576) (hwn : what.length ≤ 1048576) (hp : 0 ≤ p ∧ p < 256) (hpl : 0 ≤ pl ∧ pl < 256) :
    CallP Tryz.prog 27 [gT w h px, .islc (encL cR clip) clip.length none, .islc (encL cR what) what.length none, inkT f pl p] (gT w h (paintL w (fun a b => inL (clip.filter countsB) a b ∧ inL (what.filter countsB) a b) (mixQ f p pl) px)) := by
  have := region23_q w h px clip what [] rfl f pl p hw hh hl hb hcn hwn hp hpl
  rwa [List.append_nil] at this
end
section
open Go.RowKit Go.Sort
set_option linter.unusedSimpArgs false
set_option linter.unusedVariables false
set_option maxRecDepth 10000
end
section
open Go.RowKit Go.Sort
set_option linter.unusedSimpArgs false
set_option linter.unusedVariables false
set_option maxRecDepth 10000
theorem gnew_p (w h : Nat) (p : Int) (hw : 1 ≤ w ∧ w ≤ 128) (hh : 1 ≤ h ∧ h ≤ 128) : CallP Tryz.prog 62 [I64 w, I64 h, U8 p] (.tup [gT w h (List.replicate (w * h) p), I64 0]) := new_yes w h p hw hh
theorem gset_n (w h : Nat) (px : List Int) (n : Nat) (hn : px.length = n) (x y p : Int) (hw : w ≤ 128) (hh : h ≤ 128) (hl : px.length = w * h) (hb : ∀ v ∈ px, 0 ≤ v ∧ v < 256) (hx : 0 ≤ x ∧ x < w) (hy : 0 ≤ y ∧ y < h) :
    CallP Tryz.prog 63 [.agg [I64 w, I64 h, .islc (encL cU px) n none], I64 x, I64 y, U8 p] (.agg [I64 w, I64 h, .islc (encL cU (px.set (y * w + x).toNat p)) n none]) := by
  have k := gset_p ⟨w, h, px⟩ ⟨hw, hh, hl, hb⟩ x y p
  have e : Pic.set ⟨w, h, px⟩ x y p = ⟨w, h, px.set (y * w + x).toNat p⟩ := if_pos (show inB' w h x y = true from inB_iff.2 ⟨hx.1, hx.2, hy.1, hy.2⟩)
  rw [e] at k
  subst hn
  have k2 : CallP Tryz.prog 63 [gT w h px, I64 x, I64 y, U8 p] (gT w h (px.set (y * w + x).toNat p)) := k
  simp only [gT, List.length_set] at k2
  exact k2
theorem gat_p (w h : Nat) (px : List Int) (x y : Int) (hw : w ≤ 128) (hh : h ≤ 128) (hl : px.length = w * h) (hb : ∀ v ∈ px, 0 ≤ v ∧ v < 256) : CallP Tryz.prog 48 [gT w h px, I64 x, I64 y] (U8 (atG w h px x y)) := at_p ⟨w, h, px⟩ ⟨hw, hh, hl, hb⟩ x y
def putF (w : Nat) (px : List Int) : Int → Int → Int → Int := fun a b _ => px[(b * w + a).toNat]!
theorem repl_bd (n : Nat) : ∀ v ∈ List.replicate n (0 : Int), 0 ≤ v ∧ v < 256 := fun v hv => by rw [List.eq_of_mem_replicate hv]; omega
theorem repl_at (n i : Nat) : (List.replicate n (0 : Int))[i]! = 0 := by
  rw [List.getElem!_eq_getElem?_getD, List.getElem?_replicate]; split <;> rfl
theorem of23_p (w h : Nat) (px : List Int) (hw : 1 ≤ w ∧ w ≤ 128) (hh : 1 ≤ h ∧ h ≤ 128) (hl : px.length = w * h) (hb : ∀ v ∈ px, 0 ≤ v ∧ v < 256) : CallP Tryz.prog 19 [gT w h px] (gT w h px) := by
  have hpf : ∀ x y o, 0 ≤ o ∧ o < 256 → 0 ≤ putF w px x y o ∧ putF w px x y o < 256 := fun x y o _ => bang_bd hb _
  have hz : (List.replicate (w * h) (0 : Int)).length = w * h := List.length_replicate
  have hlen : ∀ y x, (paintL w (visV (fun _ _ => True) y x) (putF w px) (List.replicate (w * h) 0)).length = w * h := fun y x => by rw [paintL_len, hz]
  refine CallP.intro2 au_pu au_pu ?_
  refine CallT.intro tab_ok Tryz.func19 rfl (by kernel_rfl) (Nat.le_of_ble_eq_true rfl) ?_
  refine VC.reg tab_ok [1] rfl ?_
  refine VX.newI rfl rfl ?_
  refine VX.new rfl rfl ?_
  refine VX.nil ?_
  refine VC.reg tab_ok [] rfl ?_
  refine VX.meek rfl ?_
  first | refine VX.meek rfl ?_ | refine VX.loadI rfl rfl au_l ?_ | refine VX.loadP rfl rfl rfl au_l ?_
  refine VX.meek rfl ?_
  first | refine VX.meek rfl ?_ | refine VX.loadI rfl rfl au_l ?_ | refine VX.loadP rfl rfl rfl au_l ?_
  refine VX.callP0 rfl rfl rfl (gnew_p w h 0 hw hh) ?_
  iterate 3 refine VX.meek rfl ?_
  refine VX.new rfl rfl ?_
  refine VX.store rfl rfl rfl rfl rfl au_sR rfl ?_
  refine VX.meek rfl ?_
  refine VX.nil ?_
  refine VC.seq ?_
  refine VC.reg tab_ok [] rfl ?_
  refine VX.meek rfl ?_
  refine VX.nil ?_
  refine VC.block ?_
  refine VC.loopS (σ := Nat) (fun y => h - y) (fun y => y ≤ h) (fun y => [(5, I64 y), (2, .ptr 0 0), (3, .ptr 1 0)]) (fun y => [.c [I64 0, I64 0, NIL], .c [I64 w, I64 h, .islc (encL cU (paintL w (visV (fun _ _ => True) y 0) (putF w px) (List.replicate (w * h) 0))) (w * h) none]]) [1] rfl (0) ?_ ?_ ?_
  · refine ⟨[some 0, some 1], rfl, by first | trivial | decide, rfl, ?_, ?_⟩ <;> (repeat' first | exact trivial | exact CvB_n | exact CvB_d | refine CvE_app ?_ ?_ | refine CvE_cons rfl ?_ ?_ | refine CvH_cons ?_ ?_ | refine CvB_c rfl ?_ | fail) <;> first | exact au_v | (first | exact CvL.pure rfl | (refine cv_g (Cv.eq ?_ (encL_pure cU _)); rw [paint_none (h := h) hz (fun a b _ _ _ _ hh => by unfold visV at hh; omega), hz]))
  · (try dsimp only); omega
  rintro y hy
  refine VC.seq ?_
  refine VC.reg tab_ok [] rfl ?_
  iterate 2 refine VX.meek rfl ?_
  first | refine VX.meek rfl ?_ | refine VX.loadI rfl rfl au_l ?_ | refine VX.loadP rfl rfl rfl au_l ?_
  refine VX.meek rfl ?_
  refine VX.nil ?_
  refine VC.cond rfl (fun hc0 => ?_) (fun hc0 => ?_)
  · (try simp only [au_std] at hc0); have hyl : y < h := (by omega)
    refine VC.skip ?_
    refine VC.seq ?_
    refine VC.block ?_
    refine VC.reg tab_ok [] rfl ?_
    refine VX.meek rfl ?_
    refine VX.nil ?_
    refine VC.block ?_
    refine VC.loopS (σ := Nat) (fun x => w - x) (fun x => x ≤ w) (fun x => [(6, I64 x), (2, .ptr 0 0), (3, .ptr 1 0)]) (fun x => [.c [I64 0, I64 0, NIL], .c [I64 w, I64 h, .islc (encL cU (paintL w (visV (fun _ _ => True) y x) (putF w px) (List.replicate (w * h) 0))) (w * h) none]]) [1, 5] rfl (0) ?_ ?_ ?_
    · refine ⟨[some 0, some 1], rfl, by first | trivial | decide, rfl, ?_, ?_⟩ <;> (repeat' first | exact trivial | exact CvB_n | exact CvB_d | refine CvE_app ?_ ?_ | refine CvE_cons rfl ?_ ?_ | refine CvH_cons ?_ ?_ | refine CvB_c rfl ?_ | fail) <;> first | exact au_v | (first | exact CvL.pure rfl | exact cv_g (Cv.pure (encL_pure cU _)))
    · (try dsimp only); omega
    rintro x hx
    refine VC.seq ?_
    refine VC.reg tab_ok [] rfl ?_
    iterate 2 refine VX.meek rfl ?_
    first | refine VX.meek rfl ?_ | refine VX.loadI rfl rfl au_l ?_ | refine VX.loadP rfl rfl rfl au_l ?_
    refine VX.meek rfl ?_
    refine VX.nil ?_
    refine VC.cond rfl (fun hc1 => ?_) (fun hc1 => ?_)
    · (try simp only [au_std] at hc1); have hxl : x < w := (by omega); have hpi := place_lt (x := (x : Int)) (y := (y : Int)) (by omega) (by omega) (by omega) (show (y : Int) < h by omega)
      have hat : atG w h px x y = px[((y : Int) * w + x).toNat]! := if_pos (inB_iff.2 ⟨by omega, by omega, by omega, by omega⟩)
      have hvv : ∀ a b : Int, visV (fun _ _ => True) y (x + 1 : Nat) a b ↔ visV (fun _ _ => True) y x a b ∨ (a = x ∧ b = y) := (fun a b => by unfold visV; simp only [true_and]; omega)
      have hst : (paintL w (visV (fun _ _ => True) y x) (putF w px) (List.replicate (w * h) 0)).set ((y : Int) * w + x).toNat px[((y : Int) * w + x).toNat]! = paintL w (visV (fun _ _ => True) y (x + 1 : Nat)) (putF w px) (List.replicate (w * h) 0) := paint_put hz (by omega) (by omega) (by omega) (show (y : Int) < h by omega) rfl (fun a b _ _ _ _ => hvv a b)
      have hls := hlen y x
      refine VC.skip ?_
      refine VC.seq ?_
      refine VC.block ?_
      refine VC.reg tab_ok [] rfl ?_
      first | refine VX.meek rfl ?_ | refine VX.loadI rfl rfl au_l ?_ | refine VX.loadP rfl rfl rfl au_l ?_
      iterate 2 refine VX.meek rfl ?_
      refine VX.callP0 rfl rfl rfl ((show CallP Tryz.prog 75 [gT w h px, I64 x, I64 y] (U8 px[((y : Int) * w + x).toNat]!) from hat ▸ at23_p w h px x y hw.2 hh.2 hl)) ?_
      refine VX.meek rfl ?_
      refine VX.nil ?_
      refine VC.reg tab_ok [] rfl ?_
      iterate 2 refine VX.meek rfl ?_
      refine VX.nil ?_
      refine VC.cond rfl (fun hc2 => ?_) (fun hc2 => ?_)
      · (try simp only [au_std] at hc2)
        refine VC.regN tab_ok [] rfl ?_
        first | refine VX.meek rfl ?_ | refine VX.loadI rfl rfl au_l ?_ | refine VX.loadP rfl rfl rfl au_l ?_
        iterate 3 refine VX.meek rfl ?_
        refine VX.callP0 rfl rfl rfl (gset_n w h (paintL w (visV (fun _ _ => True) y x) (putF w px) (List.replicate (w * h) 0)) (w * h) hls x y px[((y : Int) * w + x).toNat]! hw.2 hh.2 hls (paintL_bd (repl_bd _) hpf) ⟨by omega, by omega⟩ ⟨by omega, by omega⟩) ?_
        refine VX.store rfl rfl rfl rfl rfl au_sR rfl ?_
        refine VX.nil ?_
        refine VC.regN tab_ok [] rfl ?_
        refine VX.meek rfl ?_
        first | refine VX.add rfl rfl (by omega) ?_ | refine VX.meek rfl ?_
        refine VX.meek rfl ?_
        refine VX.nil ?_
        refine ⟨x + 1, by (try dsimp only); omega, ?_, (by refine ⟨[some 0, some 1], rfl, by first | trivial | decide, rfl, ?_, ?_⟩ <;> (repeat' first | exact trivial | exact CvB_n | exact CvB_d | refine CvE_app ?_ ?_ | refine CvE_cons rfl ?_ ?_ | refine CvH_cons ?_ ?_ | refine CvB_c rfl ?_ | fail) <;> first | exact au_v | (first | exact CvL.pure rfl | (rw [← hst]; exact cv_g (Cv.pure (encL_pure cU _)))))⟩
        (try dsimp only); omega
      · (try simp only [au_std] at hc2); have hst2 : paintL w (visV (fun _ _ => True) y x) (putF w px) (List.replicate (w * h) 0) = paintL w (visV (fun _ _ => True) y (x + 1 : Nat)) (putF w px) (List.replicate (w * h) 0) := (by
          rw [← hst, hc2]
          refine listI_ext (by rw [List.length_set]) fun i hi => ?_
          rw [bang_set]
          split
          · rename_i hh
            rw [← hh.1, paintL_not ⟨by omega, by omega⟩ (by omega) (by rw [hz]; omega) (by unfold visV; simp only [true_and]; omega), repl_at]
          · rfl)
        refine VC.skip ?_
        refine VC.regN tab_ok [] rfl ?_
        refine VX.meek rfl ?_
        first | refine VX.add rfl rfl (by omega) ?_ | refine VX.meek rfl ?_
        refine VX.meek rfl ?_
        refine VX.nil ?_
        refine ⟨x + 1, by (try dsimp only); omega, ?_, (by refine ⟨[some 0, some 1], rfl, by first | trivial | decide, rfl, ?_, ?_⟩ <;> (repeat' first | exact trivial | exact CvB_n | exact CvB_d | refine CvE_app ?_ ?_ | refine CvE_cons rfl ?_ ?_ | refine CvH_cons ?_ ?_ | refine CvB_c rfl ?_ | fail) <;> first | exact au_v | (first | exact CvL.pure rfl | (rw [← hst2]; exact cv_g (Cv.pure (encL_pure cU _)))))⟩
        (try dsimp only); omega
    · (try simp only [au_std] at hc1); have hxw : (x : Int) = w := (by omega)
      refine VC.exit ?_
      refine VC.regN tab_ok [] rfl ?_
      refine VX.meek rfl ?_
      first | refine VX.add rfl rfl (by omega) ?_ | refine VX.meek rfl ?_
      refine VX.meek rfl ?_
      refine VX.nil ?_
      refine ⟨y + 1, by (try dsimp only); omega, ?_, (by refine ⟨[some 0, some 1], rfl, by first | trivial | decide, rfl, ?_, ?_⟩ <;> (repeat' first | exact trivial | exact CvB_n | exact CvB_d | refine CvE_app ?_ ?_ | refine CvE_cons rfl ?_ ?_ | refine CvH_cons ?_ ?_ | refine CvB_c rfl ?_ | fail) <;> first | exact au_v | (first | exact CvL.pure rfl | (refine cv_g (Cv.eq ?_ (encL_pure cU _)); rw [paint_congr (V := visV (fun _ _ => True) y x) (V' := visV (fun _ _ => True) (y + 1 : Nat) 0) (f := putF w px) (g := putF w px) hz (fun a b h1 h2 h3 h4 => by unfold visV; simp only [true_and]; omega) (fun _ _ _ _ _ _ _ => rfl)])))⟩
      (try dsimp only); omega
  · (try simp only [au_std] at hc0); obtain rfl : h = y := (by omega); have hfin : paintL w (visV (fun _ _ => True) h 0) (putF w px) (List.replicate (w * h) 0) = px := px_ext (h := h) (by rw [paintL_len, hz]) hl (fun a b h1 h2 h3 h4 => by
      have := (place_lt h1 h2 h3 h4).1
      rw [paintL_yes ⟨h1, h2⟩ h3 (by rw [hz]; omega) (by unfold visV; simp only [true_and]; omega)]; rfl)
    rw [hfin]
    refine VC.exit ?_
    refine VC.reg tab_ok [] rfl ?_
    first | refine VX.meek rfl ?_ | refine VX.loadI rfl rfl au_l ?_ | refine VX.loadP rfl rfl rfl au_l ?_
    refine VX.store rfl rfl rfl rfl rfl au_sR rfl ?_
    refine VX.nil ?_
    refine VC.ret ?_
    refine ⟨trivial, _, rfl, Cv.agg (cv_g ?_)⟩; rw [hl]; exact Cv.pure (encL_pure cU _)
theorem same23_p (w h : Nat) (a : List Int) (hw : w ≤ 128) (hh : h ≤ 128) (hl : a.length = w * h) (hb : ∀ v ∈ a, 0 ≤ v ∧ v < 256) : CallP Tryz.prog 21 [gT w h a, gT w h a] (BL true) := by
  refine CallP.intro2 au_pu au_pu ?_
  refine CallT.intro tab_ok Tryz.func21 rfl (by kernel_rfl) (Nat.le_of_ble_eq_true rfl) ?_
  refine VC.reg tab_ok [2, 3] rfl ?_
  refine VX.newI rfl rfl ?_
  refine VX.newI rfl rfl ?_
  refine VX.meek rfl ?_
  refine VX.nil ?_
  refine VC.reg tab_ok [] rfl ?_
  first | refine VX.meek rfl ?_ | refine VX.loadI rfl rfl au_l ?_ | refine VX.loadP rfl rfl rfl au_l ?_
  refine VX.callP0 rfl rfl rfl ((show CallP Tryz.prog 54 [gT w h a] (.tup [I64 w, I64 h]) from size_p ⟨w, h, a⟩)) ?_
  iterate 5 refine VX.meek rfl ?_
  refine VX.nil ?_
  refine VC.seq ?_
  refine VC.reg tab_ok [] rfl ?_
  iterate 2 refine VX.meek rfl ?_
  first | refine VX.meek rfl ?_ | refine VX.loadI rfl rfl au_l ?_ | refine VX.loadP rfl rfl rfl au_l ?_
  iterate 2 refine VX.meek rfl ?_
  refine' VX.merge (d := 23) [_, _, _, _, _] rfl ?_ rfl ?_
  rotate_left
  · refine VX.guard rfl rfl (fun hb2_4 => ?_) (fun hb2_4 => ?_)
    · have ghb2_4 := hb2_4
      try simp only [au_std, Bool.not_true, Bool.not_false] at ghb2_4
      refine VX.meek rfl ?_
      refine VX.guardT rfl rfl hb2_4 ?_
      refine VX.meek rfl ?_
      refine VX.guardT rfl rfl hb2_4 ?_
      first | refine VX.meek rfl ?_ | refine VX.loadI rfl rfl au_l ?_ | refine VX.loadP rfl rfl rfl au_l ?_
      refine VX.guardT rfl rfl hb2_4 ?_
      refine VX.meek rfl ?_
      refine VX.pickO rfl (fun _ => rfl) ?_
      exact VX.nil ⟨rfl, rfl⟩
    · refine VX.guardF rfl rfl hb2_4 ?_
      refine VX.guardF rfl rfl hb2_4 ?_
      refine VX.guardF rfl rfl hb2_4 ?_
      exact VX.pickO rfl (fun h => absurd (h.symm.trans hb2_4) (by decide)) (VX.nil ⟨rfl, rfl⟩)
  refine VX.nil ?_
  refine VC.cond rfl (fun hc0 => ?_) (fun hc0 => ?_)
  · exact absurd hc0 (by simp)
  · (try simp only [au_std] at hc0)
    refine VC.skip ?_
    refine VC.seq ?_
    refine VC.reg tab_ok [] rfl ?_
    refine VX.meek rfl ?_
    refine VX.nil ?_
    refine VC.block ?_
    refine VC.loopS (σ := Nat) (fun y => h - y) (fun y => y ≤ h) (fun y => [(7, I64 y)]) (fun _ => []) [2, 3, 5, 6] rfl (0) ?_ ?_ ?_
    · refine ⟨[], rfl, by first | trivial | decide, rfl, ?_, ?_⟩ <;> (repeat' first | exact trivial | exact CvB_n | exact CvB_d | refine CvE_app ?_ ?_ | refine CvE_cons rfl ?_ ?_ | refine CvH_cons ?_ ?_ | refine CvB_c rfl ?_ | fail) <;> first | exact au_v | (skip)
    · (try dsimp only); omega
    rintro y hy
    refine VC.seq ?_
    refine VC.reg tab_ok [] rfl ?_
    iterate 3 refine VX.meek rfl ?_
    refine VX.nil ?_
    refine VC.cond rfl (fun hc1 => ?_) (fun hc1 => ?_)
    · (try simp only [au_std] at hc1)
      refine VC.skip ?_
      refine VC.seq ?_
      refine VC.block ?_
      refine VC.reg tab_ok [] rfl ?_
      refine VX.meek rfl ?_
      refine VX.nil ?_
      refine VC.block ?_
      refine VC.loopS (σ := Nat) (fun x => w - x) (fun x => x ≤ w) (fun x => [(8, I64 x)]) (fun _ => []) [2, 3, 5, 6, 7] rfl (0) ?_ ?_ ?_
      · refine ⟨[], rfl, by first | trivial | decide, rfl, ?_, ?_⟩ <;> (repeat' first | exact trivial | exact CvB_n | exact CvB_d | refine CvE_app ?_ ?_ | refine CvE_cons rfl ?_ ?_ | refine CvH_cons ?_ ?_ | refine CvB_c rfl ?_ | fail) <;> first | exact au_v | (skip)
      · (try dsimp only); omega
      rintro x hx
      refine VC.seq ?_
      refine VC.reg tab_ok [] rfl ?_
      iterate 3 refine VX.meek rfl ?_
      refine VX.nil ?_
      refine VC.cond rfl (fun hc2 => ?_) (fun hc2 => ?_)
      · (try simp only [au_std] at hc2)
        refine VC.skip ?_
        refine VC.seq ?_
        refine VC.block ?_
        refine VC.drw tab_ok [] [_, _, _, _, _, _, _, _, _] rfl (by kernel_rfl) (by kernel_rfl) ?_
        first | refine VX.meek rfl ?_ | refine VX.loadI rfl rfl au_l ?_ | refine VX.loadP rfl rfl rfl au_l ?_
        iterate 2 refine VX.meek rfl ?_
        refine VX.callP0 rfl rfl rfl (gat_p w h a x y hw hh hl hb) ?_
        first | refine VX.meek rfl ?_ | refine VX.loadI rfl rfl au_l ?_ | refine VX.loadP rfl rfl rfl au_l ?_
        iterate 2 refine VX.meek rfl ?_
        refine VX.callP0 rfl rfl rfl (at23_p w h a x y hw hh hl) ?_
        refine VX.meek rfl ?_
        refine VX.nil ?_
        refine VX.nil ?_
        refine VC.cond rfl (fun hc3 => ?_) (fun hc3 => ?_)
        · exact absurd hc3 (by simp)
        · (try simp only [au_std] at hc3)
          refine VC.skip ?_
          refine VC.regN tab_ok [] rfl ?_
          refine VX.meek rfl ?_
          first | refine VX.add rfl rfl (by omega) ?_ | refine VX.meek rfl ?_
          refine VX.meek rfl ?_
          refine VX.nil ?_
          refine ⟨x + 1, by (try dsimp only); omega, ?_, (by refine ⟨[], rfl, by first | trivial | decide, rfl, ?_, ?_⟩ <;> (repeat' first | exact trivial | exact CvB_n | exact CvB_d | refine CvE_app ?_ ?_ | refine CvE_cons rfl ?_ ?_ | refine CvH_cons ?_ ?_ | refine CvB_c rfl ?_ | fail) <;> first | exact au_v | (fail))⟩
          (try dsimp only); omega
      · (try simp only [au_std] at hc2)
        refine VC.exit ?_
        refine VC.regN tab_ok [] rfl ?_
        refine VX.meek rfl ?_
        first | refine VX.add rfl rfl (by omega) ?_ | refine VX.meek rfl ?_
        refine VX.meek rfl ?_
        refine VX.nil ?_
        refine ⟨y + 1, by (try dsimp only); omega, ?_, (by refine ⟨[], rfl, by first | trivial | decide, rfl, ?_, ?_⟩ <;> (repeat' first | exact trivial | exact CvB_n | exact CvB_d | refine CvE_app ?_ ?_ | refine CvE_cons rfl ?_ ?_ | refine CvH_cons ?_ ?_ | refine CvB_c rfl ?_ | fail) <;> first | exact au_v | (fail))⟩
        (try dsimp only); omega
    · (try simp only [au_std] at hc1)
      refine VC.exit ?_
      refine VC.reg tab_ok [] rfl ?_
      refine VX.meek rfl ?_
      refine VX.nil ?_
      refine VC.ret ?_
      exact ⟨trivial, _, rfl, Cv.eq (by first | rfl | (simp [*]; done)) rfl⟩
end
section
open Go.RowKit Go.Sort
set_option linter.unusedSimpArgs false
set_option linter.unusedVariables false
set_option maxRecDepth 10000
def padL (P : List Int) (n : Nat) : List Int := (List.range n).map fun i => if i < P.length then P[i]! else 0
theorem padL_len (P : List Int) (n : Nat) : (padL P n).length = n := by simp [padL]
theorem padL_snoc (P : List Int) (n : Nat) : padL P (n + 1) = padL P n ++ [if n < P.length then P[n]! else 0] := by unfold padL; rw [List.range_succ, List.map_append]; rfl
theorem padL_bd {P : List Int} (hb : ∀ v ∈ P, 0 ≤ v ∧ v < 256) (n : Nat) : ∀ v ∈ padL P n, 0 ≤ v ∧ v < 256 := fun v hv => by
  unfold padL at hv
  obtain ⟨i, hi, rfl⟩ := List.mem_map.1 hv
  split
  · exact bang_bd hb _
  · exact ⟨by decide, by decide⟩
theorem canvas_p (cw ch : Nat) (P : List Int) (hw : cw < 256) (hh : ch < 256) (hb : ∀ v ∈ P, 0 ≤ v ∧ v < 256) :
    CallP Tryz.prog 17 [.agg [U8 cw, U8 ch, .islc (encL cU P) P.length none]] (gT (cw % 12 + 1) (ch % 12 + 1) (padL P ((cw % 12 + 1) * (ch % 12 + 1)))) := by
  have hwh : (cw % 12 + 1) * (ch % 12 + 1) ≤ 12 * 12 := Nat.mul_le_mul (by omega) (by omega)
  generalize hW : cw % 12 + 1 = W at *
  generalize hH : ch % 12 + 1 = H at *
  have hm : (W : Int) * (H : Int) = ((W * H : Nat) : Int) := (Int.natCast_mul W H).symm
  have hw12 : W ≤ 12 := by omega
  have hh12 : H ≤ 12 := by omega
  refine CallP.intro2 au_pu au_pu ?_
  refine CallT.intro tab_ok Tryz.func17 rfl (by kernel_rfl) (Nat.le_of_ble_eq_true rfl) ?_
  refine VC.reg tab_ok [1] rfl ?_
  refine VX.newI rfl rfl ?_
  refine VX.new rfl rfl ?_
  refine VX.nil ?_
  refine VC.reg tab_ok [] rfl ?_
  refine VX.meek rfl ?_
  first | refine VX.meek rfl ?_ | refine VX.loadI rfl rfl au_l ?_ | refine VX.loadP rfl rfl rfl au_l ?_
  refine VX.meek (t := I64 cw) (by show some (T.v (.int .i64 (IntKind.i64.wrap (cw : Int))), (none : Option (Nat × List T))) = _; rw [wrap_in (by omega)]) ?_
  refine VX.rem rfl rfl (by omega) (by omega) ?_
  refine VX.add rfl rfl (by omega) ?_; rw [show (cw : Int) % 12 + 1 = (W : Int) from by omega]
  refine VX.meek rfl ?_
  first | refine VX.meek rfl ?_ | refine VX.loadI rfl rfl au_l ?_ | refine VX.loadP rfl rfl rfl au_l ?_
  refine VX.meek (t := I64 ch) (by show some (T.v (.int .i64 (IntKind.i64.wrap (ch : Int))), (none : Option (Nat × List T))) = _; rw [wrap_in (by omega)]) ?_
  refine VX.rem rfl rfl (by omega) (by omega) ?_
  refine VX.add rfl rfl (by omega) ?_; rw [show (ch : Int) % 12 + 1 = (H : Int) from by omega]
  refine VX.meek rfl ?_
  refine VX.new rfl rfl ?_
  refine VX.store rfl rfl rfl rfl rfl au_sR rfl ?_
  refine VX.nil ?_
  refine VC.view ([(2, .ptr 0 0), (3, .ptr 1 0)]) ([.c [I64 0, I64 0, NIL], .c [I64 W, I64 H, NIL]]) [1] rfl (by refine ⟨[some 0, some 1], rfl, by first | trivial | decide, rfl, ?_, ?_⟩ <;> (repeat' first | exact trivial | exact CvB_n | exact CvB_d | refine CvE_app ?_ ?_ | refine CvE_cons rfl ?_ ?_ | refine CvH_cons ?_ ?_ | refine CvB_c rfl ?_ | fail) <;> first | exact au_v | (exact CvL.eq rfl rfl)) ?_
  refine VC.seq ?_
  refine VC.reg tab_ok [] rfl ?_
  refine VX.meek rfl ?_
  refine VX.nil ?_
  refine VC.block ?_
  refine VC.loopS2 (σ1 := Nat) (σ2 := List T) (fun i _ => W * H - i) (fun i tl => i ≤ W * H ∧ T.pureL tl = true) (fun i _ => [(4, I64 i), (2, .ptr 0 0), (3, .ptr 1 0)]) (fun i tl => [.c [I64 0, I64 0, NIL], .c [I64 W, I64 H, .slc 2 0 (padL P i).length 1 none], .c (encL cU (padL P i) ++ tl)]) [1] rfl (0) ([]) ?_ ?_ ?_
  · refine ⟨[some 0, some 1, none], rfl, by first | trivial | decide, rfl, ?_, ?_⟩ <;> (repeat' first | exact trivial | exact CvB_n | exact CvB_d | refine CvE_app ?_ ?_ | refine CvE_cons rfl ?_ ?_ | refine CvH_cons ?_ ?_ | refine CvB_c rfl ?_ | fail) <;> first | exact au_v | (first | exact CvL.pure rfl | exact CvL.cons (Cv.pure rfl) (CvL.cons (Cv.pure rfl) (CvL.cons (Cv.nilv rfl) CvL.nil)))
  · exact ⟨by omega, rfl⟩
  rintro i tl ⟨hi, htl⟩
  refine VC.seq ?_
  refine VC.reg tab_ok [] rfl ?_
  iterate 2 refine VX.meek rfl ?_
  first | refine VX.meek rfl ?_ | refine VX.loadI rfl rfl au_l ?_ | refine VX.loadP rfl rfl rfl au_l ?_
  refine VX.meek rfl ?_
  first | refine VX.meek rfl ?_ | refine VX.loadI rfl rfl au_l ?_ | refine VX.loadP rfl rfl rfl au_l ?_
  first | refine VX.mul rfl rfl (by omega) ?_ | refine VX.meek rfl ?_
  refine VX.meek rfl ?_
  refine VX.nil ?_
  refine VC.cond rfl (fun hc0 => ?_) (fun hc0 => ?_)
  · (try simp only [au_std] at hc0); have hil : i < W * H := (by omega); have hpl := padL_len P i; have hsn := padL_snoc P i; have hcl : (encL cU (padL P i) ++ tl).length = i + tl.length := (by rw [List.length_append, encL_len, cU_sz, hpl, Nat.mul_one])
    refine VC.skip ?_
    refine VC.seq ?_
    refine VC.block ?_
    refine VC.reg tab_ok [] rfl ?_
    refine VX.meek rfl ?_
    refine VX.nil ?_
    refine VC.seq ?_
    refine VC.reg tab_ok [] rfl ?_
    iterate 2 refine VX.meek rfl ?_
    first | refine VX.meek rfl ?_ | refine VX.loadI rfl rfl au_l ?_ | refine VX.loadP rfl rfl rfl au_l ?_
    iterate 2 refine VX.meek rfl ?_
    refine VX.nil ?_
    refine VC.cond rfl (fun hc1 => ?_) (fun hc1 => ?_)
    · (try simp only [au_std] at hc1); have hiP : i < P.length := (by omega); rw [if_pos hiP] at hsn
      refine VC.regN tab_ok [] rfl ?_
      refine VX.meek rfl ?_
      first | refine VX.meek rfl ?_ | refine VX.loadI rfl rfl au_l ?_ | refine VX.loadP rfl rfl rfl au_l ?_
      refine VX.meek rfl ?_
      first | refine VX.idxI rfl rfl rfl rfl rfl rfl (by omega) ?_ | refine VX.idxO0 rfl rfl rfl rfl rfl rfl rfl (by omega) ?_ | refine VX.idxO0 rfl rfl rfl rfl rfl rfl au_z (by omega) ?_ | refine VX.idxO rfl rfl rfl rfl rfl rfl rfl (by omega) ?_ | refine VX.idxI rfl rfl rfl rfl rfl au_z (by omega) ?_ | refine VX.idxO rfl rfl rfl rfl rfl rfl au_z (by omega) ?_ | refine VX.meek rfl ?_
      first | refine VX.meek rfl ?_ | refine VX.loadI rfl rfl au_l ?_ | refine VX.loadP rfl rfl rfl au_l ?_
      refine VX.meek rfl ?_
      refine VX.nil ?_
      refine VC.regN tab_ok [39] rfl ?_
      refine VX.meek rfl ?_
      first | refine VX.meek rfl ?_ | refine VX.loadI rfl rfl au_l ?_ | refine VX.loadP rfl rfl rfl au_l ?_
      refine VX.meek rfl ?_
      refine VX.newI rfl rfl ?_
      refine VX.append rfl rfl rfl rfl rfl rfl rfl rfl (by rw [hcl, hpl]; omega) (by rw [hpl]; dsimp only; omega) (by rw [hpl]; omega) rfl rfl ?_
      refine VX.meek rfl ?_
      refine VX.store rfl rfl rfl rfl rfl au_sR rfl ?_
      refine VX.nil ?_
      refine VC.regN tab_ok [] rfl ?_
      refine VX.meek rfl ?_
      first | refine VX.add rfl rfl (by omega) ?_ | refine VX.meek rfl ?_
      refine VX.meek rfl ?_
      refine VX.nil ?_
      refine ⟨i + 1, [], by (try dsimp only); omega, ?_, (by refine ⟨[some 0, some 1, some 3], rfl, by first | trivial | decide, rfl, ?_, ?_⟩ <;> (repeat' first | exact trivial | exact CvB_n | exact CvB_d | refine CvE_app ?_ ?_ | refine CvE_cons rfl ?_ ?_ | refine CvH_cons ?_ ?_ | refine CvB_c rfl ?_ | fail) <;> first | exact au_v | (first | exact CvL.pure rfl | (refine cv_g (Cv.slcE rfl ?_ (.inl rfl)); rw [hsn, List.length_append]; rfl) | (refine CvL.eq ?_ ?_; (rw [hsn]; exact app_one cU rfl rfl rfl); (rw [List.append_nil]; exact encL_pure cU _))))⟩
      exact ⟨by omega, rfl⟩
    · (try simp only [au_std] at hc1); have hiP : ¬ i < P.length := (by omega); rw [if_neg hiP] at hsn
      refine VC.skip ?_
      refine VC.regN tab_ok [39] rfl ?_
      refine VX.meek rfl ?_
      first | refine VX.meek rfl ?_ | refine VX.loadI rfl rfl au_l ?_ | refine VX.loadP rfl rfl rfl au_l ?_
      refine VX.meek rfl ?_
      refine VX.newI rfl rfl ?_
      refine VX.append rfl rfl rfl rfl rfl rfl rfl rfl (by rw [hcl, hpl]; omega) (by rw [hpl]; dsimp only; omega) (by rw [hpl]; omega) rfl rfl ?_
      refine VX.meek rfl ?_
      refine VX.store rfl rfl rfl rfl rfl au_sR rfl ?_
      refine VX.nil ?_
      refine VC.regN tab_ok [] rfl ?_
      refine VX.meek rfl ?_
      first | refine VX.add rfl rfl (by omega) ?_ | refine VX.meek rfl ?_
      refine VX.meek rfl ?_
      refine VX.nil ?_
      refine ⟨i + 1, [], by (try dsimp only); omega, ?_, (by refine ⟨[some 0, some 1, some 3], rfl, by first | trivial | decide, rfl, ?_, ?_⟩ <;> (repeat' first | exact trivial | exact CvB_n | exact CvB_d | refine CvE_app ?_ ?_ | refine CvE_cons rfl ?_ ?_ | refine CvH_cons ?_ ?_ | refine CvB_c rfl ?_ | fail) <;> first | exact au_v | (first | exact CvL.pure rfl | (refine cv_g (Cv.slcE rfl ?_ (.inl rfl)); rw [hsn, List.length_append]; rfl) | (refine CvL.eq ?_ ?_; (rw [hsn]; exact app_one cU rfl rfl rfl); (rw [List.append_nil]; exact encL_pure cU _))))⟩
      exact ⟨by omega, rfl⟩
  · (try simp only [au_std] at hc0); obtain rfl : i = W * H := (by omega)
    refine VC.exit ?_
    refine VC.reg tab_ok [] rfl ?_
    first | refine VX.meek rfl ?_ | refine VX.loadI rfl rfl au_l ?_ | refine VX.loadP rfl rfl rfl au_l ?_
    refine VX.store rfl rfl rfl rfl rfl au_sR rfl ?_
    refine VX.nil ?_
    refine VC.ret ?_
    refine ⟨trivial, _, rfl, Cv.agg (cv_g (Cv.fslcA ⟨rfl, by simp⟩ (CvL.pure (encL_pure cU _))))⟩
def plainS (op pl fo ba : Int) : PenS := ⟨bitV .and .i64 op 15, pl, fo, ba, 0, 0, 0, false, []⟩
theorem and15 (n : Int) : 0 ≤ bitV .and .i64 n 15 ∧ bitV .and .i64 n 15 ≤ 15 := by
  have e : bitV .and .i64 n 15 = IntKind.i64.wrap (((BitVec.ofInt 64 n) &&& (BitVec.ofInt 64 15)).toNat : Int) := rfl
  have h : ((BitVec.ofInt 64 n) &&& (BitVec.ofInt 64 15)).toNat ≤ 15 := by
    rw [BitVec.toNat_and]
    exact Nat.le_trans Nat.and_le_right (by decide)
  rw [e, wrap_in (by omega)]
  omega
theorem plain_known (op pl fo ba : Int) : ropKnown (plainS op pl fo ba).f = true := by
  have := and15 op
  unfold ropKnown plainS; simp; omega
theorem plain_ok (op pl fo ba : Int) : PenOk (plainS op pl fo ba) := ⟨plain_known op pl fo ba, by simp [plainS, placeB], by simp [plainS, placeB], .inr rfl, by simp [plainS], by simp [plainS]⟩
theorem newPen_p : CallP Tryz.prog 60 [] (penT ⟨3, 255, 0, 1, 0, 0, 0, false, []⟩) := by
  refine CallP.intro2 au_pu au_pu ?_
  refine CallT.intro tab_ok Tryz.func60 rfl (by kernel_rfl) (Nat.le_of_ble_eq_true rfl) ?_
  refine VC.reg tab_ok [] rfl ?_
  refine VX.new rfl rfl ?_
  refine VX.nil ?_
  refine VC.reg tab_ok [] rfl ?_
  refine VX.meek rfl ?_
  refine VX.store rfl rfl rfl rfl rfl au_sR rfl ?_
  refine VX.nil ?_
  refine VC.ret ?_
  refine ⟨trivial, _, rfl, Cv.agg (CvL.cons (Cv.pure rfl) (CvL.cons (Cv.pure rfl) (CvL.cons (Cv.pure rfl) (CvL.cons (Cv.pure rfl) (CvL.cons (Cv.pure rfl) (CvL.cons (Cv.pure rfl) (CvL.cons (Cv.pure rfl) (CvL.cons (Cv.pure rfl) (CvL.cons (Cv.nil _ (.inl rfl)) CvL.nil)))))))))⟩
theorem plain_p (op pl fo ba : Int) : CallP Tryz.prog 23 [I64 op, U8 pl, U8 fo, U8 ba] (penT (plainS op pl fo ba)) := by
  refine CallP.intro2 au_pu au_pu ?_
  refine CallT.intro tab_ok Tryz.func23 rfl (by kernel_rfl) (Nat.le_of_ble_eq_true rfl) ?_
  refine VC.reg tab_ok [] rfl ?_
  refine VX.new rfl rfl ?_
  refine VX.nil ?_
  refine VC.reg tab_ok [] rfl ?_
  refine VX.callP0 rfl rfl rfl (newPen_p) ?_
  refine VX.new rfl rfl ?_
  refine VX.store rfl rfl rfl rfl rfl au_sR rfl ?_
  refine VX.nil ?_
  refine VC.reg tab_ok [] rfl ?_
  iterate 6 refine VX.meek rfl ?_
  refine VX.store rfl rfl rfl rfl rfl au_sR rfl ?_
  refine VX.meek rfl ?_
  refine VX.store rfl rfl rfl rfl rfl au_sR rfl ?_
  refine VX.meek rfl ?_
  refine VX.store rfl rfl rfl rfl rfl au_sR rfl ?_
  refine VX.meek rfl ?_
  refine VX.store rfl rfl rfl rfl rfl au_sR rfl ?_
  refine VX.nil ?_
  refine VC.reg tab_ok [] rfl ?_
  first | refine VX.meek rfl ?_ | refine VX.loadI rfl rfl au_l ?_ | refine VX.loadP rfl rfl rfl au_l ?_
  refine VX.store rfl rfl rfl rfl rfl au_sR rfl ?_
  refine VX.nil ?_
  refine VC.ret ?_
  exact ⟨trivial, _, rfl, Cv.eq rfl rfl⟩
theorem few_p (l : List Rect) : CallP Tryz.prog 16 [.islc (encL cR l) l.length none] (BL (decide (l.length ≤ 20))) := by
  refine CallP.intro2 au_pu au_pu ?_
  refine CallT.intro tab_ok Tryz.func16 rfl (by kernel_rfl) (Nat.le_of_ble_eq_true rfl) ?_
  refine VC.reg tab_ok [] rfl ?_
  refine VX.meek rfl ?_
  refine VX.nil ?_
  refine VC.reg tab_ok [] rfl ?_
  iterate 4 refine VX.meek rfl ?_
  refine VX.nil ?_
  refine VC.ret ?_
  exact ⟨trivial, _, rfl, Cv.eq (congrArg BL (decide_eq_decide.2 (by omega))) rfl⟩
theorem ink_p (p : PenS) : CallP Tryz.prog 26 [penT p] (inkT p.f p.pl p.fo) := by
  refine CallP.intro2 au_pu au_pu ?_
  refine CallT.intro tab_ok Tryz.func26 rfl (by kernel_rfl) (Nat.le_of_ble_eq_true rfl) ?_
  refine VC.reg tab_ok [1] rfl ?_
  refine VX.newI rfl rfl ?_
  refine VX.new rfl rfl ?_
  refine VX.nil ?_
  refine VC.reg tab_ok [] rfl ?_
  refine VX.meek rfl ?_
  first | refine VX.meek rfl ?_ | refine VX.loadI rfl rfl au_l ?_ | refine VX.loadP rfl rfl rfl au_l ?_
  refine VX.meek rfl ?_
  first | refine VX.meek rfl ?_ | refine VX.loadI rfl rfl au_l ?_ | refine VX.loadP rfl rfl rfl au_l ?_
  refine VX.meek rfl ?_
  first | refine VX.meek rfl ?_ | refine VX.loadI rfl rfl au_l ?_ | refine VX.loadP rfl rfl rfl au_l ?_
  refine VX.meek rfl ?_
  refine VX.store rfl rfl rfl rfl rfl au_sR rfl ?_
  refine VX.nil ?_
  refine VC.ret ?_
  exact ⟨trivial, _, rfl, Cv.eq rfl rfl⟩
def paintD (w : Nat) (D : Int → Int → Bool) (f : Int → Int → Int → Int) (px : List Int) : List Int := (List.range px.length).map fun i => if D (i % w : Nat) (i / w : Nat) = true then f (i % w : Nat) (i / w : Nat) px[i]! else px[i]!
theorem paintL_dec {w : Nat} {V : Int → Int → Prop} {D : Int → Int → Bool} {f : Int → Int → Int → Int} {px : List Int} (h : ∀ x y, V x y ↔ D x y = true) : paintL w V f px = paintD w D f px := by
  unfold paintL paintD
  refine List.map_congr_left fun i _ => ?_
  by_cases hc : V (i % w : Nat) (i / w : Nat)
  · rw [if_pos hc, if_pos ((h _ _).1 hc)]
  · rw [if_neg hc, if_neg (fun k => hc ((h _ _).2 k))]
def bandB (l : List Rect) (x y : Int) : Bool := decide (inL (l.filter countsB) x y)
theorem band_dec (l m : List Rect) (x y : Int) : (inL (bandOf l) x y ∧ inL (bandOf m) x y) ↔ (bandB l x y && bandB m x y) = true := by
  unfold bandB; rw [bandOf_in, bandOf_in, Bool.and_eq_true, decide_eq_true_eq, decide_eq_true_eq]
theorem awake_rects : rectsPx 3 (bandOf [⟨0, 0, 3, 2⟩]) (plainS 6 255 5 0) [⟨0, 0, 2, 1⟩, ⟨1, 0, 1, 1⟩] (List.replicate (3 * 2) 0) = [5, 0, 0, 0, 0, 0] := by
  unfold rectsPx
  rw [List.foldl_cons, List.foldl_cons, List.foldl_nil]
  rw [paintL_dec (D := fun x y => bandB [⟨0, 0, 3, 2⟩] x y && bandB [⟨0, 0, 2, 1⟩] x y) (fun x y => band_dec _ _ x y)]
  rw [paintL_dec (D := fun x y => bandB [⟨0, 0, 3, 2⟩] x y && bandB [⟨1, 0, 1, 1⟩] x y) (fun x y => band_dec _ _ x y)]
  decide +kernel
theorem awake_tile : paintL 3 (fun a b => inL (bandOf [⟨0, 0, 3, 2⟩]) a b ∧ inL (bandOf [⟨0, 0, 3, 2⟩]) a b) (tileF 2 1 [1, 2] 1 0) (List.replicate (3 * 2) 0) = [2, 1, 2, 2, 1, 2] := by
  rw [paintL_dec (D := fun x y => bandB [⟨0, 0, 3, 2⟩] x y && bandB [⟨0, 0, 3, 2⟩] x y) (fun x y => band_dec _ _ x y)]
  decide +kernel
theorem awake_p : CallP Tryz.prog 15 [] (BL true) := by
  have hr := Reg.of [⟨0, 0, 3, 2⟩]
  have hrects : CallP Tryz.prog 28 [gT 3 2 (List.replicate (3 * 2) 0), regT (bandOf [⟨0, 0, 3, 2⟩]), penT (plainS 6 255 5 0), .islc (encL cR [⟨0, 0, 2, 1⟩, ⟨1, 0, 1, 1⟩]) 2 none] (gT 3 2 [5, 0, 0, 0, 0, 0]) := by
    have := rects_t 3 2 (List.replicate (3 * 2) 0) (bandOf [⟨0, 0, 3, 2⟩]) [⟨0, 0, 2, 1⟩, ⟨1, 0, 1, 1⟩] (plainS 6 255 5 0) (by omega) (by omega) (by simp) (repl_bd _) hr (by simp) (by simp) (by intro r hr; simp at hr; rcases hr with rfl | rfl <;> (unfold i64; dsimp only; omega)) (plain_ok _ _ _ _) ⟨by decide, by decide⟩ ⟨by decide, by decide⟩
    rw [awake_rects] at this
    exact this
  have htile : CallP Tryz.prog 18 [gT 3 2 (List.replicate (3 * 2) 0), regT (bandOf [⟨0, 0, 3, 2⟩]), regT (bandOf [⟨0, 0, 3, 2⟩]), gT 2 1 [1, 2], I64 1, I64 0] (gT 3 2 [2, 1, 2, 2, 1, 2]) := by
    have := tile_p 3 2 2 1 (List.replicate (3 * 2) 0) [1, 2] (bandOf [⟨0, 0, 3, 2⟩]) (bandOf [⟨0, 0, 3, 2⟩]) 1 0 (by omega) (by omega) (by simp) (repl_bd _) (by omega) (by omega) rfl (.inr ⟨by omega, by omega⟩) (by intro v hv; simp at hv; rcases hv with rfl | rfl <;> exact ⟨by decide, by decide⟩) hr hr (by simp) (by decide) (by decide)
    rw [if_neg (by decide), awake_tile] at this
    exact this
  refine CallP.intro2 au_pu au_pu ?_
  refine CallT.intro tab_ok Tryz.func15 rfl (by kernel_rfl) (Nat.le_of_ble_eq_true rfl) ?_
  refine VC.reg tab_ok [] rfl ?_
  refine VX.meek rfl ?_
  refine VX.nil ?_
  refine VC.reg tab_ok [] rfl ?_
  refine VX.callP0 rfl rfl rfl (gnew_p 3 2 0 ⟨by omega, by omega⟩ ⟨by omega, by omega⟩) ?_
  iterate 3 refine VX.meek rfl ?_
  refine VX.new rfl rfl ?_
  refine VX.store rfl rfl rfl rfl rfl au_sR rfl ?_
  refine VX.meek rfl ?_
  refine VX.nil ?_
  refine VC.reg tab_ok [14] rfl ?_
  refine VX.meek rfl ?_
  refine VX.newI rfl rfl ?_
  refine VX.callP rfl rfl (of_p [⟨0, 0, 3, 2⟩] (by simp) (fun q hq => by rw [List.mem_singleton] at hq; subst hq; unfold i64; dsimp only; omega)) au_wk rfl ?_
  refine VX.new rfl rfl ?_
  refine VX.store rfl rfl rfl rfl rfl au_sR rfl ?_
  refine VX.nil ?_
  refine VC.reg tab_ok [] rfl ?_
  refine VX.callP0 rfl rfl rfl (plain_p 6 255 5 0) ?_
  refine VX.new rfl rfl ?_
  refine VX.store rfl rfl rfl rfl rfl au_sR rfl ?_
  refine VX.nil ?_
  refine VC.reg tab_ok [22] rfl ?_
  first | refine VX.meek rfl ?_ | refine VX.loadI rfl rfl au_l ?_ | refine VX.loadP rfl rfl rfl au_l ?_
  first | refine VX.meek rfl ?_ | refine VX.loadI rfl rfl au_l ?_ | refine VX.loadP rfl rfl rfl au_l ?_
  first | refine VX.meek rfl ?_ | refine VX.loadI rfl rfl au_l ?_ | refine VX.loadP rfl rfl rfl au_l ?_
  iterate 2 refine VX.meek rfl ?_
  refine VX.newI rfl rfl ?_
  refine VX.callP rfl rfl hrects au_wk (by show T.pureL [gT 3 2 (List.replicate (3 * 2) 0), regT (bandOf [⟨0, 0, 3, 2⟩]), penT (plainS 6 255 5 0), .islc (encL cR [⟨0, 0, 2, 1⟩, ⟨1, 0, 1, 1⟩]) 2 none] = true; simp only [T.pure, T.pureL, encL_pure]; rfl) ?_
  refine VX.new rfl rfl ?_
  refine VX.store rfl rfl rfl rfl rfl au_sR rfl ?_
  refine VX.nil ?_
  refine VC.reg tab_ok [] rfl ?_
  refine VX.callP0 rfl rfl rfl (gnew_p 2 1 1 ⟨by omega, by omega⟩ ⟨by omega, by omega⟩) ?_
  iterate 3 refine VX.meek rfl ?_
  refine VX.new rfl rfl ?_
  refine VX.store rfl rfl rfl rfl rfl au_sR rfl ?_
  refine VX.meek rfl ?_
  refine VX.nil ?_
  refine VC.drw tab_ok [] [_, _, _, _, _, _, _] rfl (by kernel_rfl) (by kernel_rfl) ?_
  first | refine VX.meek rfl ?_ | refine VX.loadI rfl rfl au_l ?_ | refine VX.loadP rfl rfl rfl au_l ?_
  first | refine VX.meek rfl ?_ | refine VX.loadI rfl rfl au_l ?_ | refine VX.loadP rfl rfl rfl au_l ?_
  first | refine VX.meek rfl ?_ | refine VX.loadI rfl rfl au_l ?_ | refine VX.loadP rfl rfl rfl au_l ?_
  first | refine VX.meek rfl ?_ | refine VX.loadI rfl rfl au_l ?_ | refine VX.loadP rfl rfl rfl au_l ?_
  refine VX.callP0 rfl rfl rfl ((show CallP Tryz.prog 63 [gT 2 1 [1, 1], I64 1, I64 0, U8 2] (gT 2 1 [1, 2]) from gset_n 2 1 [1, 1] 2 rfl 1 0 2 (by omega) (by omega) rfl (by intro v hv; simp at hv; rcases hv with rfl | rfl <;> exact ⟨by decide, by decide⟩) ⟨by omega, by omega⟩ ⟨by omega, by omega⟩)) ?_
  refine VX.callP0 rfl rfl rfl (htile) ?_
  refine VX.new rfl rfl ?_
  refine VX.nil ?_
  refine VX.store rfl rfl rfl rfl rfl au_sR rfl ?_
  refine VX.nil ?_
  refine VC.reg tab_ok [] rfl ?_
  first | refine VX.meek rfl ?_ | refine VX.loadI rfl rfl au_l ?_ | refine VX.loadP rfl rfl rfl au_l ?_
  refine VX.callP0 rfl rfl rfl (row_p 3 2 [5, 0, 0, 0, 0, 0] 0 (by omega) (by omega) rfl (by omega)) ?_
  iterate 2 refine VX.meek rfl ?_
  refine' VX.merge (d := 41) [_, _, _, _] rfl ?_ rfl ?_
  rotate_left
  · refine VX.guard rfl rfl (fun hb7_3 => ?_) (fun hb7_3 => ?_)
    · have ghb7_3 := hb7_3
      try simp only [au_std, Bool.not_true, Bool.not_false] at ghb7_3
      first | refine VX.meek rfl ?_ | refine VX.loadI rfl rfl au_l ?_ | refine VX.loadP rfl rfl rfl au_l ?_
      refine VX.guardT rfl rfl hb7_3 ?_
      refine VX.callP0 rfl rfl rfl (row_p 3 2 [5, 0, 0, 0, 0, 0] 1 (by omega) (by omega) rfl (by omega)) ?_
      refine VX.guardT rfl rfl hb7_3 ?_
      refine VX.meek rfl ?_
      refine VX.pickA rfl (fun _ => rfl) ?_
      exact VX.nil ⟨rfl, rfl⟩
    · refine VX.guardF rfl rfl hb7_3 ?_
      refine VX.guardF rfl rfl hb7_3 ?_
      exact VX.pickA rfl (fun h => absurd (h.symm.trans hb7_3) (by decide)) (VX.nil ⟨rfl, rfl⟩)
  refine VX.meek rfl ?_
  refine' VX.merge (d := 46) [_, _, _, _] rfl ?_ rfl ?_
  rotate_left
  · refine VX.guard rfl rfl (fun hb7_8 => ?_) (fun hb7_8 => ?_)
    · have ghb7_8 := hb7_8
      try simp only [au_std, Bool.not_true, Bool.not_false] at ghb7_8
      first | refine VX.meek rfl ?_ | refine VX.loadI rfl rfl au_l ?_ | refine VX.loadP rfl rfl rfl au_l ?_
      refine VX.guardT rfl rfl hb7_8 ?_
      refine VX.callP0 rfl rfl rfl (row_p 3 2 [2, 1, 2, 2, 1, 2] 0 (by omega) (by omega) rfl (by omega)) ?_
      refine VX.guardT rfl rfl hb7_8 ?_
      refine VX.meek rfl ?_
      refine VX.pickA rfl (fun _ => rfl) ?_
      exact VX.nil ⟨rfl, rfl⟩
    · refine VX.guardF rfl rfl hb7_8 ?_
      refine VX.guardF rfl rfl hb7_8 ?_
      exact VX.pickA rfl (fun h => absurd (h.symm.trans hb7_8) (by decide)) (VX.nil ⟨rfl, rfl⟩)
  refine VX.meek rfl ?_
  refine' VX.merge (d := 51) [_, _, _, _] rfl ?_ rfl ?_
  rotate_left
  · refine VX.guard rfl rfl (fun hb7_13 => ?_) (fun hb7_13 => ?_)
    · have ghb7_13 := hb7_13
      try simp only [au_std, Bool.not_true, Bool.not_false] at ghb7_13
      first | refine VX.meek rfl ?_ | refine VX.loadI rfl rfl au_l ?_ | refine VX.loadP rfl rfl rfl au_l ?_
      refine VX.guardT rfl rfl hb7_13 ?_
      refine VX.callP0 rfl rfl rfl (row_p 3 2 [2, 1, 2, 2, 1, 2] 1 (by omega) (by omega) rfl (by omega)) ?_
      refine VX.guardT rfl rfl hb7_13 ?_
      refine VX.meek rfl ?_
      refine VX.pickA rfl (fun _ => rfl) ?_
      exact VX.nil ⟨rfl, rfl⟩
    · refine VX.guardF rfl rfl hb7_13 ?_
      refine VX.guardF rfl rfl hb7_13 ?_
      exact VX.pickA rfl (fun h => absurd (h.symm.trans hb7_13) (by decide)) (VX.nil ⟨rfl, rfl⟩)
  refine VX.meek rfl ?_
  refine VX.nil ?_
  refine VC.ret ?_
  exact ⟨trivial, _, rfl, Cv.eq (congrArg BL (by decide +kernel)) rfl⟩
end
section
open Go.RowKit Go.Sort
set_option linter.unusedVariables false
set_option linter.unusedSimpArgs false
abbrev shI : Sh := .int .i64
abbrev shU : Sh := .int .u8
abbrev shR : Sh := .st [shI, shI, shI, shI]
abbrev shCan : Sh := .st [shU, shU, .sl shU]
theorem lit_i64 {n : Int} (h : (Lit.int .i64 n).wf = true) : i64 n := by
  simp [Lit.wf, IntKind.min, IntKind.max, IntKind.signed, IntKind.bits] at h
  unfold i64; omega
theorem lit_u8 {n : Int} (h : (Lit.int .u8 n).wf = true) : 0 ≤ n ∧ n < 256 := by
  simp [Lit.wf, IntKind.min, IntKind.max, IntKind.signed, IntKind.bits] at h
  omega
theorem wt_i64 {ts : List T} (h : shI.wt ts) : ∃ n, ts = [I64 n] ∧ i64 n := by
  obtain ⟨n, rfl, hw⟩ := h
  exact ⟨n, rfl, lit_i64 hw⟩
theorem wt_u8 {ts : List T} (h : shU.wt ts) : ∃ n, ts = [U8 n] ∧ 0 ≤ n ∧ n < 256 := by
  obtain ⟨n, rfl, hw⟩ := h
  exact ⟨n, rfl, lit_u8 hw⟩
theorem nth_dec {α : Type} (c : Cd α) {p : List T → Prop} {Q : α → Prop} (h : ∀ a, p a → ∃ x, a = c.cells x ∧ Q x) : ∀ (n : Nat) {xs : List T}, nth p n xs → ∃ l : List α, xs = encL c l ∧ l.length = n ∧ ∀ x ∈ l, Q x
  | 0, xs, k => ⟨[], k, rfl, fun _ hx => by cases hx⟩
  | n + 1, xs, ⟨a, b, e, k1, k2⟩ => by
    obtain ⟨x, rfl, hx⟩ := h a k1
    obtain ⟨l, rfl, rfl, hl⟩ := nth_dec c h n k2
    exact ⟨x :: l, e, rfl, fun y hy => by
      rcases List.mem_cons.1 hy with rfl | hy
      · exact hx
      · exact hl y hy⟩
theorem wt_sl {α : Type} (c : Cd α) {s : Sh} {Q : α → Prop} (h : ∀ a, s.wt a → ∃ x, a = c.cells x ∧ Q x) {ts : List T} (k : (Sh.sl s).wt ts) : ∃ l : List α, ts = [.islc (encL c l) l.length none] ∧ l.length ≤ maxLen ∧ ∀ x ∈ l, Q x := by
  obtain ⟨xs, n, rfl, h1, h2⟩ := k
  obtain ⟨l, rfl, rfl, hl⟩ := nth_dec c h n h2
  exact ⟨l, rfl, h1, hl⟩
def rI (r : Rect) : Prop := i64 r.X ∧ i64 r.Y ∧ i64 r.W ∧ i64 r.H
theorem wt_rect {ts : List T} (h : shR.wt ts) : ∃ r : Rect, ts = cR.cells r ∧ rI r := by
  obtain ⟨a, b, rfl, h1, c, d, rfl, h2, e, f, rfl, h3, g, k, rfl, h4, rfl⟩ := h
  obtain ⟨x, rfl, hx⟩ := wt_i64 h1
  obtain ⟨y, rfl, hy⟩ := wt_i64 h2
  obtain ⟨w, rfl, hw⟩ := wt_i64 h3
  obtain ⟨z, rfl, hz⟩ := wt_i64 h4
  exact ⟨⟨x, y, w, z⟩, rfl, hx, hy, hw, hz⟩
theorem wt_rects {ts : List T} (h : (Sh.sl shR).wt ts) : ∃ l : List Rect, ts = [.islc (encL cR l) l.length none] ∧ l.length ≤ maxLen ∧ ∀ r ∈ l, rI r := wt_sl cR (fun _ => wt_rect) h
theorem wt_bytes {ts : List T} (h : (Sh.sl shU).wt ts) : ∃ l : List Int, ts = [.islc (encL cU l) l.length none] ∧ l.length ≤ maxLen ∧ ∀ v ∈ l, 0 ≤ v ∧ v < 256 :=
  wt_sl cU (fun _ h => by
    obtain ⟨x, rfl, hx⟩ := wt_u8 h
    exact ⟨x, rfl, hx⟩) h
theorem wt_canvas {ts : List T} (h : shCan.wt ts) : ∃ (cw ch : Nat) (P : List Int), ts = [U8 cw, U8 ch, .islc (encL cU P) P.length none] ∧ cw < 256 ∧ ch < 256 ∧ ∀ v ∈ P, 0 ≤ v ∧ v < 256 := by
  obtain ⟨a, b, rfl, h1, c, d, rfl, h2, e, f, rfl, h3, rfl⟩ := h
  obtain ⟨x, rfl, hx⟩ := wt_u8 h1
  obtain ⟨y, rfl, hy⟩ := wt_u8 h2
  obtain ⟨P, rfl, -, hP⟩ := wt_bytes h3
  refine ⟨x.toNat, y.toNat, P, ?_, by omega, by omega, hP⟩
  rw [Int.toNat_of_nonneg hx.1, Int.toNat_of_nonneg hy.1]
  rfl
end
section
open Go.RowKit Go.Sort
set_option linter.unusedSimpArgs false
set_option linter.unusedVariables false
set_option maxRecDepth 10000
theorem rI_all {l : List Rect} (h : ∀ r ∈ l, rI r) : ∀ r ∈ l, i64 r.X ∧ i64 r.Y := fun r hr => ⟨(h r hr).1, (h r hr).2.1⟩
theorem paint_both {w h : Nat} {px : List Int} (hl : px.length = w * h) (clip what : List Rect) (f : Int → Int → Int → Int) : paintL w (fun x y => inL (bandOf clip) x y ∧ inL (bandOf what) x y) f px = paintL w (fun a b => inL (clip.filter countsB) a b ∧ inL (what.filter countsB) a b) f px :=
  paint_congr hl (fun a b _ _ _ _ => by rw [bandOf_in, bandOf_in]) (fun _ _ _ _ _ _ _ => rfl)
theorem paintRegions_all {t0 t1 t2 t3 t4 t5 t6 : List T} (h0 : shCan.wt t0) (h1 : (Sh.sl shR).wt t1) (h2 : (Sh.sl shR).wt t2) (h3 : shI.wt t3) (h4 : shU.wt t4) (h5 : shU.wt t5) (h6 : shU.wt t6) :
    CallP Tryz.prog 4 [shCan.tree t0, (Sh.sl shR).tree t1, (Sh.sl shR).tree t2, shI.tree t3, shU.tree t4, shU.tree t5, shU.tree t6] (BL true) := by
  obtain ⟨cw, ch, P, rfl, hcw, hch, hPb⟩ := wt_canvas h0
  obtain ⟨clip, rfl, -, hci⟩ := wt_rects h1
  obtain ⟨what, rfl, -, hwi⟩ := wt_rects h2
  obtain ⟨op, rfl, -⟩ := wt_i64 h3
  obtain ⟨pl, rfl, hpl⟩ := wt_u8 h4
  obtain ⟨fo, rfl, hfo⟩ := wt_u8 h5
  obtain ⟨ba, rfl, hba⟩ := wt_u8 h6
  clear h0 h1 h2 h3 h4 h5 h6
  have hcan := canvas_p cw ch P hcw hch hPb
  have hw : 1 ≤ cw % 12 + 1 ∧ cw % 12 + 1 ≤ 128 := by omega
  have hh : 1 ≤ ch % 12 + 1 ∧ ch % 12 + 1 ≤ 128 := by omega
  have hl := padL_len P ((cw % 12 + 1) * (ch % 12 + 1))
  have hb := padL_bd hPb ((cw % 12 + 1) * (ch % 12 + 1))
  generalize padL P ((cw % 12 + 1) * (ch % 12 + 1)) = px at *
  generalize cw % 12 + 1 = w at *
  generalize ch % 12 + 1 = h at *
  have hpl2 : 0 ≤ (plainS op pl fo ba).pl ∧ (plainS op pl fo ba).pl < 256 := hpl
  show CallP Tryz.prog 4 [.agg [U8 cw, U8 ch, .islc (encL cU P) P.length none], .islc (encL cR clip) clip.length none, .islc (encL cR what) what.length none, I64 op, U8 pl, U8 fo, U8 ba] (BL true)
  refine CallP.intro2 au_pu au_pu ?_
  refine CallT.intro tab_ok Tryz.func4 rfl (by kernel_rfl) (Nat.le_of_ble_eq_true rfl) ?_
  refine VC.reg tab_ok [7] rfl ?_
  refine VX.newI rfl rfl ?_
  refine VX.meek rfl ?_
  refine VX.nil ?_
  refine VC.seq ?_
  refine VC.reg tab_ok [] rfl ?_
  refine VX.callP0 rfl rfl rfl (awake_p) ?_
  refine VX.meek rfl ?_
  refine VX.nil ?_
  refine VC.cond rfl (fun hc0 => ?_) (fun hc0 => ?_)
  · exact absurd hc0 (by simp)
  · (try simp only [au_std] at hc0)
    refine VC.skip ?_
    refine VC.seq ?_
    refine VC.reg tab_ok [] rfl ?_
    refine VX.meek rfl ?_
    refine VX.callP0 rfl rfl rfl (few_p clip) ?_
    iterate 2 refine VX.meek rfl ?_
    refine' VX.merge (d := 29) [_, _, _, _] rfl ?_ rfl ?_
    rotate_left
    · refine VX.guard rfl rfl (fun hb3_3 => ?_) (fun hb3_3 => ?_)
      · have ghb3_3 := hb3_3
        try simp only [au_std, Bool.not_true, Bool.not_false] at ghb3_3
        refine VX.meek rfl ?_
        refine VX.guardT rfl rfl hb3_3 ?_
        refine VX.callP0 rfl rfl rfl (few_p what) ?_
        refine VX.guardT rfl rfl hb3_3 ?_
        refine VX.meek rfl ?_
        refine VX.pickO rfl (fun _ => rfl) ?_
        exact VX.nil ⟨rfl, rfl⟩
      · refine VX.guardF rfl rfl hb3_3 ?_
        refine VX.guardF rfl rfl hb3_3 ?_
        exact VX.pickO rfl (fun h => absurd (h.symm.trans hb3_3) (by decide)) (VX.nil ⟨rfl, rfl⟩)
    refine VX.nil ?_
    refine VC.cond rfl (fun hc1 => ?_) (fun hc1 => ?_)
    · (try simp only [au_std] at hc1)
      refine VC.reg tab_ok [] rfl ?_
      refine VX.meek rfl ?_
      refine VX.nil ?_
      refine VC.ret ?_
      exact ⟨trivial, _, rfl, Cv.eq (by first | rfl | (simp [*]; done)) rfl⟩
    · (try simp only [au_std] at hc1)
      refine VC.skip ?_
      refine VC.reg tab_ok [] rfl ?_
      first | refine VX.meek rfl ?_ | refine VX.loadI rfl rfl au_l ?_ | refine VX.loadP rfl rfl rfl au_l ?_
      refine VX.callP0 rfl rfl rfl (hcan) ?_
      iterate 4 refine VX.meek rfl ?_
      refine VX.callP0 rfl rfl rfl (plain_p op pl fo ba) ?_
      refine VX.new rfl rfl ?_
      refine VX.new rfl rfl ?_
      refine VX.store rfl rfl rfl rfl rfl au_sP rfl ?_
      refine VX.store rfl rfl rfl rfl rfl au_sP rfl ?_
      refine VX.nil ?_
      refine VC.drw tab_ok [] [_, _, _, _, _, _, _, _, _] rfl (by kernel_rfl) (by kernel_rfl) ?_
      first | refine VX.meek rfl ?_ | refine VX.loadI rfl rfl au_l ?_ | refine VX.loadP rfl rfl rfl au_l ?_
      refine VX.callP0 rfl rfl rfl (of23_p w h px hw hh hl hb) ?_
      refine VX.meek rfl ?_
      refine VX.callP0 rfl rfl rfl (of_p clip (by omega) (rI_all hci)) ?_
      refine VX.meek rfl ?_
      refine VX.callP0 rfl rfl rfl (of_p what (by omega) (rI_all hwi)) ?_
      first | refine VX.meek rfl ?_ | refine VX.loadI rfl rfl au_l ?_ | refine VX.loadP rfl rfl rfl au_l ?_
      refine VX.callP0 rfl rfl rfl (region_w w h px _ (bandOf clip) (bandOf what) (plainS op pl fo ba) ((paint_both hl clip what (mixF (plainS op pl fo ba) fo)) ▸ with_p w h px (bandOf clip) (bandOf what) (plainS op pl fo ba) fo hw.2 hh.2 hl hb (Reg.of clip) (Reg.of what) (by omega) (plain_ok op pl fo ba) hfo hpl2)) ?_
      refine VX.new rfl rfl ?_
      refine VX.nil ?_
      refine VX.store rfl rfl rfl rfl rfl au_sP rfl ?_
      refine VX.nil ?_
      refine VC.drw tab_ok [] [_, _, _, _, _, _, _, _, _] rfl (by kernel_rfl) (by kernel_rfl) ?_
      first | refine VX.meek rfl ?_ | refine VX.loadI rfl rfl au_l ?_ | refine VX.loadP rfl rfl rfl au_l ?_
      refine VX.callP0 rfl rfl rfl (of23_p w h px hw hh hl hb) ?_
      refine VX.meek rfl ?_
      refine VX.callP0 rfl rfl rfl (of_p clip (by omega) (rI_all hci)) ?_
      refine VX.meek rfl ?_
      refine VX.callP0 rfl rfl rfl (of_p what (by omega) (rI_all hwi)) ?_
      first | refine VX.meek rfl ?_ | refine VX.loadI rfl rfl au_l ?_ | refine VX.loadP rfl rfl rfl au_l ?_
      refine VX.callP0 rfl rfl rfl (back_w w h px _ (bandOf clip) (bandOf what) (plainS op pl fo ba) ((paint_both hl clip what (mixF (plainS op pl fo ba) ba)) ▸ with_p w h px (bandOf clip) (bandOf what) (plainS op pl fo ba) ba hw.2 hh.2 hl hb (Reg.of clip) (Reg.of what) (by omega) (plain_ok op pl fo ba) hba hpl2)) ?_
      refine VX.new rfl rfl ?_
      refine VX.nil ?_
      refine VX.store rfl rfl rfl rfl rfl au_sP rfl ?_
      refine VX.nil ?_
      refine VC.reg tab_ok [] rfl ?_
      first | refine VX.meek rfl ?_ | refine VX.loadI rfl rfl au_l ?_ | refine VX.loadP rfl rfl rfl au_l ?_
      refine VX.callP0 rfl rfl rfl (ink_p (plainS op pl fo ba)) ?_
      refine VX.new rfl rfl ?_
      refine VX.store rfl rfl rfl rfl rfl au_sP rfl ?_
      refine VX.nil ?_
      refine VC.seq ?_
      refine VC.drw tab_ok [] [_, _, _, _, _, _, _, _] rfl (by kernel_rfl) (by kernel_rfl) ?_
      first | refine VX.meek rfl ?_ | refine VX.loadI rfl rfl au_l ?_ | refine VX.loadP rfl rfl rfl au_l ?_
      first | refine VX.meek rfl ?_ | refine VX.loadI rfl rfl au_l ?_ | refine VX.loadP rfl rfl rfl au_l ?_
      iterate 2 refine VX.meek rfl ?_
      first | refine VX.meek rfl ?_ | refine VX.loadI rfl rfl au_l ?_ | refine VX.loadP rfl rfl rfl au_l ?_
      refine VX.callP0 rfl rfl rfl (region23_p w h px clip what (plainS op pl fo ba).f pl fo hw.2 hh.2 hl hb (by omega) (by omega) hfo hpl) ?_
      refine VX.callP0 rfl rfl rfl (same23_p w h _ hw.2 hh.2 ((paintL_len _ _ _ _).trans hl) (paintL_bd hb (mixQ_bd _ _ _))) ?_
      refine VX.meek rfl ?_
      refine VX.nil ?_
      refine VX.nil ?_
      refine VC.cond rfl (fun hc2 => ?_) (fun hc2 => ?_)
      · exact absurd hc2 (by simp)
      · (try simp only [au_std] at hc2)
        refine VC.skip ?_
        refine VC.reg tab_ok [] rfl ?_
        iterate 2 refine VX.meek rfl ?_
        refine VX.store rfl rfl rfl rfl rfl au_sP rfl ?_
        refine VX.nil ?_
        refine VC.drw tab_ok [] [_, _, _, _, _, _, _, _] rfl (by kernel_rfl) (by kernel_rfl) ?_
        first | refine VX.meek rfl ?_ | refine VX.loadI rfl rfl au_l ?_ | refine VX.loadP rfl rfl rfl au_l ?_
        first | refine VX.meek rfl ?_ | refine VX.loadI rfl rfl au_l ?_ | refine VX.loadP rfl rfl rfl au_l ?_
        iterate 2 refine VX.meek rfl ?_
        first | refine VX.meek rfl ?_ | refine VX.loadI rfl rfl au_l ?_ | refine VX.loadP rfl rfl rfl au_l ?_
        refine VX.callP0 rfl rfl rfl (region23_p w h px clip what (plainS op pl fo ba).f pl ba hw.2 hh.2 hl hb (by omega) (by omega) hba hpl) ?_
        refine VX.callP0 rfl rfl rfl (same23_p w h _ hw.2 hh.2 ((paintL_len _ _ _ _).trans hl) (paintL_bd hb (mixQ_bd _ _ _))) ?_
        refine VX.meek rfl ?_
        refine VX.nil ?_
        refine VX.nil ?_
        refine VC.ret ?_
        exact ⟨trivial, _, rfl, Cv.eq (by first | rfl | (simp [*]; done)) rfl⟩
end
section
open Go.ChangeShapes Go.WideShapes Go.ChangeAt Go.RowKit Go.WideElems
def rowed (P : Program) (ts : List TypeId) : Bool := ts.all fun t => P.readableRec t && decide (t < P.types.size)
theorem trodAll_below {H : Type} {enc : TypeId × Value → H} {P : Program} (hl : laidOutB P = true) {W W' : World} (hb : Below W.heap.size W W') :
    ∀ {ts : List TypeId} {vs : List Value} {ds : List (DataW H)} {p : List MemPlace}, rowed P ts = true → (∀ x ∈ p, x.block < W.heap.size) →
      DataW.TrodAll enc P W 0 (fun _ => true) true ts vs ds p → DataW.TrodAll enc P W' 0 (fun b => decide (b < W.heap.size)) true ts vs ds p
  | [], _, _, _, _, _, h => by
    obtain ⟨rfl, rfl, rfl⟩ := trodAll_nil h
    exact trodAll_mk0
  | t :: ts, _, _, _, hr, hlt, h => by
    obtain ⟨v, vs1, d, ds1, a, b, rfl, rfl, rfl, h1, h2⟩ := trodAll_cons h
    simp only [rowed, List.all_cons, Bool.and_eq_true, decide_eq_true_eq] at hr
    refine trodAll_cons_mk (Below.trod hl hr.1.1 hr.1.2 h1 hb (fun x hx => hlt x (by simp [hx]))) ?_
    exact trodAll_below hl hb (by simpa [rowed] using hr.2) (fun x hx => hlt x (by simp [hx])) h2
theorem post_law {H : Type} {enc : TypeId × Value → H} {P : Program} {f : Func} {s : ChangeSpec} {W W' : World} {args : Array Value} {ds gs : List (DataW H)} {before : List MemPlace} {tb : TypeId}
    (hl : laidOutB P = true) (hps : rowed P f.params.toList = true) (hvs : varsRowed P s.vars = true) (hres : f.resultTypes = #[tb]) (htb : P.underlying tb = some .bool)
    (hW : DataW.Whole enc P f.params.toList s.vars false W args.toList ds gs before)
    (h1 : (s.fn H (ds ++ gs)).results = [.lit (.bool true)]) (h2 : (s.fn H (ds ++ gs)).args = ds) (h3 : (s.fn H (ds ++ gs)).vars = gs)
    (hb : Below W.heap.size W W') : s.post enc P f false true false false W args (.bool true) W' := by
  have hlt := hW.lt
  have hW' := hW
  obtain ⟨p, q, hA, hV, rfl, hfz, hnd⟩ := hW
  refine ⟨ds, gs, p ++ q, [], p, q, hW', ?_, ?_, ?_, hb.frame _, fun h => by cases h⟩
  · rw [h1, hres]
    exact trodAll_cons_mk (shut_bool htb true) trodAll_mk0
  · rw [h2]
    exact trodAll_below hl hb hps (fun x hx => hlt x (by simp [hx])) hA
  · rw [h3]
    exact Below.trodVars hl hb hvs hV
end
end Go.Proofs.YtelhkfdpkjkpjaaGreat
