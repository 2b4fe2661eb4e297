/-
  The proof's lemmas, part 4.
-/
import Derived.Test.YtjnomaiejmgedaaDoorTsc
import Derived.Test.YtjnomaiejmgedaaDoorBldN
import Derived.WalkMore
import Derived.Lib.BufferRead
import Derived.OpenVars
import Derived.Carry
namespace Go.Proofs.YtjnomaiejmgedaaDoor
set_option linter.unusedSimpArgs false
set_option linter.unusedVariables false
section
open Go.RowKit
set_option maxRecDepth 10000
set_option maxHeartbeats 1000000
structure Rq where
  code : Int
  n : List Int
  b : List UInt8
  l : List Int
deriving DecidableEq, Inhabited
abbrev cIf (l : List Int) : T := .islc (encL cI l) l.length none
def cRq : Cd Rq := ⟨4, fun r => [I64 r.code, cIf r.n, strT r.b, cIf r.l], fun _ => rfl, fun r => by simp only [T.pureL, T.pure, encL_pure]; rfl, fun _ => rfl, by decide⟩
theorem cRq_sz : cRq.sz = 4 := rfl
abbrev rqT (l : List Rq) : T := .islc (encL cRq l) l.length none
structure Trm where
  made : Bool
  win : Int
  pen : Int
  font : Int
  scr : Scr
  typed : List UInt8
abbrev trmC (t : Trm) : List T := [BL t.made, I64 t.win, I64 t.pen, I64 t.font, I64 t.scr.cols, I64 t.scr.rows, I64 t.scr.most, I64 t.scr.x, I64 t.scr.y, .islc (encL cY t.scr.grid) t.scr.grid.length none, .islc (encL cStr t.scr.kept) t.scr.kept.length none, I64 t.scr.st, I64 t.scr.n0, I64 t.scr.n1, I64 t.scr.num, strT t.typed]
abbrev trmT (t : Trm) : T := .agg (trmC t)
theorem trm_pure (t : Trm) : T.pureL (trmC t) = true := by simp only [T.pureL, T.pure, encL_pure]; rfl
theorem au_fr {p : Prop} (h : p := by repeat' first | exact CvL.nil | refine CvL.cons ?_ ?_ | exact Cv.nil _ (.inl rfl) | refine Cv.fslc0 ⟨rfl, by simp⟩ ?_ | refine Cv.islc ?_ (.inr rfl) | exact Cv.pure au_p0) : p := h
def openC (b : Int) (w h : Nat) : List T :=
  [I64 23, .islc [I64 (b + 3)] 1 (some 1), strT [116, 105, 110, 121], NILs,
   I64 19, .islc [I64 (b + 2)] 1 (some 1), strT [], NILs,
   I64 20, .islc [I64 (b + 2), I64 28, I64 0, I64 0, I64 1, I64 0, I64 (b + 3)] 7 (some 7), strT [], NILs,
   I64 1, .islc [I64 (b + 1), I64 1, I64 0, I64 0, I64 (4 * w), I64 (6 * h), I64 0, I64 0, I64 0] 9 (some 9), strT [], NILs,
   I64 7, .islc [I64 (b + 1), I64 32, I64 0, I64 0, I64 0, I64 0, I64 0, I64 257] 8 (some 8), strT [], NILs,
   I64 3, .islc [I64 (b + 1)] 1 (some 1), strT [], NILs]
abbrev newTrm (c w h : Nat) : Trm := ⟨true, ((c * 1048576 : Nat) : Int) + 1, ((c * 1048576 : Nat) : Int) + 2, ((c * 1048576 : Nat) : Int) + 3, blankScr w h 100, []⟩
abbrev zTrm : List T := [BL false, I64 0, I64 0, I64 0, I64 0, I64 0, I64 0, I64 0, I64 0, NILs, NILs, I64 0, I64 0, I64 0, I64 0, strT []]
theorem tnew_p (c w h : Nat) (h1 : 1 ≤ c) (h2 : c ≤ 8) (h3 : 1 ≤ w) (h4 : w ≤ 32) (h5 : 1 ≤ h) (h6 : h ≤ 21) : CallP Tryd.prog 10 [I64 c, I64 w, I64 h] (.tup [trmT (newTrm c w h), (.islc (openC ((c * 1048576 : Nat) : Int) w h) 6 (some 6)), I64 0]) := by
  have hp := scr_pure (blankScr w h 100)
  have ho : T.pureL (openC ((c * 1048576 : Nat) : Int) w h) = true := rfl
  refine CallP.intro2 au_pu au_pu ?_
  refine CallT.intro tab_ok Tryd.func10 rfl (by kernel_rfl) (Nat.le_of_ble_eq_true rfl) ?_
  refine VC.reg tab_ok [] rfl ?_
  refine VX.new rfl rfl ?_
  iterate 2 refine VX.meek rfl ?_
  refine VX.nil ?_
  refine VC.reg tab_ok [] rfl ?_
  refine VX.meek rfl ?_
  refine VX.callP0 rfl rfl rfl (base_p c h1 h2) ?_
  iterate 5 refine VX.meek rfl ?_
  refine VX.nil ?_
  refine VC.seq ?_
  refine VC.reg tab_ok [] rfl ?_
  iterate 2 refine VX.meek rfl ?_
  refine VX.nil ?_
  refine VC.cond rfl (fun hc0 => ?_) (fun hc0 => ?_)
  · exact absurd hc0 (by decide)
  · (try simp only [au_std] at hc0)
    refine VC.skip ?_
    refine VC.seq ?_
    refine VC.reg tab_ok [] rfl ?_
    iterate 3 refine VX.meek rfl ?_
    refine' VX.merge (d := 30) [_, _, _] rfl ?_ rfl ?_
    rotate_left
    · refine VX.guard rfl rfl (fun hb4_2 => ?_) (fun hb4_2 => ?_)
      · have ghb4_2 := hb4_2
        try simp only [au_std, Bool.not_true, Bool.not_false] at ghb4_2
        refine VX.meek rfl ?_
        refine VX.guardT rfl rfl hb4_2 ?_
        refine VX.meek rfl ?_
        refine VX.pickO rfl (fun _ => rfl) ?_
        exact VX.nil ⟨rfl, rfl⟩
      · refine VX.guardF rfl rfl hb4_2 ?_
        exact VX.pickO rfl (fun h => absurd (h.symm.trans hb4_2) (by decide)) (VX.nil ⟨rfl, rfl⟩)
    refine VX.meek rfl ?_
    refine' VX.merge (d := 34) [_, _, _] rfl ?_ rfl ?_
    rotate_left
    · refine VX.guard rfl rfl (fun hb4_6 => ?_) (fun hb4_6 => ?_)
      · have ghb4_6 := hb4_6
        try simp only [au_std, Bool.not_true, Bool.not_false] at ghb4_6
        refine VX.meek rfl ?_
        refine VX.guardT rfl rfl hb4_6 ?_
        refine VX.meek rfl ?_
        refine VX.pickO rfl (fun _ => rfl) ?_
        exact VX.nil ⟨rfl, rfl⟩
      · refine VX.guardF rfl rfl hb4_6 ?_
        exact VX.pickO rfl (fun h => absurd (h.symm.trans hb4_6) (by decide)) (VX.nil ⟨rfl, rfl⟩)
    refine VX.meek rfl ?_
    refine' VX.merge (d := 38) [_, _, _] rfl ?_ rfl ?_
    rotate_left
    · refine VX.guard rfl rfl (fun hb4_10 => ?_) (fun hb4_10 => ?_)
      · have ghb4_10 := hb4_10
        try simp only [au_std, Bool.not_true, Bool.not_false] at ghb4_10
        refine VX.meek rfl ?_
        refine VX.guardT rfl rfl hb4_10 ?_
        refine VX.meek rfl ?_
        refine VX.pickO rfl (fun _ => rfl) ?_
        exact VX.nil ⟨rfl, rfl⟩
      · refine VX.guardF rfl rfl hb4_10 ?_
        exact VX.pickO rfl (fun h => absurd (h.symm.trans hb4_10) (by decide)) (VX.nil ⟨rfl, rfl⟩)
    refine VX.nil ?_
    refine VC.cond rfl (fun hc1 => ?_) (fun hc1 => ?_)
    · exact absurd hc1 (by simp; omega)
    · (try simp only [au_std] at hc1)
      refine VC.skip ?_
      refine VC.reg tab_ok [] rfl ?_
      iterate 2 refine VX.meek rfl ?_
      refine VX.callP0 rfl rfl rfl (new_p w h 100 h3 (by omega) h5 (by omega) (by omega)) ?_
      iterate 3 refine VX.meek rfl ?_
      refine VX.new rfl rfl ?_
      refine VX.store rfl rfl rfl rfl rfl au_sY rfl ?_
      refine VX.meek rfl ?_
      refine VX.nil ?_
      refine VC.seq ?_
      refine VC.reg tab_ok [] rfl ?_
      iterate 2 refine VX.meek rfl ?_
      refine VX.nil ?_
      refine VC.cond rfl (fun hc2 => ?_) (fun hc2 => ?_)
      · exact absurd hc2 (by decide)
      · (try simp only [au_std] at hc2)
        refine VC.skip ?_
        refine VC.reg tab_ok [] rfl ?_
        refine VX.meek rfl ?_
        refine VX.meek (t := I64 ((c * 1048576 : Nat) : Int)) (by show some (T.v (.int .i64 (IntKind.i64.wrap ((c * 1048576 : Nat) : Int))), (none : Option (Nat × List T))) = _; rw [wrap_in (by omega)]) ?_
        refine VX.meek rfl ?_
        refine VX.nil ?_
        refine VC.reg tab_ok [] rfl ?_
        refine VX.meek rfl ?_
        first | refine VX.add rfl rfl (by omega) ?_ | refine VX.meek rfl ?_
        refine VX.meek rfl ?_
        first | refine VX.add rfl rfl (by omega) ?_ | refine VX.meek rfl ?_
        refine VX.meek rfl ?_
        first | refine VX.add rfl rfl (by omega) ?_ | refine VX.meek rfl ?_
        first | refine VX.meek rfl ?_ | refine VX.loadI rfl rfl au_l ?_ | refine VX.loadP rfl rfl rfl au_l ?_
        refine VX.meek rfl ?_
        refine VX.new rfl rfl ?_
        refine VX.store rfl rfl rfl rfl rfl au_sY rfl ?_
        refine VX.nil ?_
        refine VC.reg tab_ok [] rfl ?_
        refine VX.meek rfl ?_
        first | refine VX.mul rfl rfl (by omega) ?_ | refine VX.meek rfl ?_
        refine VX.meek rfl ?_
        first | refine VX.mul rfl rfl (by omega) ?_ | refine VX.meek rfl ?_
        iterate 2 refine VX.meek rfl ?_
        refine VX.nil ?_
        refine VC.view ([(6, .ptr 0 0), (14, .ptr 1 0), (15, I64 (4 * w)), (16, I64 (6 * h))]) ([.c zTrm, .c (trmC (newTrm c w h))]) [] rfl (by refine ⟨[some 0, some 2], rfl, by first | trivial | decide, rfl, ?_, ?_⟩ <;> (repeat' first | exact trivial | exact CvB_n | exact CvB_d | exact CvB_o rfl | refine CvE_app ?_ ?_ | refine CvE_cons rfl ?_ ?_ | refine CvH_cons ?_ ?_ | refine CvB_c rfl ?_ | fail) <;> first | exact au_v | (first | exact CvL.pure (trm_pure (newTrm c w h)) | exact CvL.pure rfl)) ?_
        refine VC.drwS tab_ok [67, 71, 77, 83, 87, 91, 93] [_, _, _, _, _, _, _, _, _, _, _, _, _, _, _, _, _, _, _, _, _, _, _, _, _, _, _, _, _, _, _] (_) rfl (by kernel_rfl) (by kernel_rfl) (by kernel_rfl) (seen_kill (b := 0) (seen_refl _) (by simp)) ?_
        refine VS.seg (l1 := [_, _, _, _, _, _, _, _, _, _, _, _, _, _, _, _, _, _, _, _, _, _, _, _, _, _, _, _, _, _]) rfl ?_
        first | refine VX.meek rfl ?_ | refine VX.loadI rfl rfl au_l ?_ | refine VX.loadP rfl rfl rfl au_l ?_
        refine VX.meek rfl ?_
        first | refine VX.meek rfl ?_ | refine VX.loadI rfl rfl au_l ?_ | refine VX.loadP rfl rfl rfl au_l ?_
        refine VX.newI rfl rfl ?_
        iterate 2 refine VX.meek rfl ?_
        first | refine VX.meek rfl ?_ | refine VX.loadI rfl rfl au_l ?_ | refine VX.loadP rfl rfl rfl au_l ?_
        refine VX.newI rfl rfl ?_
        iterate 2 refine VX.meek rfl ?_
        first | refine VX.meek rfl ?_ | refine VX.loadI rfl rfl au_l ?_ | refine VX.loadP rfl rfl rfl au_l ?_
        refine VX.meek rfl ?_
        first | refine VX.meek rfl ?_ | refine VX.loadI rfl rfl au_l ?_ | refine VX.loadP rfl rfl rfl au_l ?_
        refine VX.newI rfl rfl ?_
        iterate 2 refine VX.meek rfl ?_
        first | refine VX.meek rfl ?_ | refine VX.loadI rfl rfl au_l ?_ | refine VX.loadP rfl rfl rfl au_l ?_
        iterate 2 refine VX.meek rfl ?_
        refine VX.newI rfl rfl ?_
        iterate 2 refine VX.meek rfl ?_
        first | refine VX.meek rfl ?_ | refine VX.loadI rfl rfl au_l ?_ | refine VX.loadP rfl rfl rfl au_l ?_
        refine VX.newI rfl rfl ?_
        iterate 2 refine VX.meek rfl ?_
        first | refine VX.meek rfl ?_ | refine VX.loadI rfl rfl au_l ?_ | refine VX.loadP rfl rfl rfl au_l ?_
        refine VX.newI rfl rfl ?_
        refine VX.meek rfl ?_
        refine VX.newI rfl rfl ?_
        refine VX.nil ?_
        refine VS.sto rfl rfl rfl rfl ?_
        refine VS.nil (⟨rfl, Nat.le_of_ble_eq_true rfl, rfl, trivial⟩) ?_
        iterate 2 refine VX.meek rfl ?_
        refine VX.nil ?_
        refine VC.ret ?_
        refine ⟨trivial, _, rfl, Cv.tup (CvL.cons (Cv.pure (trm_pure (newTrm c w h))) (CvL.cons (Cv.eq (by kernel_rfl) (by kernel_rfl)) (CvL.cons (Cv.pure rfl) CvL.nil)))⟩
theorem rect_t (t : Trm) (y : Nat) (ok : t.scr.Ok) (hn : t.scr.y = y ∧ t.scr.x < t.scr.cols) : CallP Tryd.prog 74 [trmT t, I64 y] (.tup [.agg [I64 (4 * t.scr.x), I64 (6 * y + 5), I64 4, I64 1], BL true]) := by
  have hx := ok.x
  have hy := ok.y
  have hc := ok.c2
  have hr := ok.r2
  have hp := trm_pure t
  refine CallP.intro2 au_pu au_pu ?_
  refine CallT.intro tab_ok Tryd.func74 rfl (by kernel_rfl) (Nat.le_of_ble_eq_true rfl) ?_
  refine VC.reg tab_ok [2] rfl ?_
  refine VX.newI rfl rfl ?_
  refine VX.new rfl rfl ?_
  refine VX.meek rfl ?_
  refine VX.nil ?_
  refine VC.reg tab_ok [] rfl ?_
  refine VX.meek rfl ?_
  first | refine VX.meek rfl ?_ | refine VX.loadI rfl rfl au_l ?_ | refine VX.loadP rfl rfl rfl au_l ?_
  refine VX.callP0 rfl rfl rfl (cursor_p t.scr) ?_
  iterate 5 refine VX.meek rfl ?_
  refine VX.nil ?_
  refine VC.reg tab_ok [] rfl ?_
  refine VX.meek rfl ?_
  first | refine VX.meek rfl ?_ | refine VX.loadI rfl rfl au_l ?_ | refine VX.loadP rfl rfl rfl au_l ?_
  refine VX.callP0 rfl rfl rfl (size_c t.scr) ?_
  iterate 5 refine VX.meek rfl ?_
  refine VX.nil ?_
  refine VC.seq ?_
  refine VC.reg tab_ok [] rfl ?_
  iterate 4 refine VX.meek rfl ?_
  refine' VX.merge (d := 29) [_, _, _, _] rfl ?_ rfl ?_
  rotate_left
  · refine VX.guard rfl rfl (fun hb3_3 => ?_) (fun hb3_3 => ?_)
    · have ghb3_3 := hb3_3
      try simp only [au_std, Bool.not_true, Bool.not_false] at ghb3_3
      refine VX.meek rfl ?_
      refine VX.guardT rfl rfl hb3_3 ?_
      refine VX.meek rfl ?_
      refine VX.guardT rfl rfl hb3_3 ?_
      refine VX.meek rfl ?_
      refine VX.pickO rfl (fun _ => rfl) ?_
      exact VX.nil ⟨rfl, rfl⟩
    · refine VX.guardF rfl rfl hb3_3 ?_
      refine VX.guardF rfl rfl hb3_3 ?_
      exact VX.pickO rfl (fun h => absurd (h.symm.trans hb3_3) (by decide)) (VX.nil ⟨rfl, rfl⟩)
  refine VX.nil ?_
  refine VC.cond rfl (fun hc0 => ?_) (fun hc0 => ?_)
  · exact absurd hc0 (by simp; omega)
  · (try simp only [au_std] at hc0)
    refine VC.skip ?_
    refine VC.reg tab_ok [] rfl ?_
    refine VX.meek rfl ?_
    first | refine VX.mul rfl rfl (by omega) ?_ | refine VX.meek rfl ?_
    refine VX.meek rfl ?_
    first | refine VX.mul rfl rfl (by omega) ?_ | refine VX.meek rfl ?_
    first | refine VX.add rfl rfl (by omega) ?_ | refine VX.meek rfl ?_
    refine VX.meek rfl ?_
    refine VX.store rfl rfl rfl rfl rfl au_sY rfl ?_
    refine VX.meek rfl ?_
    refine VX.nil ?_
    refine VC.ret ?_
    exact ⟨trivial, _, rfl, Cv.eq (by first | rfl | (obtain ⟨e1, -⟩ := hn; rw [← e1]; rfl)) rfl⟩
theorem rect_f (t : Trm) (y : Nat) (ok : t.scr.Ok) (hn : ¬ (t.scr.y = y ∧ t.scr.x < t.scr.cols)) : CallP Tryd.prog 74 [trmT t, I64 y] (.tup [.agg [I64 0, I64 0, I64 0, I64 0], BL false]) := by
  have hx := ok.x
  have hy := ok.y
  have hc := ok.c2
  have hr := ok.r2
  have hp := trm_pure t
  refine CallP.intro2 au_pu au_pu ?_
  refine CallT.intro tab_ok Tryd.func74 rfl (by kernel_rfl) (Nat.le_of_ble_eq_true rfl) ?_
  refine VC.reg tab_ok [2] rfl ?_
  refine VX.newI rfl rfl ?_
  refine VX.new rfl rfl ?_
  refine VX.meek rfl ?_
  refine VX.nil ?_
  refine VC.reg tab_ok [] rfl ?_
  refine VX.meek rfl ?_
  first | refine VX.meek rfl ?_ | refine VX.loadI rfl rfl au_l ?_ | refine VX.loadP rfl rfl rfl au_l ?_
  refine VX.callP0 rfl rfl rfl (cursor_p t.scr) ?_
  iterate 5 refine VX.meek rfl ?_
  refine VX.nil ?_
  refine VC.reg tab_ok [] rfl ?_
  refine VX.meek rfl ?_
  first | refine VX.meek rfl ?_ | refine VX.loadI rfl rfl au_l ?_ | refine VX.loadP rfl rfl rfl au_l ?_
  refine VX.callP0 rfl rfl rfl (size_c t.scr) ?_
  iterate 5 refine VX.meek rfl ?_
  refine VX.nil ?_
  refine VC.seq ?_
  refine VC.reg tab_ok [] rfl ?_
  iterate 4 refine VX.meek rfl ?_
  refine' VX.merge (d := 29) [_, _, _, _] rfl ?_ rfl ?_
  rotate_left
  · refine VX.guard rfl rfl (fun hb3_3 => ?_) (fun hb3_3 => ?_)
    · have ghb3_3 := hb3_3
      try simp only [au_std, Bool.not_true, Bool.not_false] at ghb3_3
      refine VX.meek rfl ?_
      refine VX.guardT rfl rfl hb3_3 ?_
      refine VX.meek rfl ?_
      refine VX.guardT rfl rfl hb3_3 ?_
      refine VX.meek rfl ?_
      refine VX.pickO rfl (fun _ => rfl) ?_
      exact VX.nil ⟨rfl, rfl⟩
    · refine VX.guardF rfl rfl hb3_3 ?_
      refine VX.guardF rfl rfl hb3_3 ?_
      exact VX.pickO rfl (fun h => absurd (h.symm.trans hb3_3) (by decide)) (VX.nil ⟨rfl, rfl⟩)
  refine VX.nil ?_
  refine VC.cond rfl (fun hc0 => ?_) (fun hc0 => ?_)
  · (try simp only [au_std] at hc0)
    refine VC.reg tab_ok [] rfl ?_
    refine VX.meek rfl ?_
    refine VX.store rfl rfl rfl rfl rfl au_sY rfl ?_
    refine VX.meek rfl ?_
    refine VX.nil ?_
    refine VC.ret ?_
    exact ⟨trivial, _, rfl, Cv.eq (by first | rfl | (obtain ⟨e1, -⟩ := hn; rw [← e1]; rfl)) rfl⟩
  · exact absurd hc0 (by simp; omega)
def drawnL (t : Trm) (y : Nat) : List Rq :=
  ⟨36, [t.win, t.pen, 0, 6 * y + 5, 1], t.scr.rowN y, []⟩ :: if t.scr.y = y ∧ t.scr.x < t.scr.cols then [⟨30, [t.win, t.pen], [], [4 * t.scr.x, 6 * y + 5, 4, 1]⟩] else []
theorem drawn_p (t : Trm) (y : Nat) (ok : t.scr.Ok) (h : y < t.scr.rows) : CallP Tryd.prog 45 [trmT t, I64 y] (rqT (drawnL t y)) := by
  have hr := ok.r2
  have hp := trm_pure t
  by_cases hn : t.scr.y = y ∧ t.scr.x < t.scr.cols
  case pos =>
    rw [show drawnL t y = [⟨36, [t.win, t.pen, 0, 6 * y + 5, 1], t.scr.rowN y, []⟩, ⟨30, [t.win, t.pen], [], [4 * t.scr.x, 6 * y + 5, 4, 1]⟩] from by unfold drawnL; rw [if_pos hn]]
    refine CallP.intro2 au_pu au_pu ?_
    refine CallT.intro tab_ok Tryd.func45 rfl (by kernel_rfl) (Nat.le_of_ble_eq_true rfl) ?_
    refine VC.reg tab_ok [2] rfl ?_
    refine VX.newI rfl rfl ?_
    refine VX.meek rfl ?_
    refine VX.nil ?_
    refine VC.drw tab_ok [] [_, _, _, _, _, _, _, _, _, _, _, _, _, _, _] rfl (by kernel_rfl) (by kernel_rfl) ?_
    refine VX.meek rfl ?_
    first | refine VX.meek rfl ?_ | refine VX.loadI rfl rfl au_l ?_ | refine VX.loadP rfl rfl rfl au_l ?_
    refine VX.meek rfl ?_
    first | refine VX.meek rfl ?_ | refine VX.loadI rfl rfl au_l ?_ | refine VX.loadP rfl rfl rfl au_l ?_
    refine VX.meek rfl ?_
    first | refine VX.mul rfl rfl (by omega) ?_ | refine VX.meek rfl ?_
    first | refine VX.add rfl rfl (by omega) ?_ | refine VX.meek rfl ?_
    refine VX.new rfl rfl ?_
    refine VX.meek rfl ?_
    first | refine VX.meek rfl ?_ | refine VX.loadI rfl rfl au_l ?_ | refine VX.loadP rfl rfl rfl au_l ?_
    refine VX.meek rfl ?_
    refine VX.callP0 rfl rfl rfl (row_p t.scr y ok h) ?_
    refine VX.meek rfl ?_
    refine VX.new rfl rfl ?_
    refine VX.meek rfl ?_
    refine VX.nil ?_
    refine VX.nil ?_
    refine VC.seq ?_
    refine VC.reg tab_ok [] rfl ?_
    first | refine VX.meek rfl ?_ | refine VX.loadI rfl rfl au_l ?_ | refine VX.loadP rfl rfl rfl au_l ?_
    refine VX.meek rfl ?_
    refine VX.callP0 rfl rfl rfl (rect_t t y ok hn) ?_
    iterate 3 refine VX.meek rfl ?_
    refine VX.new rfl rfl ?_
    refine VX.store rfl rfl rfl rfl rfl au_sY rfl ?_
    refine VX.meek rfl ?_
    refine VX.nil ?_
    refine VC.reg tab_ok [] rfl ?_
    refine VX.meek rfl ?_
    refine VX.nil ?_
    refine VC.condT rfl ?_
    refine VC.regN tab_ok [45] rfl ?_
    iterate 2 refine VX.meek rfl ?_
    first | refine VX.meek rfl ?_ | refine VX.loadI rfl rfl au_l ?_ | refine VX.loadP rfl rfl rfl au_l ?_
    refine VX.meek rfl ?_
    first | refine VX.meek rfl ?_ | refine VX.loadI rfl rfl au_l ?_ | refine VX.loadP rfl rfl rfl au_l ?_
    refine VX.new rfl rfl ?_
    refine VX.meek rfl ?_
    first | refine VX.meek rfl ?_ | refine VX.loadI rfl rfl au_l ?_ | refine VX.loadP rfl rfl rfl au_l ?_
    refine VX.meek rfl ?_
    first | refine VX.meek rfl ?_ | refine VX.loadI rfl rfl au_l ?_ | refine VX.loadP rfl rfl rfl au_l ?_
    refine VX.meek rfl ?_
    first | refine VX.meek rfl ?_ | refine VX.loadI rfl rfl au_l ?_ | refine VX.loadP rfl rfl rfl au_l ?_
    refine VX.meek rfl ?_
    first | refine VX.meek rfl ?_ | refine VX.loadI rfl rfl au_l ?_ | refine VX.loadP rfl rfl rfl au_l ?_
    refine VX.new rfl rfl ?_
    refine VX.meek rfl ?_
    refine VX.newI rfl rfl ?_
    first | refine VX.appendNil rfl rfl rfl rfl rfl rfl au_sY au_sY au_sY ?_ | refine VX.append rfl rfl rfl rfl rfl rfl rfl rfl au_sY au_sY au_sY au_sY au_sY ?_
    refine VX.meek rfl ?_
    refine VX.nil ?_
    refine VC.reg tab_ok [] rfl ?_
    iterate 2 refine VX.meek rfl ?_
    refine VX.nil ?_
    refine VC.ret ?_
    exact ⟨trivial, _, rfl, Cv.fslc0 ⟨rfl, by simp⟩ au_fr⟩
  case neg =>
    rw [show drawnL t y = [⟨36, [t.win, t.pen, 0, 6 * y + 5, 1], t.scr.rowN y, []⟩] from by unfold drawnL; rw [if_neg hn]]
    refine CallP.intro2 au_pu au_pu ?_
    refine CallT.intro tab_ok Tryd.func45 rfl (by kernel_rfl) (Nat.le_of_ble_eq_true rfl) ?_
    refine VC.reg tab_ok [2] rfl ?_
    refine VX.newI rfl rfl ?_
    refine VX.meek rfl ?_
    refine VX.nil ?_
    refine VC.drw tab_ok [] [_, _, _, _, _, _, _, _, _, _, _, _, _, _, _] rfl (by kernel_rfl) (by kernel_rfl) ?_
    refine VX.meek rfl ?_
    first | refine VX.meek rfl ?_ | refine VX.loadI rfl rfl au_l ?_ | refine VX.loadP rfl rfl rfl au_l ?_
    refine VX.meek rfl ?_
    first | refine VX.meek rfl ?_ | refine VX.loadI rfl rfl au_l ?_ | refine VX.loadP rfl rfl rfl au_l ?_
    refine VX.meek rfl ?_
    first | refine VX.mul rfl rfl (by omega) ?_ | refine VX.meek rfl ?_
    first | refine VX.add rfl rfl (by omega) ?_ | refine VX.meek rfl ?_
    refine VX.new rfl rfl ?_
    refine VX.meek rfl ?_
    first | refine VX.meek rfl ?_ | refine VX.loadI rfl rfl au_l ?_ | refine VX.loadP rfl rfl rfl au_l ?_
    refine VX.meek rfl ?_
    refine VX.callP0 rfl rfl rfl (row_p t.scr y ok h) ?_
    refine VX.meek rfl ?_
    refine VX.new rfl rfl ?_
    refine VX.meek rfl ?_
    refine VX.nil ?_
    refine VX.nil ?_
    refine VC.seq ?_
    refine VC.reg tab_ok [] rfl ?_
    first | refine VX.meek rfl ?_ | refine VX.loadI rfl rfl au_l ?_ | refine VX.loadP rfl rfl rfl au_l ?_
    refine VX.meek rfl ?_
    refine VX.callP0 rfl rfl rfl (rect_f t y ok hn) ?_
    iterate 3 refine VX.meek rfl ?_
    refine VX.new rfl rfl ?_
    refine VX.store rfl rfl rfl rfl rfl au_sY rfl ?_
    refine VX.meek rfl ?_
    refine VX.nil ?_
    refine VC.reg tab_ok [] rfl ?_
    refine VX.meek rfl ?_
    refine VX.nil ?_
    refine VC.condF rfl ?_
    refine VC.skip ?_
    refine VC.reg tab_ok [] rfl ?_
    iterate 2 refine VX.meek rfl ?_
    refine VX.nil ?_
    refine VC.ret ?_
    exact ⟨trivial, _, rfl, Cv.fslc0 ⟨rfl, by simp⟩ au_fr⟩
end
section
open Go.RowKit
set_option maxRecDepth 10000
set_option maxHeartbeats 1000000
theorem ba_app (a b : List UInt8) : (⟨a.toArray⟩ ++ ⟨b.toArray⟩ : ByteArray) = ⟨(a ++ b).toArray⟩ := by
  apply ByteArray.ext
  rw [ByteArray.data_append]
  simp
section
variable {q : Bool} {P : Program} {tab : Tab} {im : List Nat} {ds : List (Option Nat)} {l : List Oper} {E : Env} {H : Hp} {K : Env → Hp → Prop} {d : Nat} {ty : TypeId} {pos : String} {after : Array Edge}
theorem VX.strAdd [Dr] {x y : Operand} {t t2 : Nat} {a b : List UInt8} (hx : E.opd x = some (strT a)) (hy : E.opd y = some (strT b)) (h : a.length + b.length < 9223372036854775808) (k : VX q P tab im ds l ((d, strT (a ++ b)) :: E) H K) : VX q P tab im ds (⟨some d, .binOp .add t x y t2, ty, pos, after, none⟩ :: l) E H K := by
  refine VX.meek (t := strT (a ++ b)) ?_ k
  simp only [opM, hx, hy, mBin, binStr]
  rw [if_pos (show (⟨a.toArray⟩ : ByteArray).size + (⟨b.toArray⟩ : ByteArray).size < 2 ^ 63 from h), ba_app]
  rfl
end
theorem and255 {s : Int} (h : 0 ≤ s ∧ s < 65536) : bitV .and .i64 s 255 = s % 256 := by
  obtain ⟨n, rfl⟩ := Int.eq_ofNat_of_zero_le h.1
  have e : (BitVec.ofInt 64 (n : Int) &&& BitVec.ofInt 64 255).toNat = n % 256 := by
    rw [BitVec.toNat_and]
    have e1 : (BitVec.ofInt 64 (n : Int)).toNat = n := by simp only [BitVec.toNat_ofInt]; omega
    have e2 : (BitVec.ofInt 64 255).toNat = 2 ^ 8 - 1 := by decide
    rw [e1, e2, Nat.and_two_pow_sub_one_eq_mod]
  show IntKind.i64.wrap ((BitVec.ofInt 64 (n : Int) &&& BitVec.ofInt 64 255).toNat : Int) = _
  rw [e, wrap_in (by omega)]
  omega
def sbU (c : Int) : UInt8 := UInt8.ofNat (sby c).toNat
def lbU (c m : Int) : UInt8 := UInt8.ofNat (lby c m).toNat
theorem sbU_eq (c : Int) : sby c = ((sbU c).toNat : Int) := by
  have h : 0 ≤ sby c ∧ sby c < 256 := by
    unfold sby
    split
    · omega
    · split <;> omega
  unfold sbU
  rw [UInt8.toNat_ofNat']
  omega
theorem lbU_eq (c m : Int) : lby c m = ((lbU c m).toNat : Int) := by
  have h : 0 ≤ lby c m ∧ lby c m < 256 := by
    unfold lby
    split
    · rename_i k
      unfold lok at k
      simp at k
      split <;> omega
    · omega
  unfold lbU
  rw [UInt8.toNat_ofNat']
  omega
def typ (l : List UInt8) (c m : Int) : List UInt8 :=
  if 1000 ≤ l.length then l else if sok c = true ∧ m = 0 then l ++ [sbU c] else if lok c m = true then l ++ [lbU c m] else l
abbrev keyN (w c s : Int) : List Int := [w, 0, c, s, 0, 0, 0, 0, 1]
theorem pressed_p (t : Trm) (w c s : Int) (hs : 0 ≤ s ∧ s < 65536) (hl : t.typed.length ≤ 100000) : CallP Tryd.prog 70 [trmT t, cIf (keyN w c s)] (.tup [trmT { t with typed := typ t.typed c (s % 256) }, .islc [] 0 none]) := by
  have hsp := special_p c
  rw [sbU_eq] at hsp
  have hle := letter_p c (s % 256)
  rw [lbU_eq] at hle
  have ha := and255 hs
  have hp := trm_pure t
  have hpr : ∀ l, T.pureL (trmC { t with typed := l }) = true := fun l => trm_pure _
  unfold typ
  generalize sbU c = sb at *
  generalize lbU c (s % 256) = lb at *
  generalize hm : s % 256 = m at *
  refine CallP.intro2 au_pu au_pu ?_
  refine CallT.intro tab_ok Tryd.func70 rfl (by kernel_rfl) (Nat.le_of_ble_eq_true rfl) ?_
  refine VC.reg tab_ok [] rfl ?_
  refine VX.new rfl rfl ?_
  refine VX.new rfl rfl ?_
  refine VX.meek rfl ?_
  refine VX.nil ?_
  refine VC.seq ?_
  refine VC.reg tab_ok [] rfl ?_
  iterate 3 refine VX.meek rfl ?_
  refine VX.nil ?_
  refine VC.cond rfl (fun hc0 => ?_) (fun hc0 => ?_)
  · exact absurd hc0 (by show ¬ (((9 : Nat) : Int) != 9) = true; decide)
  · (try simp only [au_std] at hc0)
    refine VC.skip ?_
    refine VC.drw tab_ok [] [_, _, _, _, _, _, _, _, _] rfl (by kernel_rfl) (by kernel_rfl) ?_
    refine VX.meek rfl ?_
    first | refine VX.idxI rfl rfl rfl rfl rfl rfl (by omega) ?_ | refine VX.idxO0 rfl rfl rfl rfl rfl rfl rfl (by omega) ?_ | refine VX.idxO0 rfl rfl rfl rfl rfl rfl au_z (by omega) ?_ | refine VX.idxO rfl rfl rfl rfl rfl rfl rfl (by omega) ?_ | refine VX.idxI rfl rfl rfl rfl rfl au_z (by omega) ?_ | refine VX.idxO rfl rfl rfl rfl rfl rfl au_z (by omega) ?_ | refine VX.meek rfl ?_
    first | refine VX.meek rfl ?_ | refine VX.loadI rfl rfl au_l ?_ | refine VX.loadP rfl rfl rfl au_l ?_
    refine VX.meek rfl ?_
    first | refine VX.idxI rfl rfl rfl rfl rfl rfl (by omega) ?_ | refine VX.idxO0 rfl rfl rfl rfl rfl rfl rfl (by omega) ?_ | refine VX.idxO0 rfl rfl rfl rfl rfl rfl au_z (by omega) ?_ | refine VX.idxO rfl rfl rfl rfl rfl rfl rfl (by omega) ?_ | refine VX.idxI rfl rfl rfl rfl rfl au_z (by omega) ?_ | refine VX.idxO rfl rfl rfl rfl rfl rfl au_z (by omega) ?_ | refine VX.meek rfl ?_
    first | refine VX.meek rfl ?_ | refine VX.loadI rfl rfl au_l ?_ | refine VX.loadP rfl rfl rfl au_l ?_
    refine VX.meek (t := I64 m) (by show some (T.v (.int .i64 (bitV .and .i64 s 255)), (none : Option (Nat × List T))) = _; rw [ha]) ?_
    iterate 2 refine VX.meek rfl ?_
    refine VX.nil ?_
    refine VX.nil ?_
    refine VC.seq ?_
    refine VC.reg tab_ok [] rfl ?_
    refine VX.meek rfl ?_
    first | refine VX.meek rfl ?_ | refine VX.loadI rfl rfl au_l ?_ | refine VX.loadP rfl rfl rfl au_l ?_
    refine VX.meek (t := I64 (t.typed.length : Nat)) rfl ?_
    refine VX.meek rfl ?_
    refine VX.nil ?_
    refine VC.cond rfl (fun hc1 => ?_) (fun hc1 => ?_)
    · (try simp only [au_std] at hc1); have hl1 : 1000 ≤ t.typed.length := (by omega); rw [if_pos hl1]
      refine VC.reg tab_ok [] rfl ?_
      first | refine VX.meek rfl ?_ | refine VX.loadI rfl rfl au_l ?_ | refine VX.loadP rfl rfl rfl au_l ?_
      refine VX.store rfl rfl rfl rfl rfl au_sY rfl ?_
      refine VX.meek rfl ?_
      refine VX.nil ?_
      refine VC.ret ?_
      exact ⟨trivial, _, rfl, Cv.tup (CvL.cons (Cv.eq rfl (hpr _)) (CvL.cons (Cv.nil _ (.inl rfl)) CvL.nil))⟩
    · (try simp only [au_std] at hc1); have hl1 : ¬ 1000 ≤ t.typed.length := (by omega); rw [if_neg hl1]
      refine VC.skip ?_
      refine VC.seq ?_
      refine VC.reg tab_ok [] rfl ?_
      refine VX.meek rfl ?_
      refine VX.callP0 rfl rfl rfl (hsp) ?_
      iterate 5 refine VX.meek rfl ?_
      refine VX.nil ?_
      refine VC.reg tab_ok [] rfl ?_
      iterate 2 refine VX.meek rfl ?_
      refine' VX.merge (d := 37) [_, _, _] rfl ?_ rfl ?_
      rotate_left
      · refine VX.guard rfl rfl (fun hb7_1 => ?_) (fun hb7_1 => ?_)
        · have ghb7_1 := hb7_1
          try simp only [au_std, Bool.not_true, Bool.not_false] at ghb7_1
          refine VX.meek rfl ?_
          refine VX.guardT rfl rfl hb7_1 ?_
          refine VX.meek rfl ?_
          refine VX.pickA rfl (fun _ => rfl) ?_
          exact VX.nil ⟨rfl, rfl⟩
        · refine VX.guardF rfl rfl hb7_1 ?_
          exact VX.pickA rfl (fun h => absurd (h.symm.trans hb7_1) (by decide)) (VX.nil ⟨rfl, rfl⟩)
      refine VX.nil ?_
      refine VC.cond rfl (fun hc2 => ?_) (fun hc2 => ?_)
      · (try simp only [au_std] at hc2); rw [if_pos hc2]
        refine VC.reg tab_ok [41] rfl ?_
        refine VX.meek rfl ?_
        first | refine VX.meek rfl ?_ | refine VX.loadI rfl rfl au_l ?_ | refine VX.loadP rfl rfl rfl au_l ?_
        refine VX.meek rfl ?_
        refine VX.newI rfl rfl ?_
        first | refine VX.strI (xs := [sb]) rfl rfl rfl rfl rfl rfl rfl (Nat.le_of_ble_eq_true rfl) rfl ?_ | refine VX.strY (xs := [sb]) rfl rfl rfl rfl rfl rfl rfl rfl (Nat.le_of_ble_eq_true rfl) rfl ?_
        refine VX.strAdd (a := t.typed) (b := [sb]) rfl rfl (by show t.typed.length + 1 < _; omega) ?_
        refine VX.meek rfl ?_
        refine VX.store rfl rfl rfl rfl rfl au_sY rfl ?_
        refine VX.nil ?_
        refine VC.reg tab_ok [] rfl ?_
        first | refine VX.meek rfl ?_ | refine VX.loadI rfl rfl au_l ?_ | refine VX.loadP rfl rfl rfl au_l ?_
        refine VX.store rfl rfl rfl rfl rfl au_sY rfl ?_
        refine VX.meek rfl ?_
        refine VX.nil ?_
        refine VC.ret ?_
        exact ⟨trivial, _, rfl, Cv.tup (CvL.cons (Cv.eq rfl (hpr _)) (CvL.cons (Cv.nil _ (.inl rfl)) CvL.nil))⟩
      · (try simp only [au_std] at hc2); have hn2 : ¬ (sok c = true ∧ m = 0) := (by intro h; have := hc2 h.1; omega); rw [if_neg hn2]
        refine VC.skip ?_
        refine VC.seq ?_
        refine VC.reg tab_ok [] rfl ?_
        iterate 2 refine VX.meek rfl ?_
        refine VX.callP0 rfl rfl rfl (hle) ?_
        iterate 5 refine VX.meek rfl ?_
        refine VX.nil ?_
        refine VC.reg tab_ok [] rfl ?_
        refine VX.meek rfl ?_
        refine VX.nil ?_
        refine VC.cond rfl (fun hc3 => ?_) (fun hc3 => ?_)
        · (try simp only [au_std] at hc3); rw [if_pos hc3]
          refine VC.regN tab_ok [56] rfl ?_
          refine VX.meek rfl ?_
          first | refine VX.meek rfl ?_ | refine VX.loadI rfl rfl au_l ?_ | refine VX.loadP rfl rfl rfl au_l ?_
          refine VX.meek rfl ?_
          refine VX.newI rfl rfl ?_
          first | refine VX.strI (xs := [lb]) rfl rfl rfl rfl rfl rfl rfl (Nat.le_of_ble_eq_true rfl) rfl ?_ | refine VX.strY (xs := [lb]) rfl rfl rfl rfl rfl rfl rfl rfl (Nat.le_of_ble_eq_true rfl) rfl ?_
          refine VX.strAdd (a := t.typed) (b := [lb]) rfl rfl (by show t.typed.length + 1 < _; omega) ?_
          refine VX.meek rfl ?_
          refine VX.store rfl rfl rfl rfl rfl au_sY rfl ?_
          refine VX.nil ?_
          refine VC.reg tab_ok [] rfl ?_
          first | refine VX.meek rfl ?_ | refine VX.loadI rfl rfl au_l ?_ | refine VX.loadP rfl rfl rfl au_l ?_
          refine VX.store rfl rfl rfl rfl rfl au_sY rfl ?_
          refine VX.meek rfl ?_
          refine VX.nil ?_
          refine VC.ret ?_
          exact ⟨trivial, _, rfl, Cv.tup (CvL.cons (Cv.eq rfl (hpr _)) (CvL.cons (Cv.nil _ (.inl rfl)) CvL.nil))⟩
        · (try simp only [au_std] at hc3); have hn3 : ¬ (lok c m = true) := (by rw [hc3]; simp); rw [if_neg hn3]
          refine VC.skip ?_
          refine VC.reg tab_ok [] rfl ?_
          first | refine VX.meek rfl ?_ | refine VX.loadI rfl rfl au_l ?_ | refine VX.loadP rfl rfl rfl au_l ?_
          refine VX.store rfl rfl rfl rfl rfl au_sY rfl ?_
          refine VX.meek rfl ?_
          refine VX.nil ?_
          refine VC.ret ?_
          exact ⟨trivial, _, rfl, Cv.tup (CvL.cons (Cv.eq rfl (hpr _)) (CvL.cons (Cv.nil _ (.inl rfl)) CvL.nil))⟩
end
section
open Go.RowKit
set_option maxRecDepth 10000
set_option maxHeartbeats 1000000
theorem au_fz {p : Prop} (h : p := by first | (refine Cv.fslc0 ⟨rfl, by simp⟩ (CvL.eq ?_ (encL_pure _ _)); kernel_rfl) | (refine Cv.islc (CvL.eq ?_ (encL_pure _ _)) (.inr rfl); kernel_rfl)) : p := h
abbrev U16 (n : Int) : T := .v (.int .u16 n)
abbrev U32 (n : Int) : T := .v (.int .u32 n)
abbrev outT (k c : Int) (n : List Int) : T := .agg [I64 k, I64 c, I64 0, cIf n, strT [], .islc [] 0 none]
abbrev actT (d : Int) (s : List UInt8) (y h c m : Int) : T := .agg [U8 d, strT s, U8 y, U8 h, U16 c, U16 m]
abbrev expN (w y h : Int) : List Int := [w, 0, y, 5, h, 0]
theorem outk_p (d : Int) (s : List UInt8) (y h c m w : Int) (hd : d.tmod 4 ≠ 2) (hc : 0 ≤ c ∧ c < 65536) (hm : 0 ≤ m ∧ m < 65536) (hw : 0 ≤ w ∧ w < 4294967296) : CallP Tryd.prog 15 [actT d s y h c m, U32 w] (outT 2 1 (keyN w c m)) := by
  refine CallP.intro2 au_pu au_pu ?_
  refine CallT.intro tab_ok Tryd.func15 rfl (by kernel_rfl) (Nat.le_of_ble_eq_true rfl) ?_
  refine VC.reg tab_ok [2] rfl ?_
  refine VX.newI rfl rfl ?_
  refine VX.new rfl rfl ?_
  refine VX.nil ?_
  refine VC.reg tab_ok [] rfl ?_
  refine VX.meek rfl ?_
  refine VX.meek (t := I64 w) (by show some (T.v (.int .i64 (IntKind.i64.wrap w)), (none : Option (Nat × List T))) = _; rw [wrap_in (by omega)]) ?_
  refine VX.meek rfl ?_
  refine VX.nil ?_
  refine VC.seq ?_
  refine VC.reg tab_ok [] rfl ?_
  refine VX.meek rfl ?_
  first | refine VX.meek rfl ?_ | refine VX.loadI rfl rfl au_l ?_ | refine VX.loadP rfl rfl rfl au_l ?_
  iterate 2 refine VX.meek rfl ?_
  refine VX.nil ?_
  refine VC.cond rfl (fun hc0 => ?_) (fun hc0 => ?_)
  · exact absurd hc0 (by simp [hd])
  · (try simp only [au_std] at hc0)
    refine VC.skip ?_
    refine VC.reg tab_ok [] rfl ?_
    iterate 2 refine VX.meek rfl ?_
    first | refine VX.meek rfl ?_ | refine VX.loadI rfl rfl au_l ?_ | refine VX.loadP rfl rfl rfl au_l ?_
    refine VX.meek (t := I64 c) (by show some (T.v (.int .i64 (IntKind.i64.wrap c)), (none : Option (Nat × List T))) = _; rw [wrap_in (by omega)]) ?_
    refine VX.meek rfl ?_
    first | refine VX.meek rfl ?_ | refine VX.loadI rfl rfl au_l ?_ | refine VX.loadP rfl rfl rfl au_l ?_
    refine VX.meek (t := I64 m) (by show some (T.v (.int .i64 (IntKind.i64.wrap m)), (none : Option (Nat × List T))) = _; rw [wrap_in (by omega)]) ?_
    refine VX.new rfl rfl ?_
    refine VX.meek rfl ?_
    refine VX.store rfl rfl rfl rfl rfl au_sY rfl ?_
    refine VX.nil ?_
    refine VC.ret ?_
    exact ⟨trivial, _, rfl, Cv.agg (CvL.cons (Cv.pure rfl) (CvL.cons (Cv.pure rfl) (CvL.cons (Cv.pure rfl) (CvL.cons au_fz (CvL.cons (Cv.pure rfl) (CvL.cons (Cv.nil _ (.inl rfl)) CvL.nil))))))⟩
theorem oute_p (d : Int) (s : List UInt8) (y h c m w : Int) (hd : d.tmod 4 = 2) (hc : 0 ≤ y ∧ y < 256) (hm : 0 ≤ h ∧ h < 256) (hw : 0 ≤ w ∧ w < 4294967296) : CallP Tryd.prog 15 [actT d s y h c m, U32 w] (outT 2 10 (expN w y h)) := by
  refine CallP.intro2 au_pu au_pu ?_
  refine CallT.intro tab_ok Tryd.func15 rfl (by kernel_rfl) (Nat.le_of_ble_eq_true rfl) ?_
  refine VC.reg tab_ok [2] rfl ?_
  refine VX.newI rfl rfl ?_
  refine VX.new rfl rfl ?_
  refine VX.nil ?_
  refine VC.reg tab_ok [] rfl ?_
  refine VX.meek rfl ?_
  refine VX.meek (t := I64 w) (by show some (T.v (.int .i64 (IntKind.i64.wrap w)), (none : Option (Nat × List T))) = _; rw [wrap_in (by omega)]) ?_
  refine VX.meek rfl ?_
  refine VX.nil ?_
  refine VC.seq ?_
  refine VC.reg tab_ok [] rfl ?_
  refine VX.meek rfl ?_
  first | refine VX.meek rfl ?_ | refine VX.loadI rfl rfl au_l ?_ | refine VX.loadP rfl rfl rfl au_l ?_
  iterate 2 refine VX.meek rfl ?_
  refine VX.nil ?_
  refine VC.cond rfl (fun hc0 => ?_) (fun hc0 => ?_)
  · (try simp only [au_std] at hc0)
    refine VC.reg tab_ok [] rfl ?_
    iterate 2 refine VX.meek rfl ?_
    first | refine VX.meek rfl ?_ | refine VX.loadI rfl rfl au_l ?_ | refine VX.loadP rfl rfl rfl au_l ?_
    refine VX.meek (t := I64 y) (by show some (T.v (.int .i64 (IntKind.i64.wrap y)), (none : Option (Nat × List T))) = _; rw [wrap_in (by omega)]) ?_
    refine VX.meek rfl ?_
    first | refine VX.meek rfl ?_ | refine VX.loadI rfl rfl au_l ?_ | refine VX.loadP rfl rfl rfl au_l ?_
    refine VX.meek (t := I64 h) (by show some (T.v (.int .i64 (IntKind.i64.wrap h)), (none : Option (Nat × List T))) = _; rw [wrap_in (by omega)]) ?_
    refine VX.new rfl rfl ?_
    refine VX.meek rfl ?_
    refine VX.store rfl rfl rfl rfl rfl au_sY rfl ?_
    refine VX.nil ?_
    refine VC.ret ?_
    exact ⟨trivial, _, rfl, Cv.agg (CvL.cons (Cv.pure rfl) (CvL.cons (Cv.pure rfl) (CvL.cons (Cv.pure rfl) (CvL.cons au_fz (CvL.cons (Cv.pure rfl) (CvL.cons (Cv.nil _ (.inl rfl)) CvL.nil))))))⟩
  · exact absurd hc0 (by simp [hd])
abbrev evK : List Value := [.int .i64 10, .int .i64 1]
abbrev evT : List T := [.clo 69 [] [], .clo 70 [] []]
theorem events_p : CallP Tryd.prog 40 [] (.mp evK evT) := by
  refine CallP.intro2 au_pu au_pu ?_
  refine CallT.intro tab_ok Tryd.func40 rfl (by kernel_rfl) (Nat.le_of_ble_eq_true rfl) ?_
  refine VC.reg tab_ok [] rfl ?_
  refine VX.meek rfl ?_
  refine VX.nil ?_
  refine VC.reg tab_ok [] rfl ?_
  refine VX.makeMap ?_
  refine VX.insNew tab_ok rfl rfl rfl rfl rfl rfl rfl rfl (by first | rfl | assumption | decide) (by first | assumption | (simp; done)) ?_
  refine VX.insNew tab_ok rfl rfl rfl rfl rfl rfl rfl rfl (by first | rfl | assumption | decide) (by first | assumption | (simp; done)) ?_
  iterate 2 refine VX.meek rfl ?_
  refine VX.nil ?_
  refine VC.ret ?_
  exact ⟨trivial, _, rfl, Cv.fom ⟨rfl, by simp⟩ (CvL.pure rfl)⟩
theorem tstep_p (w p f : Int) (S : Scr) (l : List UInt8) (c s : Int) (hs : 0 ≤ s ∧ s < 65536) (hl : l.length ≤ 100000) : CallP Tryd.prog 14 [trmT ⟨true, w, p, f, S, l⟩, outT 2 1 (keyN w c s)] (.tup [trmT ⟨true, w, p, f, S, typ l c (s % 256)⟩, .islc [] 0 none]) := by
  have hp := trm_pure ⟨true, w, p, f, S, l⟩
  have hp2 := trm_pure ⟨true, w, p, f, S, typ l c (s % 256)⟩
  have hpr := pressed_p ⟨true, w, p, f, S, l⟩ w c s hs hl
  refine CallP.intro2 au_pu au_pu ?_
  refine CallT.intro tab_ok Tryd.func14 rfl (by kernel_rfl) (Nat.le_of_ble_eq_true rfl) ?_
  refine VC.reg tab_ok [2, 3] rfl ?_
  refine VX.newI rfl rfl ?_
  refine VX.newI rfl rfl ?_
  refine VX.new rfl rfl ?_
  refine VX.meek rfl ?_
  refine VX.nil ?_
  refine VC.seq ?_
  refine VC.drw tab_ok [] [_, _, _, _, _, _, _, _, _, _, _, _, _, _, _, _, _, _, _, _, _, _, _] rfl (by kernel_rfl) (by kernel_rfl) ?_
  refine VX.meek rfl ?_
  first | refine VX.meek rfl ?_ | refine VX.loadI rfl rfl au_l ?_ | refine VX.loadP rfl rfl rfl au_l ?_
  iterate 2 refine VX.meek rfl ?_
  refine' VX.merge (d := 15) [_, _, _, _] rfl ?_ rfl ?_
  rotate_left
  · refine VX.guard rfl rfl (fun hb1_3 => ?_) (fun hb1_3 => ?_)
    · have ghb1_3 := hb1_3
      try simp only [au_std, Bool.not_true, Bool.not_false] at ghb1_3
      refine VX.meek rfl ?_
      refine VX.guardT rfl rfl hb1_3 ?_
      first | refine VX.meek rfl ?_ | refine VX.loadI rfl rfl au_l ?_ | refine VX.loadP rfl rfl rfl au_l ?_
      refine VX.guardT rfl rfl hb1_3 ?_
      refine VX.meek rfl ?_
      refine VX.pickO rfl (fun _ => rfl) ?_
      exact VX.nil ⟨rfl, rfl⟩
    · refine VX.guardF rfl rfl hb1_3 ?_
      refine VX.guardF rfl rfl hb1_3 ?_
      exact VX.pickO rfl (fun h => absurd (h.symm.trans hb1_3) (by decide)) (VX.nil ⟨rfl, rfl⟩)
  refine VX.meek rfl ?_
  refine' VX.merge (d := 21) [_, _, _, _, _] rfl ?_ rfl ?_
  rotate_left
  · refine VX.guard rfl rfl (fun hb1_8 => ?_) (fun hb1_8 => ?_)
    · have ghb1_8 := hb1_8
      try simp only [au_std, Bool.not_true, Bool.not_false] at ghb1_8
      refine VX.meek rfl ?_
      refine VX.guardT rfl rfl hb1_8 ?_
      first | refine VX.meek rfl ?_ | refine VX.loadI rfl rfl au_l ?_ | refine VX.loadP rfl rfl rfl au_l ?_
      refine VX.guardT rfl rfl hb1_8 ?_
      refine VX.meek rfl ?_
      refine VX.guardT rfl rfl hb1_8 ?_
      refine VX.meek rfl ?_
      refine VX.pickO rfl (fun _ => rfl) ?_
      exact VX.nil ⟨rfl, rfl⟩
    · refine VX.guardF rfl rfl hb1_8 ?_
      refine VX.guardF rfl rfl hb1_8 ?_
      refine VX.guardF rfl rfl hb1_8 ?_
      exact VX.pickO rfl (fun h => absurd (h.symm.trans hb1_8) (by decide)) (VX.nil ⟨rfl, rfl⟩)
  refine VX.meek rfl ?_
  refine' VX.merge (d := 30) [_, _, _, _, _, _, _, _] rfl ?_ rfl ?_
  rotate_left
  · refine VX.guard rfl rfl (fun hb1_14 => ?_) (fun hb1_14 => ?_)
    · have ghb1_14 := hb1_14
      try simp only [au_std, Bool.not_true, Bool.not_false] at ghb1_14
      refine VX.meek rfl ?_
      refine VX.guardT rfl rfl hb1_14 ?_
      first | refine VX.meek rfl ?_ | refine VX.loadI rfl rfl au_l ?_ | refine VX.loadP rfl rfl rfl au_l ?_
      refine VX.guardT rfl rfl hb1_14 ?_
      first | refine VX.idxI (m := 0) rfl rfl rfl rfl rfl rfl (by omega) ?_ | refine VX.idxO (m := 0) rfl rfl rfl rfl rfl rfl rfl (by omega) ?_ | refine VX.meek rfl ?_
      refine VX.guardT rfl rfl hb1_14 ?_
      first | refine VX.meek rfl ?_ | refine VX.loadI rfl rfl au_l ?_ | refine VX.loadP rfl rfl rfl au_l ?_
      refine VX.guardT rfl rfl hb1_14 ?_
      refine VX.meek rfl ?_
      refine VX.guardT rfl rfl hb1_14 ?_
      first | refine VX.meek rfl ?_ | refine VX.loadI rfl rfl au_l ?_ | refine VX.loadP rfl rfl rfl au_l ?_
      refine VX.guardT rfl rfl hb1_14 ?_
      refine VX.meek rfl ?_
      refine VX.pickO rfl (fun _ => rfl) ?_
      exact VX.nil ⟨rfl, rfl⟩
    · refine VX.guardF rfl rfl hb1_14 ?_
      refine VX.guardF rfl rfl hb1_14 ?_
      refine VX.guardF rfl rfl hb1_14 ?_
      refine VX.guardF rfl rfl hb1_14 ?_
      refine VX.guardF rfl rfl hb1_14 ?_
      refine VX.guardF rfl rfl hb1_14 ?_
      exact VX.pickO rfl (fun h => absurd (h.symm.trans hb1_14) (by decide)) (VX.nil ⟨rfl, rfl⟩)
  refine VX.nil ?_
  refine VX.nil ?_
  refine VC.cond rfl (fun hc0 => ?_) (fun hc0 => ?_)
  · exact absurd hc0 (by show ¬ (false || ((2 : Int) != 2) || (((9 : Nat) : Int) == 0) || (w != w)) = true; simp)
  · (try simp only [au_std] at hc0)
    refine VC.skip ?_
    refine VC.drw tab_ok [] [_, _, _, _, _, _, _, _, _] rfl (by kernel_rfl) (by kernel_rfl) ?_
    refine VX.callP0 rfl rfl rfl (events_p) ?_
    refine VX.meek rfl ?_
    first | refine VX.meek rfl ?_ | refine VX.loadI rfl rfl au_l ?_ | refine VX.loadP rfl rfl rfl au_l ?_
    first | refine VX.meek rfl ?_ | refine VX.lookO tab_ok rfl rfl rfl rfl ?_
    iterate 5 refine VX.meek rfl ?_
    refine VX.nil ?_
    refine VX.nil ?_
    refine VC.seq ?_
    refine VC.reg tab_ok [] rfl ?_
    iterate 2 refine VX.meek rfl ?_
    refine VX.nil ?_
    refine VC.condF rfl ?_
    refine VC.skip ?_
    refine VC.reg tab_ok [] rfl ?_
    refine VX.meek rfl ?_
    first | refine VX.meek rfl ?_ | refine VX.loadI rfl rfl au_l ?_ | refine VX.loadP rfl rfl rfl au_l ?_
    refine VX.meek rfl ?_
    first | refine VX.meek rfl ?_ | refine VX.loadI rfl rfl au_l ?_ | refine VX.loadP rfl rfl rfl au_l ?_
    refine VX.callP0 rfl rfl rfl (hpr) ?_
    iterate 2 refine VX.meek rfl ?_
    refine VX.store rfl rfl rfl rfl rfl au_sY rfl ?_
    refine VX.meek rfl ?_
    refine VX.nil ?_
    refine VC.ret ?_
    exact ⟨trivial, _, rfl, Cv.tup (CvL.cons (Cv.pure hp2) (CvL.cons (Cv.pure rfl) CvL.nil))⟩
theorem typed_p (t : Trm) : CallP Tryd.prog 25 [trmT t] (.tup [trmT { t with typed := [] }, strT t.typed]) := by
  have hp := trm_pure t
  have hp2 := trm_pure { t with typed := [] }
  refine CallP.intro2 au_pu au_pu ?_
  refine CallT.intro tab_ok Tryd.func25 rfl (by kernel_rfl) (Nat.le_of_ble_eq_true rfl) ?_
  refine VC.reg tab_ok [] rfl ?_
  refine VX.new rfl rfl ?_
  refine VX.new rfl rfl ?_
  refine VX.meek rfl ?_
  refine VX.nil ?_
  refine VC.reg tab_ok [] rfl ?_
  refine VX.meek rfl ?_
  first | refine VX.meek rfl ?_ | refine VX.loadI rfl rfl au_l ?_ | refine VX.loadP rfl rfl rfl au_l ?_
  refine VX.meek rfl ?_
  refine VX.nil ?_
  refine VC.reg tab_ok [] rfl ?_
  refine VX.meek rfl ?_
  refine VX.store rfl rfl rfl rfl rfl au_sY rfl ?_
  refine VX.nil ?_
  refine VC.reg tab_ok [] rfl ?_
  first | refine VX.meek rfl ?_ | refine VX.loadI rfl rfl au_l ?_ | refine VX.loadP rfl rfl rfl au_l ?_
  refine VX.meek rfl ?_
  refine VX.store rfl rfl rfl rfl rfl au_sY rfl ?_
  refine VX.meek rfl ?_
  refine VX.nil ?_
  refine VC.ret ?_
  exact ⟨trivial, _, rfl, Cv.tup (CvL.cons (Cv.pure hp2) (CvL.cons (Cv.pure rfl) CvL.nil))⟩
end
section
open Go.RowKit
set_option maxRecDepth 10000
set_option maxHeartbeats 1000000
theorem numbers_p (a : List Int) (ha : a.length ≤ 1000000) : CallP Tryd.prog 46 [cIf a, cIf a] (BL true) := by
  refine CallP.intro2 au_pu au_pu ?_
  refine CallT.intro tab_ok Tryd.func46 rfl (by kernel_rfl) (Nat.le_of_ble_eq_true rfl) ?_
  refine VC.reg tab_ok [] rfl ?_
  refine VX.meek rfl ?_
  refine VX.nil ?_
  refine VC.seq ?_
  refine VC.reg tab_ok [] rfl ?_
  iterate 5 refine VX.meek rfl ?_
  refine VX.nil ?_
  refine VC.cond rfl (fun hc0 => ?_) (fun hc0 => ?_)
  · exact absurd hc0 (by simp)
  · (try simp only [au_std] at hc0)
    refine VC.skip ?_
    refine VC.seq ?_
    refine VC.reg tab_ok [] rfl ?_
    iterate 3 refine VX.meek rfl ?_
    refine VX.nil ?_
    refine VC.block ?_
    refine VC.loopS (σ := Nat) (fun i => a.length - i) (fun i => i ≤ a.length) (fun i => [(13, I64 i), (0, cIf a), (1, cIf a)]) (fun _ => []) [12] rfl (0) ?_ ?_ ?_
    · refine ⟨[], rfl, by first | trivial | decide, rfl, ?_, ?_⟩ <;> (repeat' first | exact trivial | exact CvB_n | exact CvB_d | exact CvB_o rfl | refine CvE_app ?_ ?_ | refine CvE_cons rfl ?_ ?_ | refine CvH_cons ?_ ?_ | refine CvB_c rfl ?_ | fail) <;> first | exact au_v | (skip)
    · (try dsimp only); omega
    rintro i hi
    refine VC.reg tab_ok [] rfl ?_
    refine VX.meek rfl ?_
    refine VX.nil ?_
    refine VC.seq ?_
    refine VC.cond rfl (fun hc1 => ?_) (fun hc1 => ?_)
    · (try simp only [au_std] at hc1); have hil : i < a.length := (by omega)
      refine VC.skip ?_
      refine VC.seq ?_
      refine VC.block ?_
      refine VC.reg tab_ok [] rfl ?_
      iterate 2 refine VX.meek rfl ?_
      refine VX.nil ?_
      refine VC.drw tab_ok [] [_, _, _, _, _, _, _, _, _] rfl (by kernel_rfl) (by kernel_rfl) ?_
      iterate 2 refine VX.meek rfl ?_
      first | refine VX.idxI rfl rfl rfl rfl rfl rfl (by omega) ?_ | refine VX.idxO0 rfl rfl rfl rfl rfl rfl rfl (by omega) ?_ | refine VX.idxO0 rfl rfl rfl rfl rfl rfl au_z (by omega) ?_ | refine VX.idxO rfl rfl rfl rfl rfl rfl rfl (by omega) ?_ | refine VX.idxI rfl rfl rfl rfl rfl au_z (by omega) ?_ | refine VX.idxO rfl rfl rfl rfl rfl rfl au_z (by omega) ?_ | refine VX.meek rfl ?_
      first | refine VX.meek rfl ?_ | refine VX.loadI rfl rfl au_l ?_ | refine VX.loadP rfl rfl rfl au_l ?_
      iterate 2 refine VX.meek rfl ?_
      first | refine VX.idxI rfl rfl rfl rfl rfl rfl (by omega) ?_ | refine VX.idxO0 rfl rfl rfl rfl rfl rfl rfl (by omega) ?_ | refine VX.idxO0 rfl rfl rfl rfl rfl rfl au_z (by omega) ?_ | refine VX.idxO rfl rfl rfl rfl rfl rfl rfl (by omega) ?_ | refine VX.idxI rfl rfl rfl rfl rfl au_z (by omega) ?_ | refine VX.idxO rfl rfl rfl rfl rfl rfl au_z (by omega) ?_ | refine VX.meek rfl ?_
      first | refine VX.meek rfl ?_ | refine VX.loadI rfl rfl au_l ?_ | refine VX.loadP rfl rfl rfl au_l ?_
      refine VX.meek rfl ?_
      refine VX.nil ?_
      refine VX.nil ?_
      refine VC.cond rfl (fun hc2 => ?_) (fun hc2 => ?_)
      · exact absurd hc2 (by simp)
      · (try simp only [au_std] at hc2)
        refine VC.skip ?_
        refine VC.regN tab_ok [] rfl ?_
        first | refine VX.add rfl rfl (by omega) ?_ | refine VX.meek rfl ?_
        refine VX.meek rfl ?_
        refine VX.nil ?_
        refine ⟨i + 1, by (try dsimp only); omega, ?_, (by refine ⟨[], rfl, by first | trivial | decide, rfl, ?_, ?_⟩ <;> (repeat' first | exact trivial | exact CvB_n | exact CvB_d | exact CvB_o rfl | refine CvE_app ?_ ?_ | refine CvE_cons rfl ?_ ?_ | refine CvH_cons ?_ ?_ | refine CvB_c rfl ?_ | fail) <;> first | exact au_v | (exact Cv.pure rfl))⟩
        (try dsimp only); omega
    · (try simp only [au_std] at hc1)
      refine VC.exit ?_
      refine VC.reg tab_ok [] rfl ?_
      refine VX.meek rfl ?_
      refine VX.nil ?_
      refine VC.ret ?_
      exact ⟨trivial, _, rfl, Cv.eq (by first | rfl | (simp [*]; done)) rfl⟩
theorem same_p (a : List Rq) (ha : a.length ≤ 1000000) (hb : ∀ r ∈ a, r.n.length ≤ 1000000 ∧ r.l.length ≤ 1000000) : CallP Tryd.prog 22 [rqT a, rqT a] (BL true) := by
  refine CallP.intro2 au_pu au_pu ?_
  refine CallT.intro tab_ok Tryd.func22 rfl (by kernel_rfl) (Nat.le_of_ble_eq_true rfl) ?_
  refine VC.reg tab_ok [] rfl ?_
  refine VX.meek rfl ?_
  refine VX.nil ?_
  refine VC.seq ?_
  refine VC.reg tab_ok [] rfl ?_
  iterate 5 refine VX.meek rfl ?_
  refine VX.nil ?_
  refine VC.cond rfl (fun hc0 => ?_) (fun hc0 => ?_)
  · exact absurd hc0 (by simp)
  · (try simp only [au_std] at hc0)
    refine VC.skip ?_
    refine VC.seq ?_
    refine VC.reg tab_ok [] rfl ?_
    iterate 3 refine VX.meek rfl ?_
    refine VX.nil ?_
    refine VC.block ?_
    refine VC.loopS (σ := Nat) (fun i => a.length - i) (fun i => i ≤ a.length) (fun i => [(13, I64 i), (0, rqT a), (1, rqT a)]) (fun _ => []) [12] rfl (0) ?_ ?_ ?_
    · refine ⟨[], rfl, by first | trivial | decide, rfl, ?_, ?_⟩ <;> (repeat' first | exact trivial | exact CvB_n | exact CvB_d | exact CvB_o rfl | refine CvE_app ?_ ?_ | refine CvE_cons rfl ?_ ?_ | refine CvH_cons ?_ ?_ | refine CvB_c rfl ?_ | fail) <;> first | exact au_v | (skip)
    · (try dsimp only); omega
    rintro i hi
    refine VC.reg tab_ok [] rfl ?_
    refine VX.meek rfl ?_
    refine VX.nil ?_
    refine VC.seq ?_
    refine VC.cond rfl (fun hc1 => ?_) (fun hc1 => ?_)
    · (try simp only [au_std] at hc1); have hil : i < a.length := (by omega); have hm : a[i]! ∈ a := List.mem_iff_getElem?.2 ⟨i, getE hil⟩; have hbb := hb _ hm; have hn1 := numbers_p (a[i]!).n hbb.1; have hn2 := numbers_p (a[i]!).l hbb.2
      refine VC.skip ?_
      refine VC.seq ?_
      refine VC.block ?_
      refine VC.reg tab_ok [] rfl ?_
      iterate 2 refine VX.meek rfl ?_
      refine VX.nil ?_
      refine VC.drw tab_ok [] [_, _, _, _, _, _, _, _, _, _, _, _, _, _, _, _, _, _, _, _, _, _, _, _, _, _, _, _, _, _, _, _, _, _, _, _, _, _, _, _, _, _, _, _, _, _, _, _, _, _, _, _] rfl (by kernel_rfl) (by kernel_rfl) ?_
      iterate 2 refine VX.meek rfl ?_
      first | refine VX.idxI rfl rfl rfl rfl rfl rfl (by omega) ?_ | refine VX.idxO0 rfl rfl rfl rfl rfl rfl rfl (by omega) ?_ | refine VX.idxO0 rfl rfl rfl rfl rfl rfl au_z (by omega) ?_ | refine VX.idxO rfl rfl rfl rfl rfl rfl rfl (by omega) ?_ | refine VX.idxI rfl rfl rfl rfl rfl au_z (by omega) ?_ | refine VX.idxO rfl rfl rfl rfl rfl rfl au_z (by omega) ?_ | refine VX.meek rfl ?_
      refine VX.meek rfl ?_
      first | refine VX.meek rfl ?_ | refine VX.loadI rfl rfl au_l ?_ | refine VX.loadP rfl rfl rfl au_l ?_
      iterate 2 refine VX.meek rfl ?_
      first | refine VX.idxI rfl rfl rfl rfl rfl rfl (by omega) ?_ | refine VX.idxO0 rfl rfl rfl rfl rfl rfl rfl (by omega) ?_ | refine VX.idxO0 rfl rfl rfl rfl rfl rfl au_z (by omega) ?_ | refine VX.idxO rfl rfl rfl rfl rfl rfl rfl (by omega) ?_ | refine VX.idxI rfl rfl rfl rfl rfl au_z (by omega) ?_ | refine VX.idxO rfl rfl rfl rfl rfl rfl au_z (by omega) ?_ | refine VX.meek rfl ?_
      refine VX.meek rfl ?_
      first | refine VX.meek rfl ?_ | refine VX.loadI rfl rfl au_l ?_ | refine VX.loadP rfl rfl rfl au_l ?_
      iterate 2 refine VX.meek rfl ?_
      refine' VX.merge (d := 39) [_, _, _, _, _, _, _, _, _, _, _, _] rfl ?_ rfl ?_
      rotate_left
      · refine VX.guard rfl rfl (fun hb6_11 => ?_) (fun hb6_11 => ?_)
        · have ghb6_11 := hb6_11
          try simp only [au_std, Bool.not_true, Bool.not_false] at ghb6_11
          refine VX.meek rfl ?_
          refine VX.guardT rfl rfl hb6_11 ?_
          refine VX.meek rfl ?_
          refine VX.guardT rfl rfl hb6_11 ?_
          first | refine VX.idxI rfl rfl rfl rfl rfl rfl (by omega) ?_ | refine VX.idxO0 rfl rfl rfl rfl rfl rfl rfl (by omega) ?_ | refine VX.idxO0 rfl rfl rfl rfl rfl rfl au_z (by omega) ?_ | refine VX.idxO rfl rfl rfl rfl rfl rfl rfl (by omega) ?_ | refine VX.idxI rfl rfl rfl rfl rfl au_z (by omega) ?_ | refine VX.idxO rfl rfl rfl rfl rfl rfl au_z (by omega) ?_ | refine VX.meek rfl ?_
          refine VX.guardT rfl rfl hb6_11 ?_
          refine VX.meek rfl ?_
          refine VX.guardT rfl rfl hb6_11 ?_
          first | refine VX.meek rfl ?_ | refine VX.loadI rfl rfl au_l ?_ | refine VX.loadP rfl rfl rfl au_l ?_
          refine VX.guardT rfl rfl hb6_11 ?_
          refine VX.meek rfl ?_
          refine VX.guardT rfl rfl hb6_11 ?_
          refine VX.meek rfl ?_
          refine VX.guardT rfl rfl hb6_11 ?_
          first | refine VX.idxI rfl rfl rfl rfl rfl rfl (by omega) ?_ | refine VX.idxO0 rfl rfl rfl rfl rfl rfl rfl (by omega) ?_ | refine VX.idxO0 rfl rfl rfl rfl rfl rfl au_z (by omega) ?_ | refine VX.idxO rfl rfl rfl rfl rfl rfl rfl (by omega) ?_ | refine VX.idxI rfl rfl rfl rfl rfl au_z (by omega) ?_ | refine VX.idxO rfl rfl rfl rfl rfl rfl au_z (by omega) ?_ | refine VX.meek rfl ?_
          refine VX.guardT rfl rfl hb6_11 ?_
          refine VX.meek rfl ?_
          refine VX.guardT rfl rfl hb6_11 ?_
          first | refine VX.meek rfl ?_ | refine VX.loadI rfl rfl au_l ?_ | refine VX.loadP rfl rfl rfl au_l ?_
          refine VX.guardT rfl rfl hb6_11 ?_
          refine VX.meek rfl ?_
          refine VX.pickO rfl (fun _ => rfl) ?_
          exact VX.nil ⟨rfl, rfl⟩
        · refine VX.guardF rfl rfl hb6_11 ?_
          refine VX.guardF rfl rfl hb6_11 ?_
          refine VX.guardF rfl rfl hb6_11 ?_
          refine VX.guardF rfl rfl hb6_11 ?_
          refine VX.guardF rfl rfl hb6_11 ?_
          refine VX.guardF rfl rfl hb6_11 ?_
          refine VX.guardF rfl rfl hb6_11 ?_
          refine VX.guardF rfl rfl hb6_11 ?_
          refine VX.guardF rfl rfl hb6_11 ?_
          refine VX.guardF rfl rfl hb6_11 ?_
          exact VX.pickO rfl (fun h => absurd (h.symm.trans hb6_11) (by decide)) (VX.nil ⟨rfl, rfl⟩)
      refine VX.meek rfl ?_
      refine' VX.merge (d := 53) [_, _, _, _, _, _, _, _, _, _, _, _, _] rfl ?_ rfl ?_
      rotate_left
      · refine VX.guard rfl rfl (fun hb6_24 => ?_) (fun hb6_24 => ?_)
        · have ghb6_24 := hb6_24
          try simp only [au_std, Bool.not_true, Bool.not_false] at ghb6_24
          refine VX.meek rfl ?_
          refine VX.guardT rfl rfl hb6_24 ?_
          refine VX.meek rfl ?_
          refine VX.guardT rfl rfl hb6_24 ?_
          first | refine VX.idxI rfl rfl rfl rfl rfl rfl (by omega) ?_ | refine VX.idxO0 rfl rfl rfl rfl rfl rfl rfl (by omega) ?_ | refine VX.idxO0 rfl rfl rfl rfl rfl rfl au_z (by omega) ?_ | refine VX.idxO rfl rfl rfl rfl rfl rfl rfl (by omega) ?_ | refine VX.idxI rfl rfl rfl rfl rfl au_z (by omega) ?_ | refine VX.idxO rfl rfl rfl rfl rfl rfl au_z (by omega) ?_ | refine VX.meek rfl ?_
          refine VX.guardT rfl rfl hb6_24 ?_
          refine VX.meek rfl ?_
          refine VX.guardT rfl rfl hb6_24 ?_
          first | refine VX.meek rfl ?_ | refine VX.loadI rfl rfl au_l ?_ | refine VX.loadP rfl rfl rfl au_l ?_
          refine VX.guardT rfl rfl hb6_24 ?_
          refine VX.meek rfl ?_
          refine VX.guardT rfl rfl hb6_24 ?_
          refine VX.meek rfl ?_
          refine VX.guardT rfl rfl hb6_24 ?_
          first | refine VX.idxI rfl rfl rfl rfl rfl rfl (by omega) ?_ | refine VX.idxO0 rfl rfl rfl rfl rfl rfl rfl (by omega) ?_ | refine VX.idxO0 rfl rfl rfl rfl rfl rfl au_z (by omega) ?_ | refine VX.idxO rfl rfl rfl rfl rfl rfl rfl (by omega) ?_ | refine VX.idxI rfl rfl rfl rfl rfl au_z (by omega) ?_ | refine VX.idxO rfl rfl rfl rfl rfl rfl au_z (by omega) ?_ | refine VX.meek rfl ?_
          refine VX.guardT rfl rfl hb6_24 ?_
          refine VX.meek rfl ?_
          refine VX.guardT rfl rfl hb6_24 ?_
          first | refine VX.meek rfl ?_ | refine VX.loadI rfl rfl au_l ?_ | refine VX.loadP rfl rfl rfl au_l ?_
          refine VX.guardT rfl rfl hb6_24 ?_
          refine VX.callP0 rfl rfl rfl (hn1) ?_
          refine VX.guardT rfl rfl hb6_24 ?_
          refine VX.meek rfl ?_
          refine VX.pickO rfl (fun _ => rfl) ?_
          exact VX.nil ⟨rfl, rfl⟩
        · refine VX.guardF rfl rfl hb6_24 ?_
          refine VX.guardF rfl rfl hb6_24 ?_
          refine VX.guardF rfl rfl hb6_24 ?_
          refine VX.guardF rfl rfl hb6_24 ?_
          refine VX.guardF rfl rfl hb6_24 ?_
          refine VX.guardF rfl rfl hb6_24 ?_
          refine VX.guardF rfl rfl hb6_24 ?_
          refine VX.guardF rfl rfl hb6_24 ?_
          refine VX.guardF rfl rfl hb6_24 ?_
          refine VX.guardF rfl rfl hb6_24 ?_
          refine VX.guardF rfl rfl hb6_24 ?_
          exact VX.pickO rfl (fun h => absurd (h.symm.trans hb6_24) (by decide)) (VX.nil ⟨rfl, rfl⟩)
      refine VX.meek rfl ?_
      refine' VX.merge (d := 67) [_, _, _, _, _, _, _, _, _, _, _, _, _] rfl ?_ rfl ?_
      rotate_left
      · refine VX.guard rfl rfl (fun hb6_38 => ?_) (fun hb6_38 => ?_)
        · have ghb6_38 := hb6_38
          try simp only [au_std, Bool.not_true, Bool.not_false] at ghb6_38
          refine VX.meek rfl ?_
          refine VX.guardT rfl rfl hb6_38 ?_
          refine VX.meek rfl ?_
          refine VX.guardT rfl rfl hb6_38 ?_
          first | refine VX.idxI rfl rfl rfl rfl rfl rfl (by omega) ?_ | refine VX.idxO0 rfl rfl rfl rfl rfl rfl rfl (by omega) ?_ | refine VX.idxO0 rfl rfl rfl rfl rfl rfl au_z (by omega) ?_ | refine VX.idxO rfl rfl rfl rfl rfl rfl rfl (by omega) ?_ | refine VX.idxI rfl rfl rfl rfl rfl au_z (by omega) ?_ | refine VX.idxO rfl rfl rfl rfl rfl rfl au_z (by omega) ?_ | refine VX.meek rfl ?_
          refine VX.guardT rfl rfl hb6_38 ?_
          refine VX.meek rfl ?_
          refine VX.guardT rfl rfl hb6_38 ?_
          first | refine VX.meek rfl ?_ | refine VX.loadI rfl rfl au_l ?_ | refine VX.loadP rfl rfl rfl au_l ?_
          refine VX.guardT rfl rfl hb6_38 ?_
          refine VX.meek rfl ?_
          refine VX.guardT rfl rfl hb6_38 ?_
          refine VX.meek rfl ?_
          refine VX.guardT rfl rfl hb6_38 ?_
          first | refine VX.idxI rfl rfl rfl rfl rfl rfl (by omega) ?_ | refine VX.idxO0 rfl rfl rfl rfl rfl rfl rfl (by omega) ?_ | refine VX.idxO0 rfl rfl rfl rfl rfl rfl au_z (by omega) ?_ | refine VX.idxO rfl rfl rfl rfl rfl rfl rfl (by omega) ?_ | refine VX.idxI rfl rfl rfl rfl rfl au_z (by omega) ?_ | refine VX.idxO rfl rfl rfl rfl rfl rfl au_z (by omega) ?_ | refine VX.meek rfl ?_
          refine VX.guardT rfl rfl hb6_38 ?_
          refine VX.meek rfl ?_
          refine VX.guardT rfl rfl hb6_38 ?_
          first | refine VX.meek rfl ?_ | refine VX.loadI rfl rfl au_l ?_ | refine VX.loadP rfl rfl rfl au_l ?_
          refine VX.guardT rfl rfl hb6_38 ?_
          refine VX.callP0 rfl rfl rfl (hn2) ?_
          refine VX.guardT rfl rfl hb6_38 ?_
          refine VX.meek rfl ?_
          refine VX.pickO rfl (fun _ => rfl) ?_
          exact VX.nil ⟨rfl, rfl⟩
        · refine VX.guardF rfl rfl hb6_38 ?_
          refine VX.guardF rfl rfl hb6_38 ?_
          refine VX.guardF rfl rfl hb6_38 ?_
          refine VX.guardF rfl rfl hb6_38 ?_
          refine VX.guardF rfl rfl hb6_38 ?_
          refine VX.guardF rfl rfl hb6_38 ?_
          refine VX.guardF rfl rfl hb6_38 ?_
          refine VX.guardF rfl rfl hb6_38 ?_
          refine VX.guardF rfl rfl hb6_38 ?_
          refine VX.guardF rfl rfl hb6_38 ?_
          refine VX.guardF rfl rfl hb6_38 ?_
          exact VX.pickO rfl (fun h => absurd (h.symm.trans hb6_38) (by decide)) (VX.nil ⟨rfl, rfl⟩)
      refine VX.nil ?_
      refine VX.nil ?_
      refine VC.cond rfl (fun hc2 => ?_) (fun hc2 => ?_)
      · exact absurd hc2 (by simp)
      · (try simp only [au_std] at hc2)
        refine VC.skip ?_
        refine VC.regN tab_ok [] rfl ?_
        first | refine VX.add rfl rfl (by omega) ?_ | refine VX.meek rfl ?_
        refine VX.meek rfl ?_
        refine VX.nil ?_
        refine ⟨i + 1, by (try dsimp only); omega, ?_, (by refine ⟨[], rfl, by first | trivial | decide, rfl, ?_, ?_⟩ <;> (repeat' first | exact trivial | exact CvB_n | exact CvB_d | exact CvB_o rfl | refine CvE_app ?_ ?_ | refine CvE_cons rfl ?_ ?_ | refine CvH_cons ?_ ?_ | refine CvB_c rfl ?_ | fail) <;> first | exact au_v | (exact Cv.pure rfl))⟩
        (try dsimp only); omega
    · (try simp only [au_std] at hc1)
      refine VC.exit ?_
      refine VC.reg tab_ok [] rfl ?_
      refine VX.meek rfl ?_
      refine VX.nil ?_
      refine VC.ret ?_
      exact ⟨trivial, _, rfl, Cv.eq (by first | rfl | (simp [*]; done)) rfl⟩
def rowL (w p : Int) (y : Nat) (cells : List UInt8) (x : Int) : List Rq :=
  ⟨36, [w, p, 0, 6 * y + 5, 1], cells, []⟩ :: if 0 ≤ x ∧ x < cells.length then [⟨30, [w, p], [], [4 * x, 6 * y + 5, 4, 1]⟩] else []
theorem refRow_p (w p : Int) (y : Nat) (cells : List UInt8) (x : Int) (hw : 0 ≤ w ∧ w < 4294967296) (hp : 0 ≤ p ∧ p < 4294967296) (hy : y ≤ 100) (hx : -1 ≤ x ∧ x ≤ 1000) : CallP Tryd.prog 35 [U32 w, U32 p, I64 y, strT cells, I64 x] (rqT (rowL w p y cells x)) := by
  by_cases hn : 0 ≤ x ∧ x < cells.length
  case pos =>
    rw [show rowL w p y cells x = [⟨36, [w, p, 0, 6 * y + 5, 1], cells, []⟩, ⟨30, [w, p], [], [4 * x, 6 * y + 5, 4, 1]⟩] from by unfold rowL; rw [if_pos hn]]
    refine CallP.intro2 au_pu au_pu ?_
    refine CallT.intro tab_ok Tryd.func35 rfl (by kernel_rfl) (Nat.le_of_ble_eq_true rfl) ?_
    refine VC.reg tab_ok [] rfl ?_
    refine VX.meek rfl ?_
    refine VX.nil ?_
    refine VC.reg tab_ok [] rfl ?_
    refine VX.meek rfl ?_
    refine VX.meek (t := I64 w) (by show some (T.v (.int .i64 (IntKind.i64.wrap w)), (none : Option (Nat × List T))) = _; rw [wrap_in (by omega)]) ?_
    refine VX.meek rfl ?_
    refine VX.meek (t := I64 p) (by show some (T.v (.int .i64 (IntKind.i64.wrap p)), (none : Option (Nat × List T))) = _; rw [wrap_in (by omega)]) ?_
    refine VX.meek rfl ?_
    first | refine VX.mul rfl rfl (by omega) ?_ | refine VX.meek rfl ?_
    first | refine VX.add rfl rfl (by omega) ?_ | refine VX.meek rfl ?_
    refine VX.new rfl rfl ?_
    iterate 2 refine VX.meek rfl ?_
    refine VX.new rfl rfl ?_
    refine VX.meek rfl ?_
    refine VX.nil ?_
    refine VC.seq ?_
    refine VC.reg tab_ok [] rfl ?_
    iterate 3 refine VX.meek rfl ?_
    refine' VX.merge (d := 30) [_, _, _, _, _] rfl ?_ rfl ?_
    rotate_left
    · refine VX.guard rfl rfl (fun hb2_2 => ?_) (fun hb2_2 => ?_)
      · have ghb2_2 := hb2_2
        try simp only [au_std, Bool.not_true, Bool.not_false] at ghb2_2
        refine VX.meek rfl ?_
        refine VX.guardT rfl rfl hb2_2 ?_
        refine VX.meek rfl ?_
        refine VX.guardT rfl rfl hb2_2 ?_
        refine VX.meek (t := I64 (cells.length : Nat)) rfl ?_
        refine VX.guardT rfl rfl hb2_2 ?_
        refine VX.meek rfl ?_
        refine VX.pickA rfl (fun _ => rfl) ?_
        exact VX.nil ⟨rfl, rfl⟩
      · refine VX.guardF rfl rfl hb2_2 ?_
        refine VX.guardF rfl rfl hb2_2 ?_
        refine VX.guardF rfl rfl hb2_2 ?_
        exact VX.pickA rfl (fun h => absurd (h.symm.trans hb2_2) (by decide)) (VX.nil ⟨rfl, rfl⟩)
    refine VX.nil ?_
    refine VC.cond rfl (fun hc0 => ?_) (fun hc0 => ?_)
    · (try simp only [au_std] at hc0)
      refine VC.regN tab_ok [44] rfl ?_
      iterate 2 refine VX.meek rfl ?_
      refine VX.meek (t := I64 w) (by show some (T.v (.int .i64 (IntKind.i64.wrap w)), (none : Option (Nat × List T))) = _; rw [wrap_in (by omega)]) ?_
      refine VX.meek rfl ?_
      refine VX.meek (t := I64 p) (by show some (T.v (.int .i64 (IntKind.i64.wrap p)), (none : Option (Nat × List T))) = _; rw [wrap_in (by omega)]) ?_
      refine VX.new rfl rfl ?_
      refine VX.meek rfl ?_
      first | refine VX.mul rfl rfl (by omega) ?_ | refine VX.meek rfl ?_
      refine VX.meek rfl ?_
      first | refine VX.mul rfl rfl (by omega) ?_ | refine VX.meek rfl ?_
      first | refine VX.add rfl rfl (by omega) ?_ | refine VX.meek rfl ?_
      refine VX.new rfl rfl ?_
      refine VX.meek rfl ?_
      refine VX.newI rfl rfl ?_
      first | refine VX.appendNil rfl rfl rfl rfl rfl rfl au_sY au_sY au_sY ?_ | refine VX.append rfl rfl rfl rfl rfl rfl rfl rfl au_sY au_sY au_sY au_sY au_sY ?_
      refine VX.meek rfl ?_
      refine VX.nil ?_
      refine VC.reg tab_ok [] rfl ?_
      iterate 2 refine VX.meek rfl ?_
      refine VX.nil ?_
      refine VC.ret ?_
      exact ⟨trivial, _, rfl, Cv.fslc0 ⟨rfl, by simp⟩ au_fr⟩
    · exact absurd hc0 (by simp; omega)
  case neg =>
    rw [show rowL w p y cells x = [⟨36, [w, p, 0, 6 * y + 5, 1], cells, []⟩] from by unfold rowL; rw [if_neg hn]]
    refine CallP.intro2 au_pu au_pu ?_
    refine CallT.intro tab_ok Tryd.func35 rfl (by kernel_rfl) (Nat.le_of_ble_eq_true rfl) ?_
    refine VC.reg tab_ok [] rfl ?_
    refine VX.meek rfl ?_
    refine VX.nil ?_
    refine VC.reg tab_ok [] rfl ?_
    refine VX.meek rfl ?_
    refine VX.meek (t := I64 w) (by show some (T.v (.int .i64 (IntKind.i64.wrap w)), (none : Option (Nat × List T))) = _; rw [wrap_in (by omega)]) ?_
    refine VX.meek rfl ?_
    refine VX.meek (t := I64 p) (by show some (T.v (.int .i64 (IntKind.i64.wrap p)), (none : Option (Nat × List T))) = _; rw [wrap_in (by omega)]) ?_
    refine VX.meek rfl ?_
    first | refine VX.mul rfl rfl (by omega) ?_ | refine VX.meek rfl ?_
    first | refine VX.add rfl rfl (by omega) ?_ | refine VX.meek rfl ?_
    refine VX.new rfl rfl ?_
    iterate 2 refine VX.meek rfl ?_
    refine VX.new rfl rfl ?_
    refine VX.meek rfl ?_
    refine VX.nil ?_
    refine VC.seq ?_
    refine VC.reg tab_ok [] rfl ?_
    iterate 3 refine VX.meek rfl ?_
    refine' VX.merge (d := 30) [_, _, _, _, _] rfl ?_ rfl ?_
    rotate_left
    · refine VX.guard rfl rfl (fun hb2_2 => ?_) (fun hb2_2 => ?_)
      · have ghb2_2 := hb2_2
        try simp only [au_std, Bool.not_true, Bool.not_false] at ghb2_2
        refine VX.meek rfl ?_
        refine VX.guardT rfl rfl hb2_2 ?_
        refine VX.meek rfl ?_
        refine VX.guardT rfl rfl hb2_2 ?_
        refine VX.meek (t := I64 (cells.length : Nat)) rfl ?_
        refine VX.guardT rfl rfl hb2_2 ?_
        refine VX.meek rfl ?_
        refine VX.pickA rfl (fun _ => rfl) ?_
        exact VX.nil ⟨rfl, rfl⟩
      · refine VX.guardF rfl rfl hb2_2 ?_
        refine VX.guardF rfl rfl hb2_2 ?_
        refine VX.guardF rfl rfl hb2_2 ?_
        exact VX.pickA rfl (fun h => absurd (h.symm.trans hb2_2) (by decide)) (VX.nil ⟨rfl, rfl⟩)
    refine VX.nil ?_
    refine VC.cond rfl (fun hc0 => ?_) (fun hc0 => ?_)
    · exact absurd hc0 (by simp; omega)
    · (try simp only [au_std] at hc0)
      refine VC.skip ?_
      refine VC.reg tab_ok [] rfl ?_
      iterate 2 refine VX.meek rfl ?_
      refine VX.nil ?_
      refine VC.ret ?_
      exact ⟨trivial, _, rfl, Cv.fslc0 ⟨rfl, by simp⟩ au_fr⟩
end
section
open Go.RowKit
set_option maxRecDepth 10000
set_option maxHeartbeats 1000000
def movedB (S S' : Scr) : Bool := ((S.x : Int) != (S'.x : Int)) || ((S.y : Int) != (S'.y : Int))
def askB (S S' : Scr) (k : Nat) : Bool := (S.rowN k != S'.rowN k) || (movedB S S' && (((k : Int) == (S.y : Int)) || ((k : Int) == (S'.y : Int))))
def accL (ask : Nat → Bool) (t : Trm) (k : Nat) : List Rq := ((List.range k).filter ask).flatMap (drawnL t)
theorem accL_t {ask : Nat → Bool} {t : Trm} {k : Nat} (h : ask k = true) : accL ask t (k + 1) = accL ask t k ++ drawnL t k := by
  unfold accL
  rw [List.range_succ, List.filter_append, List.flatMap_append, List.filter_cons_of_pos h]
  simp
theorem accL_f {ask : Nat → Bool} {t : Trm} {k : Nat} (h : ask k = false) : accL ask t (k + 1) = accL ask t k := by
  unfold accL
  rw [List.range_succ, List.filter_append, List.flatMap_append, List.filter_cons_of_neg (by rw [h]; simp)]
  simp
theorem drawnL_len (t : Trm) (y : Nat) : (drawnL t y).length ≤ 2 := by unfold drawnL; split <;> simp
theorem accL_len (ask : Nat → Bool) (t : Trm) (k : Nat) : (accL ask t k).length ≤ 2 * k := by
  induction k with
  | zero => simp [accL]
  | succ k ih =>
    cases h : ask k with
    | true => rw [accL_t h, List.length_append]; have := drawnL_len t k; omega
    | false => rw [accL_f h]; omega
theorem scr_byte_size (S : Scr) (l : List UInt8) : (S.bytes l).cols = S.cols ∧ (S.bytes l).rows = S.rows := by
  have hk : ∀ (S : Scr) x, (S.keep x).cols = S.cols ∧ (S.keep x).rows = S.rows := fun S x => by unfold Scr.keep; split; exact ⟨rfl, rfl⟩; split <;> exact ⟨rfl, rfl⟩
  have hsc : ∀ S : Scr, S.scroll.cols = S.cols ∧ S.scroll.rows = S.rows := fun S => by unfold Scr.scroll Scr.withGrid; exact hk S _
  have hle : ∀ S : Scr, S.lineEnd.cols = S.cols ∧ S.lineEnd.rows = S.rows := fun S => by unfold Scr.lineEnd; split; exact ⟨rfl, rfl⟩; exact hsc _
  have hbl : ∀ (S : Scr) n f t, (S.blank n f t).cols = S.cols ∧ (S.blank n f t).rows = S.rows := by
    intro S n f t
    unfold Scr.blank Scr.clear
    repeat' split
    all_goals exact ⟨rfl, rfl⟩
  have hcm : ∀ (S : Scr) k n m, (S.cmd k n m).cols = S.cols ∧ (S.cmd k n m).rows = S.rows := by
    intro S k n m
    unfold Scr.cmd
    repeat' split
    all_goals first | exact ⟨rfl, rfl⟩ | exact hbl _ _ _ _
  have hb : ∀ (S : Scr) v, (S.byte v).cols = S.cols ∧ (S.byte v).rows = S.rows := fun S v => by
    unfold Scr.byte
    split
    · split <;> exact ⟨rfl, rfl⟩
    split
    · unfold Scr.told
      split
      · split
        · exact ⟨rfl, rfl⟩
        · split <;> exact ⟨rfl, rfl⟩
      split
      · exact ⟨rfl, rfl⟩
      · exact hcm _ _ _ _
    · unfold Scr.plain
      split
      · unfold Scr.letter; split
        · exact hle S
        · exact ⟨rfl, rfl⟩
      split
      · exact hle S
      repeat' split
      all_goals exact ⟨rfl, rfl⟩
  unfold Scr.bytes
  induction l generalizing S with
  | nil => exact ⟨rfl, rfl⟩
  | cons v l ih => rw [List.foldl_cons]; have := ih (S.byte v); rw [(hb S v).1, (hb S v).2] at this; exact this
abbrev wrote (t : Trm) (b : List UInt8) : Trm := { t with scr := t.scr.bytes b }
def writeL (t : Trm) (b : List UInt8) : List Rq := accL (askB t.scr (t.scr.bytes b)) (wrote t b) t.scr.rows
section
variable {q : Bool} {P : Program} {tab : Tab} {im : List Nat} {ds : List (Option Nat)} {l : List Oper} {E : Env} {H : Hp} {K : Env → Hp → Prop} {d : Nat} {ty : TypeId} {pos : String} {after : Array Edge}
theorem VX.strNeq [Dr] {x y : Operand} {t t2 : Nat} {a b : List UInt8} (hx : E.opd x = some (strT a)) (hy : E.opd y = some (strT b)) (k : VX q P tab im ds l ((d, BL (a != b)) :: E) H K) : VX q P tab im ds (⟨some d, .binOp .neq t x y t2, ty, pos, after, none⟩ :: l) E H K := by
  refine VX.meek (t := BL (a != b)) ?_ k
  simp only [opM, hx, hy, mBin, binStr]
  rw [str_beq]
  rfl
theorem VX.strEql [Dr] {x y : Operand} {t t2 : Nat} {a b : List UInt8} (hx : E.opd x = some (strT a)) (hy : E.opd y = some (strT b)) (k : VX q P tab im ds l ((d, BL (a == b)) :: E) H K) : VX q P tab im ds (⟨some d, .binOp .eql t x y t2, ty, pos, after, none⟩ :: l) E H K := by
  refine VX.meek (t := BL (a == b)) ?_ k
  simp only [opM, hx, hy, mBin, binStr]
  rw [str_beq]
  rfl
end
theorem twrite_p (w p f : Int) (S : Scr) (ty b : List UInt8) (ok : S.Ok) (hm : S.most = 0 ∨ 2 ≤ S.most) (hl : b.length ≤ 100000) : CallP Tryd.prog 21 [trmT ⟨true, w, p, f, S, ty⟩, strT b] (.tup [trmT ⟨true, w, p, f, S.bytes b, ty⟩, rqT (writeL ⟨true, w, p, f, S, ty⟩ b)]) := by
  have hwr := write_p S b ok hm hl
  have ok2 := ok.bytes b
  have hsz := scr_byte_size S b
  have hr2 := ok.r2
  have hr1 := ok.r1
  unfold writeL wrote
  show CallP _ _ _ (.tup [_, rqT (accL (askB S (S.bytes b)) ⟨true, w, p, f, S.bytes b, ty⟩ S.rows)])
  generalize S.bytes b = S' at *
  have hp1 := trm_pure ⟨true, w, p, f, S, ty⟩
  have hp2 := trm_pure ⟨true, w, p, f, S', ty⟩
  have hps := scr_pure S
  have hps2 := scr_pure S'
  have hmv : movedB S S' = (((S.x : Int) != (S'.x : Int)) || ((S.y : Int) != (S'.y : Int))) := rfl
  have hask : ∀ k, askB S S' k = ((S.rowN k != S'.rowN k) || (movedB S S' && (((k : Int) == (S.y : Int)) || ((k : Int) == (S'.y : Int))))) := fun k => rfl
  have hal := accL_len (askB S S') (⟨true, w, p, f, S', ty⟩ : Trm)
  have hsize : CallP Tryd.prog 39 [scrT S'] (.tup [I64 S.cols, I64 S.rows]) := by rw [← hsz.1, ← hsz.2]; exact size_c S'
  refine CallP.intro2 au_pu au_pu ?_
  refine CallT.intro tab_ok Tryd.func21 rfl (by kernel_rfl) (Nat.le_of_ble_eq_true rfl) ?_
  refine VC.reg tab_ok [] rfl ?_
  refine VX.new rfl rfl ?_
  refine VX.new rfl rfl ?_
  refine VX.meek rfl ?_
  refine VX.nil ?_
  refine VC.seq ?_
  refine VC.reg tab_ok [] rfl ?_
  refine VX.meek rfl ?_
  first | refine VX.meek rfl ?_ | refine VX.loadI rfl rfl au_l ?_ | refine VX.loadP rfl rfl rfl au_l ?_
  refine VX.meek rfl ?_
  refine VX.nil ?_
  refine VC.condF rfl ?_
  refine VC.skip ?_
  refine VC.reg tab_ok [] rfl ?_
  refine VX.meek rfl ?_
  first | refine VX.meek rfl ?_ | refine VX.loadI rfl rfl au_l ?_ | refine VX.loadP rfl rfl rfl au_l ?_
  refine VX.new rfl rfl ?_
  refine VX.store rfl rfl rfl rfl rfl au_sY rfl ?_
  refine VX.nil ?_
  refine VC.reg tab_ok [] rfl ?_
  first | refine VX.meek rfl ?_ | refine VX.loadI rfl rfl au_l ?_ | refine VX.loadP rfl rfl rfl au_l ?_
  refine VX.meek rfl ?_
  refine VX.callP0 rfl rfl rfl (hwr) ?_
  refine VX.meek rfl ?_
  refine VX.store rfl rfl rfl rfl rfl au_sY rfl ?_
  refine VX.nil ?_
  refine VC.reg tab_ok [] rfl ?_
  first | refine VX.meek rfl ?_ | refine VX.loadI rfl rfl au_l ?_ | refine VX.loadP rfl rfl rfl au_l ?_
  refine VX.callP0 rfl rfl rfl (cursor_p S) ?_
  iterate 5 refine VX.meek rfl ?_
  refine VX.nil ?_
  refine VC.reg tab_ok [] rfl ?_
  refine VX.meek rfl ?_
  first | refine VX.meek rfl ?_ | refine VX.loadI rfl rfl au_l ?_ | refine VX.loadP rfl rfl rfl au_l ?_
  refine VX.callP0 rfl rfl rfl (cursor_p S') ?_
  iterate 5 refine VX.meek rfl ?_
  refine VX.nil ?_
  refine VC.reg tab_ok [] rfl ?_
  iterate 4 refine VX.meek rfl ?_
  refine' VX.merge (d := 44) [_, _, _, _] rfl ?_ rfl ?_
  rotate_left
  · refine VX.guard rfl rfl (fun hb7_3 => ?_) (fun hb7_3 => ?_)
    · have ghb7_3 := hb7_3
      try simp only [au_std, Bool.not_true, Bool.not_false] at ghb7_3
      refine VX.meek rfl ?_
      refine VX.guardT rfl rfl hb7_3 ?_
      refine VX.meek rfl ?_
      refine VX.guardT rfl rfl hb7_3 ?_
      refine VX.meek rfl ?_
      refine VX.pickO rfl (fun _ => rfl) ?_
      exact VX.nil ⟨rfl, rfl⟩
    · refine VX.guardF rfl rfl hb7_3 ?_
      refine VX.guardF rfl rfl hb7_3 ?_
      exact VX.pickO rfl (fun h => absurd (h.symm.trans hb7_3) (by decide)) (VX.nil ⟨rfl, rfl⟩)
  refine VX.meek rfl ?_
  refine VX.nil ?_
  refine VC.reg tab_ok [] rfl ?_
  refine VX.meek rfl ?_
  refine VX.nil ?_
  refine VC.reg tab_ok [] rfl ?_
  refine VX.meek rfl ?_
  first | refine VX.meek rfl ?_ | refine VX.loadI rfl rfl au_l ?_ | refine VX.loadP rfl rfl rfl au_l ?_
  refine VX.callP0 rfl rfl rfl (hsize) ?_
  iterate 5 refine VX.meek rfl ?_
  refine VX.nil ?_
  refine VC.seq ?_
  refine VC.reg tab_ok [] rfl ?_
  iterate 2 refine VX.meek rfl ?_
  refine VX.nil ?_
  refine VC.block ?_
  refine VC.loopS (σ := Nat) (fun i => S.rows - i) (fun i => i ≤ S.rows) (fun i => [(52, I64 i), (51, I64 S.rows), (2, .ptr 0 0), (4, .ptr 1 0), (6, .ptr 2 0), (8, I64 S.y), (10, I64 S'.y), (11, BL (movedB S S')), (12, .slc 3 0 (accL (askB S S') (⟨true, w, p, f, S', ty⟩ : Trm) i).length 4 none)]) (fun i => [.c (trmC ⟨true, w, p, f, S', ty⟩), .c zTrm, .c (scrC S (.islc (encL cY S.grid) S.grid.length none) (.islc (encL cStr S.kept) S.kept.length none)), .c (encL cRq (accL (askB S S') (⟨true, w, p, f, S', ty⟩ : Trm) i))]) [] rfl (0) ?_ ?_ ?_
  · refine ⟨[some 0, some 1, some 2, none], rfl, by first | trivial | decide, rfl, ?_, ?_⟩ <;> (repeat' first | exact trivial | exact CvB_n | exact CvB_d | exact CvB_o rfl | refine CvE_app ?_ ?_ | refine CvE_cons rfl ?_ ?_ | refine CvH_cons ?_ ?_ | refine CvB_c rfl ?_ | fail) <;> first | exact au_v | (first | exact CvL.pure hps | exact CvL.eq (by kernel_rfl) (trm_pure _) | exact CvL.pure rfl)
  · (try dsimp only); omega
  rintro i hi
  refine VC.reg tab_ok [] rfl ?_
  refine VX.meek rfl ?_
  refine VX.nil ?_
  refine VC.seq ?_
  refine VC.cond rfl (fun hc1 => ?_) (fun hc1 => ?_)
  · (try simp only [au_std] at hc1); have hil : i < S.rows := (by omega); have hal2 := hal i
    have hrow := row_p S i ok hil
    have hrow2 := row_p S' i ok2 (by rw [hsz.2]; exact hil)
    have hdr := drawn_p (⟨true, w, p, f, S', ty⟩ : Trm) i ok2 (by show i < S'.rows; rw [hsz.2]; exact hil)
    have hdl := drawnL_len (⟨true, w, p, f, S', ty⟩ : Trm) i
    have haT := @accL_t (askB S S') (⟨true, w, p, f, S', ty⟩ : Trm) i
    have haF := @accL_f (askB S S') (⟨true, w, p, f, S', ty⟩ : Trm) i
    rw [hask] at haT haF
    refine VC.skip ?_
    refine VC.seq ?_
    refine VC.block ?_
    refine VC.reg tab_ok [] rfl ?_
    iterate 2 refine VX.meek rfl ?_
    refine VX.nil ?_
    refine VC.drw tab_ok [] [_, _, _, _, _, _, _, _, _, _, _, _, _, _, _, _, _, _, _, _, _] rfl (by kernel_rfl) (by kernel_rfl) ?_
    first | refine VX.meek rfl ?_ | refine VX.loadI rfl rfl au_l ?_ | refine VX.loadP rfl rfl rfl au_l ?_
    refine VX.meek rfl ?_
    refine VX.callP0 rfl rfl rfl (hrow) ?_
    refine VX.meek rfl ?_
    first | refine VX.meek rfl ?_ | refine VX.loadI rfl rfl au_l ?_ | refine VX.loadP rfl rfl rfl au_l ?_
    refine VX.meek rfl ?_
    refine VX.callP0 rfl rfl rfl (hrow2) ?_
    refine VX.strNeq rfl rfl ?_
    refine VX.meek rfl ?_
    refine' VX.merge (d := 75) [_, _, _, _, _, _, _, _, _, _, _, _] rfl ?_ rfl ?_
    rotate_left
    · refine VX.guard rfl rfl (fun hb13_8 => ?_) (fun hb13_8 => ?_)
      · have ghb13_8 := hb13_8
        try simp only [au_std, Bool.not_true, Bool.not_false] at ghb13_8
        refine VX.meek rfl ?_
        refine VX.guardT rfl rfl hb13_8 ?_
        refine VX.meek rfl ?_
        refine' VX.merge (d := 74) [_, _, _, _, _, _, _, _, _] rfl ?_ rfl ?_
        rotate_left
        · refine VX.guard rfl rfl (fun hb13_10 => ?_) (fun hb13_10 => ?_)
          · have ghb13_10 := hb13_10
            try simp only [au_std, Bool.not_true, Bool.not_false] at ghb13_10
            refine VX.meek rfl ?_
            refine VX.guardT rfl rfl hb13_10 ?_
            refine VX.meek rfl ?_
            refine VX.guardT rfl rfl hb13_10 ?_
            refine VX.meek rfl ?_
            refine VX.guardT rfl rfl hb13_10 ?_
            refine VX.meek rfl ?_
            refine' VX.merge (d := 73) [_, _, _, _] rfl ?_ rfl ?_
            rotate_left
            · refine VX.guard rfl rfl (fun hb13_14 => ?_) (fun hb13_14 => ?_)
              · have ghb13_14 := hb13_14
                try simp only [au_std, Bool.not_true, Bool.not_false] at ghb13_14
                refine VX.meek rfl ?_
                refine VX.guardT rfl rfl hb13_14 ?_
                refine VX.meek rfl ?_
                refine VX.guardT rfl rfl hb13_14 ?_
                refine VX.meek rfl ?_
                refine VX.guardT rfl rfl hb13_10 ?_
                refine VX.pickO rfl (fun _ => rfl) ?_
                exact VX.nil ⟨rfl, rfl⟩
              · refine VX.guardF rfl rfl hb13_14 ?_
                refine VX.guardF rfl rfl hb13_14 ?_
                refine VX.guardT rfl rfl hb13_10 ?_
                exact VX.pickO rfl (fun h => absurd (h.symm.trans hb13_14) (by decide)) (VX.nil ⟨rfl, rfl⟩)
            refine VX.guardT rfl rfl hb13_8 ?_
            refine VX.pickA rfl (fun _ => rfl) ?_
            exact VX.nil ⟨rfl, rfl⟩
          · refine VX.guardF rfl rfl hb13_10 ?_
            refine VX.guardF rfl rfl hb13_10 ?_
            refine VX.guardF rfl rfl hb13_10 ?_
            refine VX.guardU rfl rfl ?_
            refine VX.guardU rfl rfl ?_
            refine VX.guardU rfl rfl ?_
            refine VX.guardF rfl rfl hb13_10 ?_
            refine VX.guardT rfl rfl hb13_8 ?_
            exact VX.pickA rfl (fun h => absurd (h.symm.trans hb13_10) (by decide)) (VX.nil ⟨rfl, rfl⟩)
        refine VX.pickO rfl (fun _ => rfl) ?_
        exact VX.nil ⟨rfl, rfl⟩
      · refine VX.guardF rfl rfl hb13_8 ?_
        refine VX.guardU rfl rfl ?_
        refine VX.guardU rfl rfl ?_
        refine VX.guardU rfl rfl ?_
        refine VX.guardU rfl rfl ?_
        refine VX.guardU rfl rfl ?_
        refine VX.guardU rfl rfl ?_
        refine VX.guardU rfl rfl ?_
        refine VX.guardU rfl rfl ?_
        refine VX.guardF rfl rfl hb13_8 ?_
        exact VX.pickO rfl (fun h => absurd (h.symm.trans hb13_8) (by decide)) (VX.nil ⟨rfl, rfl⟩)
    refine VX.nil ?_
    refine VX.nil ?_
    refine VC.cond rfl (fun hc2 => ?_) (fun hc2 => ?_)
    · have haT2 := haT (by simpa using hc2)
      refine VC.regN tab_ok [] rfl ?_
      refine VX.meek rfl ?_
      first | refine VX.meek rfl ?_ | refine VX.loadI rfl rfl au_l ?_ | refine VX.loadP rfl rfl rfl au_l ?_
      refine VX.meek rfl ?_
      refine VX.callP0 rfl rfl rfl (hdr) ?_
      refine' VX.append rfl rfl rfl rfl rfl rfl (src_c cRq rfl rfl rfl rfl) rfl ?h1 ?h2 ?h3 ?h4 ?h5 ?_
      case h1 => rw [encL_len, cRq_sz]; omega
      case h2 => exact Nat.le_trans (Nat.mul_le_mul_right _ (show _ ≤ 1000 by omega)) (by decide)
      case h3 => omega
      case h4 => rw [encL_len]; rfl
      case h5 => exact encL_cb _ _
      refine VX.meek rfl ?_
      refine VX.nil ?_
      refine VC.regN tab_ok [] rfl ?_
      first | refine VX.add rfl rfl (by omega) ?_ | refine VX.meek rfl ?_
      refine VX.meek rfl ?_
      refine VX.nil ?_
      refine ⟨i + 1, by (try dsimp only); omega, ?_, (by refine ⟨[some 0, some 1, some 2, some 4], rfl, by first | trivial | decide, rfl, ?_, ?_⟩ <;> (repeat' first | exact trivial | exact CvB_n | exact CvB_d | exact CvB_o rfl | refine CvE_app ?_ ?_ | refine CvE_cons rfl ?_ ?_ | refine CvH_cons ?_ ?_ | refine CvB_c rfl ?_ | fail) <;> first | exact au_v | (first | exact CvL.pure hps | exact CvL.pure (trm_pure _) | exact CvL.pure rfl | exact Cv.slc (by rw [haT2, List.length_append]; rfl) (.inl rfl) | (rw [haT2, List.length_append]; exact Cv.slc rfl (.inr rfl)) | exact CvL.eq (by rw [haT2, encL_append, List.drop_zero, List.take_of_length_le (by rw [encL_len, cRq_sz]; exact Nat.le_refl _)]) (encL_pure _ _)))⟩
      (try dsimp only); omega
    · have haF2 := haF (by simpa using hc2)
      refine VC.skip ?_
      refine VC.regN tab_ok [] rfl ?_
      first | refine VX.add rfl rfl (by omega) ?_ | refine VX.meek rfl ?_
      refine VX.meek rfl ?_
      refine VX.nil ?_
      refine ⟨i + 1, by (try dsimp only); omega, ?_, (by refine ⟨[some 0, some 1, some 2, some 3], rfl, by first | trivial | decide, rfl, ?_, ?_⟩ <;> (repeat' first | exact trivial | exact CvB_n | exact CvB_d | exact CvB_o rfl | refine CvE_app ?_ ?_ | refine CvE_cons rfl ?_ ?_ | refine CvH_cons ?_ ?_ | refine CvB_c rfl ?_ | fail) <;> first | exact au_v | (first | exact CvL.pure hps | exact CvL.pure (trm_pure _) | exact CvL.pure rfl | (rw [haF2]; exact Cv.slc rfl (.inl rfl)) | exact CvL.eq (by rw [haF2]) (encL_pure _ _)))⟩
      (try dsimp only); omega
  · (try simp only [au_std] at hc1); obtain rfl : i = S.rows := (by omega)
    refine VC.exit ?_
    refine VC.reg tab_ok [] rfl ?_
    first | refine VX.meek rfl ?_ | refine VX.loadI rfl rfl au_l ?_ | refine VX.loadP rfl rfl rfl au_l ?_
    refine VX.meek rfl ?_
    refine VX.store rfl rfl rfl rfl rfl au_sY rfl ?_
    refine VX.meek rfl ?_
    refine VX.nil ?_
    refine VC.ret ?_
    exact ⟨trivial, _, rfl, Cv.tup (CvL.cons (Cv.agg (CvL.pure (trm_pure _))) (CvL.cons (Cv.fslc0 ⟨rfl, by simp⟩ (CvL.pure (encL_pure _ _))) CvL.nil))⟩
end
section
open Go.RowKit
def CW (w : World) (v : Value) (S : Scr) : Prop :=
  ∃ vc vk, v = .agg (S.vals vc vk) ∧ Rd w 1 vc S.grid.length (Lib.byteCells S.grid) ∧ ∃ A c, vk = .slice A S.kept.length c
theorem CW.next {w w' : World} {v : Value} {S : Scr} (h : CW w v S) (hb : Below w.heap.size w w') : CW w' v S := by
  obtain ⟨vc, vk, hv, h1, h2⟩ := h
  exact ⟨vc, vk, hv, h1.next hb, h2⟩
theorem idx_str {P : Program} {t : TypeId} (h : P.underlying t = some .string) (s : ByteArray) (k : Nat) (n : Int) (hn : n = k) (hk : k < s.size) :
    ∀ w : World, (Instr.index t (.string s) (.int .i64 n)).run P w = .ok (.int .u8 (s.data.toList.getD k 0).toNat) w := by
  intro w
  subst hn
  rw [run_index_string w t s .i64 k h, dif_pos ⟨by omega, by omega⟩]
  have hl : k < s.data.toList.length := by simpa using hk
  have e : (s[(k : Int).toNat]'(by simpa using hk)) = s.data.toList.getD k 0 := by
    rw [List.getD_eq_getElem?_getD, List.getElem?_eq_getElem hl]
    simp only [Int.toNat_natCast, Option.getD_some]
    rfl
  rw [e]
theorem alloc2_fst (w : World) (X Y : Obj) : ((w.alloc X).alloc Y).heap[w.heap.size]? = some X := by
  rw [Below.heap_alloc (w.alloc X) Y w.heap.size (by simp)]; exact heap_alloc_new w X
theorem below_alloc2 (w : World) (X Y : Obj) : Below w.heap.size w ((w.alloc X).alloc Y) := ((Below.refl _ _).alloc (Nat.le_refl _) _).alloc (by simp) _
theorem Rd.cut {P : Program} {w : World} {e t : TypeId} {v : Value} {n : Nat} {xs : List Value} (h : Rd w 1 v n xs) (ht : P.underlying t = some (.slice e)) (hz : ∀ w, (Go.sizeOf e).run P w = .ok 1 w) (l r : Nat) (hlr : l ≤ r) (hr : r ≤ n) :
    ∃ A c, (∀ W, (Instr.slice t v (some (.int .i64 (l : Int))) (some (.int .i64 (r : Int))) none).run P W = .ok (.slice A (r - l) c) W) ∧ Rd w 1 (.slice A (r - l) c) (r - l) ((xs.drop l).take (r - l)) := by
  have ht' : P.underlying t = some (.slice (P.elem t)) := by simp [Program.elem, ht]
  have he : P.elem t = e := by simp [Program.elem, ht]
  obtain ⟨hl, A, c, rfl, hnc, hcm, hA, hcell⟩ := h
  rw [Nat.mul_one] at hl
  refine ⟨if c = l then A else A.map (·.add l), c - l, fun W => ?_, by rw [List.length_take, List.length_drop]; omega, _, _, rfl, by omega, by omega, ?_, fun hp => ?_⟩
  · rw [run_slice_lh W t _ _ _ ht' .i64 .i64 _ _ (by omega) (by omega) (by omega), he, hz]
    simp [Result.andThen, sliced]
  · split
    · exact hA
    · rcases hA with rfl | ⟨b, o, rfl⟩
      · exact Or.inl rfl
      · exact Or.inr ⟨b, o + l, by rw [Option.map_some, add_none]⟩
  · obtain ⟨b, o, rfl, hlt, hc⟩ := hcell (by omega)
    refine ⟨b, o + l, by rw [if_neg (by omega), Option.map_some, add_none], hlt, fun j u hu => ?_⟩
    rw [Nat.add_assoc]
    refine hc (l + j) u ?_
    rw [List.getElem?_take] at hu
    split at hu
    · rw [List.getElem?_drop] at hu; exact hu
    · cases hu
theorem conv_rd {w : World} {v : Value} {l : List UInt8} (h : Rd w 1 v l.length (Lib.byteCells l)) :
    (convert 25 9 v).run Tryd.prog w = .ok (strV l) w := by
  obtain ⟨hl, A, c, rfl, hnc, hcm, hA, hcell⟩ := h
  rcases Nat.eq_zero_or_pos l.length with h0 | h0
  · obtain rfl : l = [] := List.length_eq_zero_iff.1 h0
    rcases hA with rfl | ⟨b, o, rfl⟩
    · exact Lib.run_convert_nil_bytes w 25 9 5 c Tryd.underlying25 Tryd.underlying5 Tryd.underlying9
    · exact run_convert_bytes_back w 25 9 5 ⟨b, o, none⟩ c [] Tryd.underlying25 Tryd.underlying5 Tryd.underlying9 (fun j hj => by simp at hj)
  · obtain ⟨b, o, rfl, hlt, hc⟩ := hcell h0
    refine run_convert_bytes_back w 25 9 5 ⟨b, o, none⟩ c l Tryd.underlying25 Tryd.underlying5 Tryd.underlying9 ?_
    intro j hj
    rw [add_none]
    refine hc j _ ?_
    unfold Lib.byteCells
    rw [List.getElem?_map, List.getElem?_eq_getElem hj]
    rfl
def ValPost (w : World) (v : Value) (e : Ending) (w' : World) : Prop := e = .returned v ∧ Below w.heap.size w w'
set_option maxRecDepth 100000 in
set_option maxHeartbeats 800000 in
theorem row_yes (v : Value) (S : Scr) (y : Nat) (w : World) (h : CW w v S) (ok : S.Ok) (hy : y < S.rows) :
    Calls Tryd.prog 20 #[v, .int .i64 y] w (ValPost w (strV ((S.grid.drop (y * S.cols)).take S.cols))) := by
  obtain ⟨vc, vk, rfl, h1, h2⟩ := h
  have hr2 := ok.r2
  have hg2 := ok.g2
  have hpg : y * S.cols + S.cols ≤ S.grid.length := by rw [ok.g, ← Nat.succ_mul, Nat.mul_comm]; exact Nat.mul_le_mul (Nat.le_refl _) hy
  obtain ⟨p, hp⟩ : ∃ p : Nat, p = y * S.cols := ⟨_, rfl⟩
  obtain ⟨q, hq⟩ : ∃ q : Nat, q = (y + 1) * S.cols := ⟨_, rfl⟩
  have hqp : q = p + S.cols := by rw [hq, hp, Nat.succ_mul]
  rw [← hp] at hpg
  have hw1 : IntKind.i64.wrap ((y : Int) * (S.cols : Int)) = (p : Int) := by rw [← Int.natCast_mul, ← hp, IntWalk.i64_in _ (by omega)]
  have hw2 : IntKind.i64.wrap ((y : Int) + 1) = (y : Int) + 1 := IntWalk.i64_in _ (by omega)
  have hw3 : IntKind.i64.wrap (((y : Int) + 1) * (S.cols : Int)) = (q : Int) := by
    rw [show ((y : Int) + 1) * (S.cols : Int) = (((y + 1) * S.cols : Nat) : Int) from by rw [Int.natCast_mul, Int.natCast_add]; rfl, ← hq, IntWalk.i64_in _ (by omega)]
  obtain ⟨A, c, hsl, hrd⟩ := h1.cut Tryd.underlying25 Tryd.sizeOf5 p q (by omega) (by omega)
  have hlen : ((S.grid.drop p).take S.cols).length = q - p := by rw [List.length_take, List.length_drop]; omega
  have hrd2 : Rd (w.alloc (.cells (S.vals vc vk) 29)) 1 (.slice A (q - p) c) ((S.grid.drop p).take S.cols).length (Lib.byteCells ((S.grid.drop p).take S.cols)) := by
    rw [hlen, show Lib.byteCells ((S.grid.drop p).take S.cols) = ((Lib.byteCells S.grid).drop p).take (q - p) from by unfold Lib.byteCells; rw [List.map_take, List.map_drop]; congr 1; omega]
    exact hrd.next ((Below.refl _ _).alloc (Nat.le_refl _) _)
  have hcv := conv_rd hrd2
  obtain ⟨-, A0, c0, rfl, -, -, -, -⟩ := h1
  rw [← hp]
  obtain ⟨R, hR⟩ : ∃ R : ByteArray, R = ⟨((S.grid.drop p).take S.cols).toArray⟩ := ⟨_, rfl⟩
  rw [show strV ((S.grid.drop p).take S.cols) = .string R from by rw [hR]; rfl] at hcv ⊢
  have hpq : p ≤ q := by omega
  have hqn : q ≤ S.grid.length := by omega
  clear hlen hrd2 hrd hp hq ok hqp hpg h2 hR
  unfold Scr.vals at hcv ⊢
  generalize S.grid.length = n at *
  generalize q - p = m at *
  have hy' : decide ((y : Int) ≥ (S.rows : Int)) = false := by simp; omega
  go_enter Tryd.func20, Tryd.ntmps20
  go_wp2_with fail
  go_ret
  exact ⟨rfl, (Below.refl _ _).alloc (Nat.le_refl _) _⟩
set_option maxRecDepth 100000 in
set_option maxHeartbeats 800000 in
theorem row_no (v : Value) (S : Scr) (y : Int) (w : World) (h : CW w v S) (hy : y < 0 ∨ (S.rows : Int) ≤ y) :
    Calls Tryd.prog 20 #[v, .int .i64 y] w (ValPost w (strV [])) := by
  obtain ⟨vc, vk, rfl, h1, h2⟩ := h
  unfold Scr.vals
  clear h1 h2
  unfold strV
  by_cases h0 : y < 0
  · clear hy
    go_enter Tryd.func20, Tryd.ntmps20
    go_wp2_with fail
    go_ret
    exact ⟨rfl, (Below.refl _ _).alloc (Nat.le_refl _) _⟩
  · have hy' : decide (y ≥ (S.rows : Int)) = true := by simp; omega
    have h0' : decide (y < 0) = false := by simp; omega
    clear hy
    go_enter Tryd.func20, Tryd.ntmps20
    go_wp2_with fail
    go_ret
    exact ⟨rfl, (Below.refl _ _).alloc (Nat.le_refl _) _⟩
theorem row_any (v : Value) (S : Scr) (y : Int) (w : World) (h : CW w v S) (ok : S.Ok) :
    Calls Tryd.prog 20 #[v, .int .i64 y] w (ValPost w (strV (S.row y))) := by
  unfold Scr.row
  by_cases hy : 0 ≤ y ∧ y < S.rows
  · rw [if_pos hy]
    obtain ⟨k, rfl⟩ := Int.eq_ofNat_of_zero_le hy.1
    exact row_yes v S k w h ok (by omega)
  · rw [if_neg hy]
    exact row_no v S y w h (by omega)
def trimL (l : List UInt8) : List UInt8 := (l.reverse.dropWhile (· == 32)).reverse
theorem trimL_blank (l : List UInt8) : trimL (l ++ [32]) = trimL l := by
  unfold trimL
  rw [List.reverse_append]
  rfl
theorem trimL_other (l : List UInt8) (c : UInt8) (h : (c == 32) = false) : trimL (l ++ [c]) = l ++ [c] := by
  unfold trimL
  rw [List.reverse_append, List.reverse_singleton, List.singleton_append, List.dropWhile_cons, h]
  simp
theorem extract_list (t : ByteArray) (k : Nat) : (t.extract 0 k).data.toList = t.data.toList.take k := by
  simp [ByteArray.data_extract]
def sizeV : Value → Nat | .string s => s.size | _ => 0
theorem trimL_nil (t : ByteArray) (h : t.size = 0) : trimL t.data.toList = t.data.toList := by
  have : t.data.toList = [] := List.length_eq_zero_iff.1 (by simpa using h)
  rw [this]; rfl
theorem last_split (t : ByteArray) (h : 0 < t.size) : t.data.toList = t.data.toList.take (t.size - 1) ++ [t.data.toList.getD (t.size - 1) 0] := by
  have hl : t.size - 1 < t.data.toList.length := by simp; omega
  rw [List.getD_eq_getElem?_getD, List.getElem?_eq_getElem hl]
  have := List.take_succ_eq_append_getElem hl
  rw [List.take_of_length_le (by simp; omega)] at this
  exact this
set_option maxRecDepth 100000 in
set_option maxHeartbeats 800000 in
theorem trimByte_any (s : ByteArray) (w : World) (hs : s.size ≤ 1000000) :
    Calls Tryd.prog 76 #[.string s, .int .u8 32] w (fun e w' => e = .returned (strV (trimL s.data.toList)) ∧ w = w') := by
  go_enter Tryd.func76, Tryd.ntmps76
  go_wp2_with fail
  go_loop [0] (fun sv => ∃ t : ByteArray, sv = .string t ∧ Hid (trimL t.data.toList = trimL s.data.toList) ∧ t.size ≤ s.size) (fun sv => sizeV sv)
  case atStart => exact ⟨s, rfl, rfl, Nat.le_refl _⟩
  case round =>
    obtain ⟨t, rfl, hT, ht⟩ := hrel
    by_cases h0 : t.size = 0
    · have HR : Hid (Value.string t = strV (trimL s.data.toList)) := by rw [← hT.out, trimL_nil t h0]; exact Lib.hid rfl
      obtain ⟨d⟩ := t
      obtain rfl : d = #[] := Array.eq_empty_of_size_eq_zero h0
      clear hT h0
      go_wp2_with fail
      go_ret
      refine ⟨?_, rfl⟩
      rw [← HR.out]; rfl
    · have hx := idx_str Tryd.underlying9 t (t.size - 1) ((t.size : Int) - 1) (by omega) (by omega)
      have hpos : 0 < t.size := by omega
      have hsp := last_split t hpos
      have hg : decide ((t.size : Int) > 0) = true := by simp; omega
      by_cases hc : t.data.toList.getD (t.size - 1) 0 = 32
      · have HT2 : Hid (trimL (t.data.toList.take (t.size - 1)) = trimL s.data.toList) := by rw [← hT.out, hsp, hc, trimL_blank]; exact Lib.hid (by simp)
        rw [hc] at hx
        clear hsp hc hT h0
        go_wp2_with fail
        refine ⟨⟨_, rfl, by rw [extract_list]; exact HT2.out, by simp; omega⟩, by simp [sizeV]; omega⟩
      · have HR : Hid (Value.string t = strV (trimL s.data.toList)) := by
          rw [← hT.out, hsp, trimL_other _ _ (by simpa using hc), ← hsp]; exact Lib.hid rfl
        have hne : ((t.data.toList.getD (t.size - 1) 0).toNat : Int) = 32 → False := by
          intro h; apply hc; apply UInt8.toNat_inj.1; have : (32 : UInt8).toNat = 32 := rfl; omega
        have hb : (((t.data.toList.getD (t.size - 1) 0).toNat : Int) == 32) = false := by simpa using hne
        generalize (t.data.toList.getD (t.size - 1) 0).toNat = c at *
        clear hsp hc hT h0 hne
        go_wp2_with fail
        go_ret
        refine ⟨?_, rfl⟩
        rw [← HR.out]; rfl
set_option maxRecDepth 100000 in
set_option maxHeartbeats 800000 in
theorem trim_any (s : ByteArray) (w : World) (hs : s.size ≤ 1000000) :
    Calls Tryd.prog 48 #[.string s, .string ⟨#[32]⟩] w (fun e w' => e = .returned (strV (trimL s.data.toList)) ∧ w = w') := by
  by_cases h0 : s.size = 0
  · have HR : Hid (Value.string s = strV (trimL s.data.toList)) := by rw [trimL_nil s h0]; exact Lib.hid rfl
    obtain ⟨d⟩ := s
    obtain rfl : d = #[] := Array.eq_empty_of_size_eq_zero h0
    clear h0
    go_enter Tryd.func48, Tryd.ntmps48
    go_wp2_with fail
    go_ret
    refine ⟨?_, rfl⟩
    rw [← HR.out]; rfl
  · have hx := idx_str Tryd.underlying9 ⟨#[32]⟩ 0 0 rfl (by decide)
    have hie : s.toList.isEmpty = false := by rw [Lib.toList_data]; simpa using fun h : s.data = #[] => h0 (congrArg Array.size h)
    have hne : ¬ s.toList = [] := by intro h; rw [h] at hie; cases hie
    go_enter Tryd.func48, Tryd.ntmps48
    go_wp2_with fail
    refine (trimByte_any s _ hs).mono ?_
    rintro e w1 ⟨rfl, rfl⟩
    go_wp2_with fail
    go_ret
    exact ⟨rfl, rfl⟩
def Scr.textUpto (S : Scr) (n : Nat) : List UInt8 := (List.range n).flatMap fun y : Nat => trimL (S.row (y : Int)) ++ [10]
def Scr.text (S : Scr) : List UInt8 := S.textUpto S.rows
theorem textUpto_succ (S : Scr) (n : Nat) : S.textUpto (n + 1) = S.textUpto n ++ trimL (S.row n) ++ [10] := by
  unfold Scr.textUpto
  rw [List.range_succ, List.flatMap_append]
  simp
theorem trimL_len (l : List UInt8) : (trimL l).length ≤ l.length := by
  unfold trimL
  rw [List.length_reverse]
  have := (List.dropWhile_sublist (l := l.reverse) (· == 32)).length_le
  simpa using this
theorem row_len (S : Scr) (y : Int) : (S.row y).length ≤ S.cols := by
  unfold Scr.row
  split
  · rw [List.length_take]; omega
  · simp
theorem textUpto_len (S : Scr) (n : Nat) : (S.textUpto n).length ≤ n * (S.cols + 1) := by
  induction n with
  | zero => exact Nat.zero_le _
  | succ n ih =>
    rw [textUpto_succ, List.length_append, List.length_append, Nat.succ_mul]
    have h1 := trimL_len (S.row n)
    have h2 := row_len S n
    simp
    omega
set_option maxRecDepth 100000 in
set_option maxHeartbeats 800000 in
theorem text_walk (v : Value) (S : Scr) (w : World) (h : CW w v S) (ok : S.Ok) :
    Calls Tryd.prog 24 #[v] w (ValPost w (strV S.text)) := by
  have HV := Lib.hid h
  obtain ⟨vc, vk, rfl, h1, h2⟩ := h
  obtain ⟨-, A3, c3, rfl, -, -, -, -⟩ := h1
  obtain ⟨A4, c4, rfl⟩ := h2
  have hr2 := ok.r2
  have hc2 := ok.c2
  have HO := Lib.hid ok
  clear ok
  unfold Scr.vals
  obtain ⟨W, hW⟩ : ∃ W, W = (w.alloc (.cells (S.vals (.slice A3 S.grid.length c3) (.slice A4 S.kept.length c4)) 29)).alloc (.cells #[.pointer none, .slice none 0 0] 110) := ⟨_, rfl⟩
  have hWx : W.heap[w.heap.size]? = some (.cells (S.vals (.slice A3 S.grid.length c3) (.slice A4 S.kept.length c4)) 29 (0, 0)) := by rw [hW]; exact alloc2_fst _ _ _
  have hWb : Below w.heap.size w W := by rw [hW]; exact below_alloc2 _ _ _
  have hWs : W.heap.size = w.heap.size + 2 := by rw [hW]; simp
  have hWB : Tryd.Bd W (w.heap.size + 1) (w.heap.size + 1) [] := by
    rw [hW]
    have := Tryd.Bd.new (w.alloc (.cells (S.vals (.slice A3 S.grid.length c3) (.slice A4 S.kept.length c4)) 29))
    simpa using this
  have HW := Lib.hid hW; have HX := Lib.hid hWx; have HB := Lib.hid hWb; have HS := Lib.hid hWs; have HD := Lib.hid hWB
  clear hW hWx hWb hWs hWB
  go_enter Tryd.func24, Tryd.ntmps24
  go_wp2_with fail
  unfold Scr.vals at HW
  rw [← HW.out]
  go_loopw [7] (fun iv wr => ∃ i : Nat, i ≤ S.rows ∧ iv = .int .i64 i ∧ Hid (Tryd.Bd wr (w.heap.size + 1) (w.heap.size + 1) (S.textUpto i)) ∧ Hid (Below (w.heap.size + 1) W wr)) (fun iv _ => S.rows - (intOf iv).toNat)
  case atStart => exact ⟨0, Nat.zero_le _, rfl, HD.out, Below.refl _ _⟩
  case round =>
    obtain ⟨i, hi, rfl, hD, hb⟩ := hrel
    have hlen : (S.textUpto i).length ≤ 10000 := Nat.le_trans (textUpto_len S i) (Nat.le_trans (Nat.mul_le_mul (by omega : i ≤ 64) (by omega : S.cols + 1 ≤ 129)) (by decide))
    have hwr : Below w.heap.size w wr := HB.out.trans (hb.out.mono (by omega))
    have hsz : w.heap.size + 1 ≤ wr.heap.size := by have := hb.out.size; have := HS.out; omega
    by_cases hlt : i < S.rows
    · have hx : wr.heap[w.heap.size]? = some (.cells (S.vals (.slice A3 S.grid.length c3) (.slice A4 S.kept.length c4)) 29 (0, 0)) := (hb.out.block _ (by omega)).trans HX.out
      have e0 : wr.cell? ⟨w.heap.size, 0, none⟩ = some (.int .i64 S.cols) := cell_of_row _ _ _ _ _ _ hx
      have e1 : wr.cell? ⟨w.heap.size, 1, none⟩ = some (.int .i64 S.rows) := cell_of_row _ _ _ _ _ _ hx
      have e2 : wr.cell? ⟨w.heap.size, 2, none⟩ = some (.int .i64 S.most) := cell_of_row _ _ _ _ _ _ hx
      have e3 : wr.cell? ⟨w.heap.size, 3, none⟩ = some (.int .i64 S.x) := cell_of_row _ _ _ _ _ _ hx
      have e4 : wr.cell? ⟨w.heap.size, 4, none⟩ = some (.int .i64 S.y) := cell_of_row _ _ _ _ _ _ hx
      have e5 : wr.cell? ⟨w.heap.size, 5, none⟩ = some (.slice A3 S.grid.length c3) := cell_of_row _ _ _ _ _ _ hx
      have e6 : wr.cell? ⟨w.heap.size, 6, none⟩ = some (.slice A4 S.kept.length c4) := cell_of_row _ _ _ _ _ _ hx
      have e7 : wr.cell? ⟨w.heap.size, 7, none⟩ = some (.int .i64 S.st) := cell_of_row _ _ _ _ _ _ hx
      have e8 : wr.cell? ⟨w.heap.size, 8, none⟩ = some (.int .i64 S.n0) := cell_of_row _ _ _ _ _ _ hx
      have e9 : wr.cell? ⟨w.heap.size, 9, none⟩ = some (.int .i64 S.n1) := cell_of_row _ _ _ _ _ _ hx
      have e10 : wr.cell? ⟨w.heap.size, 10, none⟩ = some (.int .i64 S.num) := cell_of_row _ _ _ _ _ _ hx
      have HL := Lib.hid hlen; have HWR := Lib.hid hwr
      clear hx hlen hwr
      go_wp2_with fail
      refine (row_any (.agg (S.vals (.slice A3 S.grid.length c3) (.slice A4 S.kept.length c4))) S (i : Int) _ (HV.out.next HWR.out) HO.out).mono ?_
      rintro e w1 ⟨rfl, hb1⟩
      unfold strV
      obtain ⟨R, hR⟩ : ∃ R : ByteArray, R = ⟨(S.row i).toArray⟩ := ⟨_, rfl⟩
      rw [← hR]
      have hRl : R.data.toList = S.row i := by rw [hR]
      have hRs : R.size ≤ 128 := by rw [hR]; have := row_len S i; show (S.row i).toArray.size ≤ 128; simp; omega
      have HR := Lib.hid hRl; have HB1 := Lib.hid hb1
      clear hR hRl hb1 e0 e1 e2 e3 e4 e5 e6 e7 e8 e9 e10
      go_wp2_with fail
      refine (trim_any R _ (by omega)).mono ?_
      rintro e w2 ⟨rfl, rfl⟩
      unfold strV
      obtain ⟨T, hT⟩ : ∃ T : ByteArray, T = ⟨(trimL R.data.toList).toArray⟩ := ⟨_, rfl⟩
      rw [← hT]
      have hTl : T.data.toList = trimL (S.row i) := by rw [hT, HR.out]
      have hTs : T.size ≤ 128 := by
        have h1 := trimL_len R.data.toList
        have h2 : R.data.toList.length = R.size := by simp
        have h3 : T.size = (trimL R.data.toList).length := by rw [hT]; show (trimL R.data.toList).toArray.size = _; simp
        omega
      have HT := Lib.hid hTl
      clear hT hTl
      go_wp2_with fail
      have hsz1 := HB1.out.size
      refine (Tryd.bWriteString (w.heap.size + 1) (w.heap.size + 1) (S.textUpto i) T _ (hD.out.next HB1.out) (by have := HL.out; omega) (by omega)).mono ?_
      rintro e w3 ⟨rfl, hD3, hb3⟩
      have HD3 := Lib.hid hD3; have HB3 := Lib.hid hb3
      clear hD3 hb3
      go_wp2_with fail
      have hsz3 := HB3.out.size
      have hTl2 : (S.textUpto i ++ T.data.toList).length ≤ 20000 := by
        have h1 := HL.out
        have h2 : T.data.toList.length = T.size := by simp
        rw [List.length_append]; omega
      refine (Tryd.bWriteByteI (w.heap.size + 1) (w.heap.size + 1) (S.textUpto i ++ T.data.toList) 10 10 rfl _ HD3.out (by omega) (by omega)).mono ?_
      rintro e w4 ⟨rfl, hD4, hb4⟩
      have HD4 := Lib.hid hD4; have HB4 := Lib.hid hb4
      clear hD4 hb4
      go_wp2_with fail
      go_roundw
      case rel => exact ⟨i + 1, by omega, by go_num, by rw [textUpto_succ, ← HT.out]; exact HD4, ((hb.out.trans (HB1.out.mono hsz)).trans HB3.out).trans HB4.out⟩
      case measure => simp [intOf]; omega
    · obtain rfl : i = S.rows := by omega
      have HWR := Lib.hid hwr
      clear hwr hlen
      go_wp2_with fail
      refine (Tryd.bString (w.heap.size + 1) (w.heap.size + 1) (S.textUpto S.rows) _ hD.out hsz).mono ?_
      rintro e w1 ⟨rfl, hb1⟩
      have HB1 := Lib.hid hb1
      clear hb1
      go_wp2_with fail
      go_ret
      exact ⟨rfl, HWR.out.trans (HB1.out.mono (by omega))⟩
theorem CallP.of_rep {P : Program} {f : FuncId} {args : List T} {x : Value} (hp : T.pureL args = true) (hgo : goB P f = true)
    (h : ∀ (M : Mp) vs, RepL M args vs → Calls P f vs.toArray M.w (fun e w' => e = .returned x ∧ Below M.w.heap.size M.w w')) : CallP P f args (.v x) := by
  refine ⟨hp, rfl, hgo, fun X0 M vs hS hrep => ?_⟩
  refine (h M vs hrep).mono ?_
  rintro e w' ⟨rfl, hb⟩
  have hk : ∀ B, B < M.w.heap.size → w'.heap[B]? = M.w.heap[B]? := fun B hB => hb.block B hB
  have hE : Evo X0 M ⟨M.β, M.X, w'⟩ := ⟨fun _ _ h => h, fun _ _ h => h, fun B hB _ => hk B hB, fun B s hs => by
    have : B < M.w.heap.size := by
      rcases Nat.lt_or_ge B M.w.heap.size with h1 | h1
      · exact h1
      · simp [World.shape?, Array.getElem?_eq_none h1] at hs
    rw [← hs]; exact shape_block (hk B this), hb.os, ⟨hb.tape, fun d => d.elim⟩, hb.output, hb.size⟩
  exact ⟨x, .v x, [], ⟨M.β, M.X, w'⟩, rfl, rfl, rfl, hE, hS.world hE hk, rfl⟩
theorem cw_of_rep {M : Mp} {S : Scr} {vs : List Value} (ok : S.Ok) (h : RepL M [scrT S] vs) : ∃ v, vs = [v] ∧ CW M.w v S := by
  obtain ⟨v, r, rfl, ⟨us, rfl, hu⟩, rfl⟩ := h
  obtain ⟨u0, r0, rfl, rfl, hu⟩ := hu
  obtain ⟨u1, r1, rfl, rfl, hu⟩ := hu
  obtain ⟨u2, r2, rfl, rfl, hu⟩ := hu
  obtain ⟨u3, r3, rfl, rfl, hu⟩ := hu
  obtain ⟨u4, r4, rfl, rfl, hu⟩ := hu
  obtain ⟨u5, r5, rfl, hg, hu⟩ := hu
  obtain ⟨u6, r6, rfl, hk, hu⟩ := hu
  obtain ⟨u7, r7, rfl, rfl, hu⟩ := hu
  obtain ⟨u8, r8, rfl, rfl, hu⟩ := hu
  obtain ⟨u9, r9, rfl, rfl, hu⟩ := hu
  obtain ⟨u10, r10, rfl, rfl, rfl⟩ := hu
  refine ⟨_, rfl, u5, u6, rfl, ?_, ?_⟩
  · obtain ⟨A, k, rfl, h1, h2, -, ⟨h3, h4⟩ | ⟨B, O, a, rfl, ⟨-, e, fz, hb⟩, hA⟩⟩ := hg
    · have := ok.cg; have := ok.c1; omega
    · refine ⟨by unfold Lib.byteCells; simp, _, _, rfl, h1, h2, .inr ⟨_, _, rfl⟩, fun _ => ⟨B, O, rfl, block_lt hb, fun j u hj => ?_⟩⟩
      unfold Lib.byteCells at hj
      rw [List.getElem?_map] at hj
      obtain ⟨b, hb1, rfl⟩ := Option.map_eq_some_iff.1 hj
      have hc : (encL cY S.grid)[j]? = some (U8 (b.toNat : Int)) := by
        have e2 : ∀ l : List UInt8, encL cY l = l.map fun b => U8 (b.toNat : Int) := fun l => by
          induction l with
          | nil => rfl
          | cons b l ih => rw [List.map_cons, ← ih]; rfl
        rw [e2, List.getElem?_map, hb1]; rfl
      obtain ⟨u, hu1, rfl⟩ := hA.get j _ hc
      rw [World.cell?]
      simp only [hb]
      exact hu1
  · obtain ⟨A, k, rfl, -⟩ := hk
    exact ⟨A, k, rfl⟩
theorem text_p (S : Scr) (ok : S.Ok) : CallP Tryd.prog 24 [scrT S] (strT S.text) :=
  CallP.of_rep (by simp only [T.pureL, T.pure, encL_pure]; rfl) (by kernel_rfl) fun M vs h => by
    obtain ⟨v, rfl, hv⟩ := cw_of_rep ok h
    exact text_walk v S M.w hv ok
end
section
open Go.RowKit
set_option maxRecDepth 10000
set_option maxHeartbeats 1000000
def askE (Y H : Int) (k : Nat) : Bool := decide (6 * (k : Int) < Y + H) && decide (Y < 6 * (k : Int) + 6) && decide (H > 0)
theorem meets_p (k : Nat) (Y H : Int) (hk : k ≤ 100) (hY : 0 ≤ Y ∧ Y < 256) (hH : 0 ≤ H ∧ H < 256) : CallP Tryd.prog 103 [I64 (6 * (k : Int)), I64 Y, I64 H] (BL (askE Y H k)) := by
  refine CallP.intro2 au_pu au_pu ?_
  refine CallT.intro tab_ok Tryd.func103 rfl (by kernel_rfl) (Nat.le_of_ble_eq_true rfl) ?_
  refine VC.reg tab_ok [] rfl ?_
  refine VX.meek rfl ?_
  refine VX.nil ?_
  refine VC.seq ?_
  refine VC.reg tab_ok [] rfl ?_
  iterate 3 refine VX.meek rfl ?_
  refine' VX.merge (d := 14) [_, _, _, _, _] rfl ?_ rfl ?_
  rotate_left
  · refine VX.guard rfl rfl (fun hb1_2 => ?_) (fun hb1_2 => ?_)
    · have ghb1_2 := hb1_2
      try simp only [au_std, Bool.not_true, Bool.not_false] at ghb1_2
      refine VX.meek rfl ?_
      refine VX.guardT rfl rfl hb1_2 ?_
      refine VX.meek rfl ?_
      refine VX.guardT rfl rfl hb1_2 ?_
      first | refine VX.add rfl rfl (by omega) ?_ | refine VX.meek rfl ?_
      refine VX.guardT rfl rfl hb1_2 ?_
      refine VX.meek rfl ?_
      refine VX.pickO rfl (fun _ => rfl) ?_
      exact VX.nil ⟨rfl, rfl⟩
    · refine VX.guardF rfl rfl hb1_2 ?_
      refine VX.guardF rfl rfl hb1_2 ?_
      refine VX.guardF rfl rfl hb1_2 ?_
      exact VX.pickO rfl (fun h => absurd (h.symm.trans hb1_2) (by decide)) (VX.nil ⟨rfl, rfl⟩)
  refine VX.nil ?_
  refine VC.cond rfl (fun hc0 => ?_) (fun hc0 => ?_)
  · (try simp only [au_std] at hc0); have e1 : askE Y H k = false := (by unfold askE; simp; omega)
    refine VC.reg tab_ok [] rfl ?_
    refine VX.meek rfl ?_
    refine VX.nil ?_
    refine VC.ret ?_
    exact ⟨trivial, _, rfl, Cv.eq (by rw [e1]; rfl) rfl⟩
  · (try simp only [au_std] at hc0); skip
    refine VC.skip ?_
    refine VC.seq ?_
    refine VC.reg tab_ok [] rfl ?_
    iterate 2 refine VX.meek rfl ?_
    refine VX.nil ?_
    refine VC.cond rfl (fun hc1 => ?_) (fun hc1 => ?_)
    · exact absurd hc1 (by simp; omega)
    · (try simp only [au_std] at hc1)
      refine VC.skip ?_
      refine VC.reg tab_ok [] rfl ?_
      iterate 2 refine VX.meek rfl ?_
      first | refine VX.sub rfl rfl (by omega) ?_ | refine VX.meek rfl ?_
      iterate 3 refine VX.meek rfl ?_
      refine VX.nil ?_
      refine VC.ret ?_
      exact ⟨trivial, _, rfl, Cv.eq (by show T.v (.bool (decide (6 * (k : Int) - Y < H))) = _; congr 2; unfold askE; rw [Bool.eq_iff_iff]; simp; omega) rfl⟩
theorem exposed_p (t : Trm) (w Y H : Int) (ok : t.scr.Ok) (hY : 0 ≤ Y ∧ Y < 256) (hH : 0 ≤ H ∧ H < 256) : CallP Tryd.prog 69 [trmT t, cIf (expN w Y H)] (.tup [trmT t, rqT (accL (askE Y H) t t.scr.rows)]) := by
  have hp := trm_pure t
  have hr2 := ok.r2
  have hal := accL_len (askE Y H) t
  refine CallP.intro2 au_pu au_pu ?_
  refine CallT.intro tab_ok Tryd.func69 rfl (by kernel_rfl) (Nat.le_of_ble_eq_true rfl) ?_
  refine VC.reg tab_ok [2] rfl ?_
  refine VX.newI rfl rfl ?_
  refine VX.new rfl rfl ?_
  refine VX.meek rfl ?_
  refine VX.nil ?_
  refine VC.seq ?_
  refine VC.reg tab_ok [] rfl ?_
  iterate 3 refine VX.meek rfl ?_
  refine VX.nil ?_
  refine VC.cond rfl (fun hc0 => ?_) (fun hc0 => ?_)
  · exact absurd hc0 (by show ¬ (((6 : Nat) : Int) != 6) = true; decide)
  · (try simp only [au_std] at hc0)
    refine VC.skip ?_
    refine VC.reg tab_ok [] rfl ?_
    refine VX.meek rfl ?_
    refine VX.nil ?_
    refine VC.reg tab_ok [] rfl ?_
    refine VX.meek rfl ?_
    first | refine VX.meek rfl ?_ | refine VX.loadI rfl rfl au_l ?_ | refine VX.loadP rfl rfl rfl au_l ?_
    refine VX.callP0 rfl rfl rfl (size_c t.scr) ?_
    iterate 5 refine VX.meek rfl ?_
    refine VX.nil ?_
    refine VC.seq ?_
    refine VC.reg tab_ok [] rfl ?_
    iterate 2 refine VX.meek rfl ?_
    refine VX.nil ?_
    refine VC.block ?_
    refine VC.loopS (σ := Nat) (fun i => t.scr.rows - i) (fun i => i ≤ t.scr.rows) (fun i => [(21, I64 i), (4, .ptr 0 0), (6, .slc 1 0 (accL (askE Y H) t i).length 4 none)]) (fun i => [.c zTrm, .c (encL cRq (accL (askE Y H) t i))]) [1, 2, 20] rfl (0) ?_ ?_ ?_
    · refine ⟨[some 0, none], rfl, by first | trivial | decide, rfl, ?_, ?_⟩ <;> (repeat' first | exact trivial | exact CvB_n | exact CvB_d | exact CvB_o rfl | refine CvE_app ?_ ?_ | refine CvE_cons rfl ?_ ?_ | refine CvH_cons ?_ ?_ | refine CvB_c rfl ?_ | fail) <;> first | exact au_v | (first | exact CvL.pure hp | exact CvL.pure rfl)
    · (try dsimp only); omega
    rintro i hi
    refine VC.reg tab_ok [] rfl ?_
    refine VX.meek rfl ?_
    refine VX.nil ?_
    refine VC.seq ?_
    refine VC.cond rfl (fun hc1 => ?_) (fun hc1 => ?_)
    · (try simp only [au_std] at hc1); have hil : i < t.scr.rows := (by omega); have hal2 := hal i
      have hmt := meets_p i Y H (by omega) hY hH
      have hdr := drawn_p t i ok hil
      have hdl := drawnL_len t i
      have haT := @accL_t (askE Y H) t i
      have haF := @accL_f (askE Y H) t i
      refine VC.skip ?_
      refine VC.seq ?_
      refine VC.block ?_
      refine VC.reg tab_ok [] rfl ?_
      iterate 2 refine VX.meek rfl ?_
      refine VX.nil ?_
      refine VC.drw tab_ok [] [_, _, _, _, _, _, _, _, _] rfl (by kernel_rfl) (by kernel_rfl) ?_
      refine VX.meek rfl ?_
      first | refine VX.mul rfl rfl (by omega) ?_ | refine VX.meek rfl ?_
      refine VX.meek rfl ?_
      first | refine VX.idxI rfl rfl rfl rfl rfl rfl (by omega) ?_ | refine VX.idxO0 rfl rfl rfl rfl rfl rfl rfl (by omega) ?_ | refine VX.idxO0 rfl rfl rfl rfl rfl rfl au_z (by omega) ?_ | refine VX.idxO rfl rfl rfl rfl rfl rfl rfl (by omega) ?_ | refine VX.idxI rfl rfl rfl rfl rfl au_z (by omega) ?_ | refine VX.idxO rfl rfl rfl rfl rfl rfl au_z (by omega) ?_ | refine VX.meek rfl ?_
      first | refine VX.meek rfl ?_ | refine VX.loadI rfl rfl au_l ?_ | refine VX.loadP rfl rfl rfl au_l ?_
      refine VX.meek rfl ?_
      first | refine VX.idxI rfl rfl rfl rfl rfl rfl (by omega) ?_ | refine VX.idxO0 rfl rfl rfl rfl rfl rfl rfl (by omega) ?_ | refine VX.idxO0 rfl rfl rfl rfl rfl rfl au_z (by omega) ?_ | refine VX.idxO rfl rfl rfl rfl rfl rfl rfl (by omega) ?_ | refine VX.idxI rfl rfl rfl rfl rfl au_z (by omega) ?_ | refine VX.idxO rfl rfl rfl rfl rfl rfl au_z (by omega) ?_ | refine VX.meek rfl ?_
      first | refine VX.meek rfl ?_ | refine VX.loadI rfl rfl au_l ?_ | refine VX.loadP rfl rfl rfl au_l ?_
      refine VX.callP0 rfl rfl rfl (hmt) ?_
      refine VX.nil ?_
      refine VX.nil ?_
      refine VC.cond rfl (fun hc2 => ?_) (fun hc2 => ?_)
      · have haT2 := haT hc2
        refine VC.regN tab_ok [] rfl ?_
        refine VX.meek rfl ?_
        first | refine VX.meek rfl ?_ | refine VX.loadI rfl rfl au_l ?_ | refine VX.loadP rfl rfl rfl au_l ?_
        refine VX.meek rfl ?_
        refine VX.callP0 rfl rfl rfl (hdr) ?_
        refine' VX.append rfl rfl rfl rfl rfl rfl (src_c cRq rfl rfl rfl rfl) rfl ?h1 ?h2 ?h3 ?h4 ?h5 ?_
        case h1 => rw [encL_len, cRq_sz]; omega
        case h2 => exact Nat.le_trans (Nat.mul_le_mul_right _ (show _ ≤ 1000 by omega)) (by decide)
        case h3 => omega
        case h4 => rw [encL_len]; rfl
        case h5 => exact encL_cb _ _
        refine VX.meek rfl ?_
        refine VX.nil ?_
        refine VC.regN tab_ok [] rfl ?_
        first | refine VX.add rfl rfl (by omega) ?_ | refine VX.meek rfl ?_
        refine VX.meek rfl ?_
        refine VX.nil ?_
        refine ⟨i + 1, by (try dsimp only); omega, ?_, (by refine ⟨[some 0, some 2], rfl, by first | trivial | decide, rfl, ?_, ?_⟩ <;> (repeat' first | exact trivial | exact CvB_n | exact CvB_d | exact CvB_o rfl | refine CvE_app ?_ ?_ | refine CvE_cons rfl ?_ ?_ | refine CvH_cons ?_ ?_ | refine CvB_c rfl ?_ | fail) <;> first | exact au_v | (first | exact CvL.pure hp | exact CvL.pure rfl | (rw [haT2, List.length_append]; exact Cv.slc rfl (.inr rfl)) | exact CvL.eq (by rw [haT2, encL_append, List.drop_zero, List.take_of_length_le (by rw [encL_len, cRq_sz]; exact Nat.le_refl _)]) (encL_pure _ _)))⟩
        (try dsimp only); omega
      · have haF2 := haF hc2
        refine VC.skip ?_
        refine VC.regN tab_ok [] rfl ?_
        first | refine VX.add rfl rfl (by omega) ?_ | refine VX.meek rfl ?_
        refine VX.meek rfl ?_
        refine VX.nil ?_
        refine ⟨i + 1, by (try dsimp only); omega, ?_, (by refine ⟨[some 0, some 1], rfl, by first | trivial | decide, rfl, ?_, ?_⟩ <;> (repeat' first | exact trivial | exact CvB_n | exact CvB_d | exact CvB_o rfl | refine CvE_app ?_ ?_ | refine CvE_cons rfl ?_ ?_ | refine CvH_cons ?_ ?_ | refine CvB_c rfl ?_ | fail) <;> first | exact au_v | (first | exact CvL.pure hp | exact CvL.pure rfl | (rw [haF2]; exact Cv.slc rfl (.inl rfl)) | exact CvL.eq (by rw [haF2]) (encL_pure _ _)))⟩
        (try dsimp only); omega
    · (try simp only [au_std] at hc1); obtain rfl : i = t.scr.rows := (by omega)
      refine VC.exit ?_
      refine VC.reg tab_ok [] rfl ?_
      first | refine VX.meek rfl ?_ | refine VX.loadI rfl rfl au_l ?_ | refine VX.loadP rfl rfl rfl au_l ?_
      refine VX.meek rfl ?_
      refine VX.store rfl rfl rfl rfl rfl au_sY rfl ?_
      refine VX.meek rfl ?_
      refine VX.nil ?_
      refine VC.ret ?_
      exact ⟨trivial, _, rfl, Cv.tup (CvL.cons (Cv.agg (CvL.pure hp)) (CvL.cons (Cv.fslc0 ⟨rfl, by simp⟩ (CvL.pure (encL_pure _ _))) CvL.nil))⟩
theorem tstepE_p (w p f : Int) (S : Scr) (l : List UInt8) (Y H : Int) (ok : S.Ok) (hY : 0 ≤ Y ∧ Y < 256) (hH : 0 ≤ H ∧ H < 256) : CallP Tryd.prog 14 [trmT ⟨true, w, p, f, S, l⟩, outT 2 10 (expN w Y H)] (.tup [trmT ⟨true, w, p, f, S, l⟩, rqT (accL (askE Y H) ⟨true, w, p, f, S, l⟩ S.rows)]) := by
  have hp := trm_pure ⟨true, w, p, f, S, l⟩
  have hex := exposed_p ⟨true, w, p, f, S, l⟩ w Y H ok hY hH
  have hpe := encL_pure cRq (accL (askE Y H) ⟨true, w, p, f, S, l⟩ S.rows)
  refine CallP.intro2 au_pu au_pu ?_
  refine CallT.intro tab_ok Tryd.func14 rfl (by kernel_rfl) (Nat.le_of_ble_eq_true rfl) ?_
  refine VC.reg tab_ok [2, 3] rfl ?_
  refine VX.newI rfl rfl ?_
  refine VX.newI rfl rfl ?_
  refine VX.new rfl rfl ?_
  refine VX.meek rfl ?_
  refine VX.nil ?_
  refine VC.seq ?_
  refine VC.drw tab_ok [] [_, _, _, _, _, _, _, _, _, _, _, _, _, _, _, _, _, _, _, _, _, _, _] rfl (by kernel_rfl) (by kernel_rfl) ?_
  refine VX.meek rfl ?_
  first | refine VX.meek rfl ?_ | refine VX.loadI rfl rfl au_l ?_ | refine VX.loadP rfl rfl rfl au_l ?_
  iterate 2 refine VX.meek rfl ?_
  refine' VX.merge (d := 15) [_, _, _, _] rfl ?_ rfl ?_
  rotate_left
  · refine VX.guard rfl rfl (fun hb1_3 => ?_) (fun hb1_3 => ?_)
    · have ghb1_3 := hb1_3
      try simp only [au_std, Bool.not_true, Bool.not_false] at ghb1_3
      refine VX.meek rfl ?_
      refine VX.guardT rfl rfl hb1_3 ?_
      first | refine VX.meek rfl ?_ | refine VX.loadI rfl rfl au_l ?_ | refine VX.loadP rfl rfl rfl au_l ?_
      refine VX.guardT rfl rfl hb1_3 ?_
      refine VX.meek rfl ?_
      refine VX.pickO rfl (fun _ => rfl) ?_
      exact VX.nil ⟨rfl, rfl⟩
    · refine VX.guardF rfl rfl hb1_3 ?_
      refine VX.guardF rfl rfl hb1_3 ?_
      exact VX.pickO rfl (fun h => absurd (h.symm.trans hb1_3) (by decide)) (VX.nil ⟨rfl, rfl⟩)
  refine VX.meek rfl ?_
  refine' VX.merge (d := 21) [_, _, _, _, _] rfl ?_ rfl ?_
  rotate_left
  · refine VX.guard rfl rfl (fun hb1_8 => ?_) (fun hb1_8 => ?_)
    · have ghb1_8 := hb1_8
      try simp only [au_std, Bool.not_true, Bool.not_false] at ghb1_8
      refine VX.meek rfl ?_
      refine VX.guardT rfl rfl hb1_8 ?_
      first | refine VX.meek rfl ?_ | refine VX.loadI rfl rfl au_l ?_ | refine VX.loadP rfl rfl rfl au_l ?_
      refine VX.guardT rfl rfl hb1_8 ?_
      refine VX.meek rfl ?_
      refine VX.guardT rfl rfl hb1_8 ?_
      refine VX.meek rfl ?_
      refine VX.pickO rfl (fun _ => rfl) ?_
      exact VX.nil ⟨rfl, rfl⟩
    · refine VX.guardF rfl rfl hb1_8 ?_
      refine VX.guardF rfl rfl hb1_8 ?_
      refine VX.guardF rfl rfl hb1_8 ?_
      exact VX.pickO rfl (fun h => absurd (h.symm.trans hb1_8) (by decide)) (VX.nil ⟨rfl, rfl⟩)
  refine VX.meek rfl ?_
  refine' VX.merge (d := 30) [_, _, _, _, _, _, _, _] rfl ?_ rfl ?_
  rotate_left
  · refine VX.guard rfl rfl (fun hb1_14 => ?_) (fun hb1_14 => ?_)
    · have ghb1_14 := hb1_14
      try simp only [au_std, Bool.not_true, Bool.not_false] at ghb1_14
      refine VX.meek rfl ?_
      refine VX.guardT rfl rfl hb1_14 ?_
      first | refine VX.meek rfl ?_ | refine VX.loadI rfl rfl au_l ?_ | refine VX.loadP rfl rfl rfl au_l ?_
      refine VX.guardT rfl rfl hb1_14 ?_
      first | refine VX.idxI (m := 0) rfl rfl rfl rfl rfl rfl (by omega) ?_ | refine VX.idxO (m := 0) rfl rfl rfl rfl rfl rfl rfl (by omega) ?_ | refine VX.meek rfl ?_
      refine VX.guardT rfl rfl hb1_14 ?_
      first | refine VX.meek rfl ?_ | refine VX.loadI rfl rfl au_l ?_ | refine VX.loadP rfl rfl rfl au_l ?_
      refine VX.guardT rfl rfl hb1_14 ?_
      refine VX.meek rfl ?_
      refine VX.guardT rfl rfl hb1_14 ?_
      first | refine VX.meek rfl ?_ | refine VX.loadI rfl rfl au_l ?_ | refine VX.loadP rfl rfl rfl au_l ?_
      refine VX.guardT rfl rfl hb1_14 ?_
      refine VX.meek rfl ?_
      refine VX.pickO rfl (fun _ => rfl) ?_
      exact VX.nil ⟨rfl, rfl⟩
    · refine VX.guardF rfl rfl hb1_14 ?_
      refine VX.guardF rfl rfl hb1_14 ?_
      refine VX.guardF rfl rfl hb1_14 ?_
      refine VX.guardF rfl rfl hb1_14 ?_
      refine VX.guardF rfl rfl hb1_14 ?_
      refine VX.guardF rfl rfl hb1_14 ?_
      exact VX.pickO rfl (fun h => absurd (h.symm.trans hb1_14) (by decide)) (VX.nil ⟨rfl, rfl⟩)
  refine VX.nil ?_
  refine VX.nil ?_
  refine VC.cond rfl (fun hc0 => ?_) (fun hc0 => ?_)
  · exact absurd hc0 (by show ¬ (false || ((2 : Int) != 2) || (((6 : Nat) : Int) == 0) || (w != w)) = true; simp)
  · (try simp only [au_std] at hc0)
    refine VC.skip ?_
    refine VC.drw tab_ok [] [_, _, _, _, _, _, _, _, _] rfl (by kernel_rfl) (by kernel_rfl) ?_
    refine VX.callP0 rfl rfl rfl (events_p) ?_
    refine VX.meek rfl ?_
    first | refine VX.meek rfl ?_ | refine VX.loadI rfl rfl au_l ?_ | refine VX.loadP rfl rfl rfl au_l ?_
    first | refine VX.meek rfl ?_ | refine VX.lookO tab_ok rfl rfl rfl rfl ?_
    iterate 5 refine VX.meek rfl ?_
    refine VX.nil ?_
    refine VX.nil ?_
    refine VC.seq ?_
    refine VC.reg tab_ok [] rfl ?_
    iterate 2 refine VX.meek rfl ?_
    refine VX.nil ?_
    refine VC.condF rfl ?_
    refine VC.skip ?_
    refine VC.reg tab_ok [] rfl ?_
    refine VX.meek rfl ?_
    first | refine VX.meek rfl ?_ | refine VX.loadI rfl rfl au_l ?_ | refine VX.loadP rfl rfl rfl au_l ?_
    refine VX.meek rfl ?_
    first | refine VX.meek rfl ?_ | refine VX.loadI rfl rfl au_l ?_ | refine VX.loadP rfl rfl rfl au_l ?_
    refine VX.callP0 rfl rfl rfl (hex) ?_
    iterate 2 refine VX.meek rfl ?_
    refine VX.store rfl rfl rfl rfl rfl au_sY rfl ?_
    refine VX.meek rfl ?_
    refine VX.nil ?_
    refine VC.ret ?_
    exact ⟨trivial, _, rfl, Cv.tup (CvL.cons (Cv.pure hp) (CvL.cons (Cv.islc (CvL.pure hpe) (.inl rfl)) CvL.nil))⟩
def rowsL (S : Scr) (w p : Int) (ask : Nat → Bool) (n : Nat) : List Rq := ((List.range n).filter ask).flatMap fun y => rowL w p y (S.rowN y) (if S.y = y then S.x else -1)
theorem rowsL_t {S : Scr} {w p : Int} {ask : Nat → Bool} {k : Nat} (h : ask k = true) : rowsL S w p ask (k + 1) = rowsL S w p ask k ++ rowL w p k (S.rowN k) (if S.y = k then S.x else -1) := by
  unfold rowsL
  rw [List.range_succ, List.filter_append, List.flatMap_append, List.filter_cons_of_pos h]
  simp
theorem rowsL_f {S : Scr} {w p : Int} {ask : Nat → Bool} {k : Nat} (h : ask k = false) : rowsL S w p ask (k + 1) = rowsL S w p ask k := by
  unfold rowsL
  rw [List.range_succ, List.filter_append, List.flatMap_append, List.filter_cons_of_neg (by rw [h]; simp)]
  simp
theorem rowL_len (w p : Int) (y : Nat) (c : List UInt8) (x : Int) : (rowL w p y c x).length ≤ 2 := by unfold rowL; split <;> simp
theorem rowsL_len (S : Scr) (w p : Int) (ask : Nat → Bool) (k : Nat) : (rowsL S w p ask k).length ≤ 2 * k := by
  induction k with
  | zero => simp [rowsL]
  | succ k ih =>
    cases h : ask k with
    | true => rw [rowsL_t h, List.length_append]; have := rowL_len w p k (S.rowN k) (if S.y = k then S.x else -1); omega
    | false => rw [rowsL_f h]; omega
theorem rowL_drawn (t : Trm) (y : Nat) (ok : t.scr.Ok) (h : y < t.scr.rows) : drawnL t y = rowL t.win t.pen y (t.scr.rowN y) (if t.scr.y = y then t.scr.x else -1) := by
  unfold drawnL rowL
  rw [ok.rowN_len h]
  by_cases h1 : t.scr.y = y
  · rw [if_pos h1]
    by_cases h2 : t.scr.x < t.scr.cols
    · rw [if_pos ⟨h1, h2⟩, if_pos (by omega)]
    · rw [if_neg (by omega), if_neg (by omega)]
  · rw [if_neg (by omega), if_neg h1, if_neg (by omega)]
theorem rows_acc (t : Trm) (ask : Nat → Bool) (ok : t.scr.Ok) : accL ask t t.scr.rows = rowsL t.scr t.win t.pen ask t.scr.rows := by
  have : ∀ n, n ≤ t.scr.rows → accL ask t n = rowsL t.scr t.win t.pen ask n := by
    intro n
    induction n with
    | zero => intro _; rfl
    | succ n ih =>
      intro hn
      cases h : ask n with
      | true => rw [accL_t h, rowsL_t h, ih (by omega), rowL_drawn t n ok (by omega)]
      | false => rw [accL_f h, rowsL_f h, ih (by omega)]
  exact this _ (Nat.le_refl _)
theorem rows57_p (S : Scr) (w p : Int) (f : FuncId) (fs : List T) (ask : Nat → Bool) (ok : S.Ok) (hw : 0 ≤ w ∧ w < 4294967296) (hp : 0 ≤ p ∧ p < 4294967296) (hfs : T.pureL fs = true) (hcl : ∀ k : Nat, k < S.rows → CallP Tryd.prog f ([] ++ [I64 k] ++ fs) (BL (ask k))) :
    CallP Tryd.prog 12 [scrT S, U32 w, U32 p, .clo f [] fs] (rqT (rowsL S w p ask S.rows)) := by
  have hps := scr_pure S
  have hr2 := ok.r2
  have hx := ok.x
  have hc2 := ok.c2
  have hal := rowsL_len S w p ask
  refine CallP.intro2 au_pu au_pu ?_
  refine CallT.intro tab_ok Tryd.func12 rfl (by kernel_rfl) (Nat.le_of_ble_eq_true rfl) ?_
  refine VC.reg tab_ok [4] rfl ?_
  refine VX.newI rfl rfl ?_
  refine VX.meek rfl ?_
  refine VX.nil ?_
  refine VC.reg tab_ok [] rfl ?_
  refine VX.meek rfl ?_
  refine VX.nil ?_
  refine VC.reg tab_ok [] rfl ?_
  first | refine VX.meek rfl ?_ | refine VX.loadI rfl rfl au_l ?_ | refine VX.loadP rfl rfl rfl au_l ?_
  refine VX.callP0 rfl rfl rfl (cursor_p S) ?_
  iterate 5 refine VX.meek rfl ?_
  refine VX.nil ?_
  refine VC.reg tab_ok [] rfl ?_
  first | refine VX.meek rfl ?_ | refine VX.loadI rfl rfl au_l ?_ | refine VX.loadP rfl rfl rfl au_l ?_
  refine VX.callP0 rfl rfl rfl (size_c S) ?_
  iterate 5 refine VX.meek rfl ?_
  refine VX.nil ?_
  refine VC.seq ?_
  refine VC.reg tab_ok [] rfl ?_
  iterate 2 refine VX.meek rfl ?_
  refine VX.nil ?_
  refine VC.block ?_
  refine VC.loopS (σ := Nat) (fun i => S.rows - i) (fun i => i ≤ S.rows) (fun i => [(27, I64 i), (9, .slc 0 0 (rowsL S w p ask i).length 4 none)]) (fun i => [.c (encL cRq (rowsL S w p ask i))]) [1, 2, 3, 4, 10, 11, 26] rfl (0) ?_ ?_ ?_
  · refine ⟨[none], rfl, by first | trivial | decide, rfl, ?_, ?_⟩ <;> (repeat' first | exact trivial | exact CvB_n | exact CvB_d | exact CvB_o rfl | refine CvE_app ?_ ?_ | refine CvE_cons rfl ?_ ?_ | refine CvH_cons ?_ ?_ | refine CvB_c rfl ?_ | fail) <;> first | exact au_v | (first | exact CvL.pure hps | exact CvL.pure rfl | exact Cv.pure (by simp only [T.pure, hfs]; rfl))
  · (try dsimp only); omega
  rintro i hi
  refine VC.reg tab_ok [] rfl ?_
  refine VX.meek rfl ?_
  refine VX.nil ?_
  refine VC.seq ?_
  refine VC.cond rfl (fun hc0 => ?_) (fun hc0 => ?_)
  · (try simp only [au_std] at hc0); have hil : i < S.rows := (by omega); have hal2 := hal i
    have hcli := hcl i hil
    have hrow := row_p S i ok hil
    have hrf := refRow_p w p i (S.rowN i) (if S.y = i then S.x else -1) hw hp (by omega) (by split <;> omega)
    have hdl := rowL_len w p i (S.rowN i) (if S.y = i then S.x else -1)
    have haT := @rowsL_t S w p ask i
    have haF := @rowsL_f S w p ask i
    refine VC.skip ?_
    refine VC.seq ?_
    refine VC.block ?_
    refine VC.reg tab_ok [] rfl ?_
    iterate 2 refine VX.meek rfl ?_
    refine VX.nil ?_
    refine VC.reg tab_ok [] rfl ?_
    refine VX.meek rfl ?_
    refine VX.nil ?_
    refine VC.seq ?_
    refine VC.reg tab_ok [] rfl ?_
    iterate 3 refine VX.meek rfl ?_
    refine VX.nil ?_
    refine VC.cond rfl (fun hc1 => ?_) (fun hc1 => ?_)
    · (try simp only [au_std] at hc1); have hy : S.y = i := (by omega); rw [if_pos hy] at hrf haT hdl
      refine VC.regN tab_ok [] rfl ?_
      iterate 2 refine VX.meek rfl ?_
      refine VX.nil ?_
      refine VC.reg tab_ok [] rfl ?_
      iterate 2 refine VX.meek rfl ?_
      refine VX.callP0 rfl rfl rfl (hcli) ?_
      refine VX.nil ?_
      refine VC.cond rfl (fun hc2 => ?_) (fun hc2 => ?_)
      · have haT2 := haT hc2
        refine VC.regN tab_ok [] rfl ?_
        iterate 4 refine VX.meek rfl ?_
        first | refine VX.meek rfl ?_ | refine VX.loadI rfl rfl au_l ?_ | refine VX.loadP rfl rfl rfl au_l ?_
        refine VX.meek rfl ?_
        refine VX.callP0 rfl rfl rfl (hrow) ?_
        refine VX.meek rfl ?_
        refine VX.callP0 rfl rfl rfl (hrf) ?_
        refine' VX.append rfl rfl rfl rfl rfl rfl (src_c cRq rfl rfl rfl rfl) rfl ?h1 ?h2 ?h3 ?h4 ?h5 ?_
        case h1 => rw [encL_len, cRq_sz]; omega
        case h2 => exact Nat.le_trans (Nat.mul_le_mul_right _ (show _ ≤ 1000 by omega)) (by decide)
        case h3 => omega
        case h4 => rw [encL_len]; rfl
        case h5 => exact encL_cb _ _
        refine VX.meek rfl ?_
        refine VX.nil ?_
        refine VC.regN tab_ok [] rfl ?_
        first | refine VX.add rfl rfl (by omega) ?_ | refine VX.meek rfl ?_
        refine VX.meek rfl ?_
        refine VX.nil ?_
        refine ⟨i + 1, by (try dsimp only); omega, ?_, (by refine ⟨[some 1], rfl, by first | trivial | decide, rfl, ?_, ?_⟩ <;> (repeat' first | exact trivial | exact CvB_n | exact CvB_d | exact CvB_o rfl | refine CvE_app ?_ ?_ | refine CvE_cons rfl ?_ ?_ | refine CvH_cons ?_ ?_ | refine CvB_c rfl ?_ | fail) <;> first | exact au_v | (first | exact CvL.pure hps | exact CvL.pure rfl | exact Cv.pure (by simp only [T.pure, hfs]; rfl) | (rw [haT2, List.length_append]; exact Cv.slc rfl (.inr rfl)) | exact CvL.eq (by rw [haT2, encL_append, List.drop_zero, List.take_of_length_le (by rw [encL_len, cRq_sz]; exact Nat.le_refl _)]) (encL_pure _ _)))⟩
        (try dsimp only); omega
      · have haF2 := haF hc2
        refine VC.skip ?_
        refine VC.regN tab_ok [] rfl ?_
        first | refine VX.add rfl rfl (by omega) ?_ | refine VX.meek rfl ?_
        refine VX.meek rfl ?_
        refine VX.nil ?_
        refine ⟨i + 1, by (try dsimp only); omega, ?_, (by refine ⟨[some 0], rfl, by first | trivial | decide, rfl, ?_, ?_⟩ <;> (repeat' first | exact trivial | exact CvB_n | exact CvB_d | exact CvB_o rfl | refine CvE_app ?_ ?_ | refine CvE_cons rfl ?_ ?_ | refine CvH_cons ?_ ?_ | refine CvB_c rfl ?_ | fail) <;> first | exact au_v | (first | exact CvL.pure hps | exact CvL.pure rfl | exact Cv.pure (by simp only [T.pure, hfs]; rfl) | (rw [haF2]; exact Cv.slc rfl (.inl rfl)) | exact CvL.eq (by rw [haF2]) (encL_pure _ _)))⟩
        (try dsimp only); omega
    · (try simp only [au_std] at hc1); have hy : ¬ S.y = i := (by omega); rw [if_neg hy] at hrf haT hdl
      refine VC.skip ?_
      refine VC.reg tab_ok [] rfl ?_
      iterate 2 refine VX.meek rfl ?_
      refine VX.callP0 rfl rfl rfl (hcli) ?_
      refine VX.nil ?_
      refine VC.cond rfl (fun hc2 => ?_) (fun hc2 => ?_)
      · have haT2 := haT hc2
        refine VC.regN tab_ok [] rfl ?_
        iterate 4 refine VX.meek rfl ?_
        first | refine VX.meek rfl ?_ | refine VX.loadI rfl rfl au_l ?_ | refine VX.loadP rfl rfl rfl au_l ?_
        refine VX.meek rfl ?_
        refine VX.callP0 rfl rfl rfl (hrow) ?_
        refine VX.meek rfl ?_
        refine VX.callP0 rfl rfl rfl (hrf) ?_
        refine' VX.append rfl rfl rfl rfl rfl rfl (src_c cRq rfl rfl rfl rfl) rfl ?h1 ?h2 ?h3 ?h4 ?h5 ?_
        case h1 => rw [encL_len, cRq_sz]; omega
        case h2 => exact Nat.le_trans (Nat.mul_le_mul_right _ (show _ ≤ 1000 by omega)) (by decide)
        case h3 => omega
        case h4 => rw [encL_len]; rfl
        case h5 => exact encL_cb _ _
        refine VX.meek rfl ?_
        refine VX.nil ?_
        refine VC.regN tab_ok [] rfl ?_
        first | refine VX.add rfl rfl (by omega) ?_ | refine VX.meek rfl ?_
        refine VX.meek rfl ?_
        refine VX.nil ?_
        refine ⟨i + 1, by (try dsimp only); omega, ?_, (by refine ⟨[some 1], rfl, by first | trivial | decide, rfl, ?_, ?_⟩ <;> (repeat' first | exact trivial | exact CvB_n | exact CvB_d | exact CvB_o rfl | refine CvE_app ?_ ?_ | refine CvE_cons rfl ?_ ?_ | refine CvH_cons ?_ ?_ | refine CvB_c rfl ?_ | fail) <;> first | exact au_v | (first | exact CvL.pure hps | exact CvL.pure rfl | exact Cv.pure (by simp only [T.pure, hfs]; rfl) | (rw [haT2, List.length_append]; exact Cv.slc rfl (.inr rfl)) | exact CvL.eq (by rw [haT2, encL_append, List.drop_zero, List.take_of_length_le (by rw [encL_len, cRq_sz]; exact Nat.le_refl _)]) (encL_pure _ _)))⟩
        (try dsimp only); omega
      · have haF2 := haF hc2
        refine VC.skip ?_
        refine VC.regN tab_ok [] rfl ?_
        first | refine VX.add rfl rfl (by omega) ?_ | refine VX.meek rfl ?_
        refine VX.meek rfl ?_
        refine VX.nil ?_
        refine ⟨i + 1, by (try dsimp only); omega, ?_, (by refine ⟨[some 0], rfl, by first | trivial | decide, rfl, ?_, ?_⟩ <;> (repeat' first | exact trivial | exact CvB_n | exact CvB_d | exact CvB_o rfl | refine CvE_app ?_ ?_ | refine CvE_cons rfl ?_ ?_ | refine CvH_cons ?_ ?_ | refine CvB_c rfl ?_ | fail) <;> first | exact au_v | (first | exact CvL.pure hps | exact CvL.pure rfl | exact Cv.pure (by simp only [T.pure, hfs]; rfl) | (rw [haF2]; exact Cv.slc rfl (.inl rfl)) | exact CvL.eq (by rw [haF2]) (encL_pure _ _)))⟩
        (try dsimp only); omega
  · (try simp only [au_std] at hc0); obtain rfl : i = S.rows := (by omega)
    refine VC.exit ?_
    refine VC.reg tab_ok [] rfl ?_
    iterate 2 refine VX.meek rfl ?_
    refine VX.nil ?_
    refine VC.ret ?_
    exact ⟨trivial, _, rfl, Cv.fslc0 ⟨rfl, by simp⟩ (CvL.pure (encL_pure _ _))⟩
theorem rows57_t (S : Scr) (w p : Int) (f : FuncId) (cs gs : List T) (ask : Nat → Bool) (ok : S.Ok) (hw : 0 ≤ w ∧ w < 4294967296) (hp : 0 ≤ p ∧ p < 4294967296) (hcs : T.pureL cs = true) (hgs : T.pureL gs = true) (hcl : ∀ k : Nat, k < S.rows → CallT Tryd.prog f ([] ++ [I64 k] ++ (.ptr 0 0 :: gs)) [.c cs] (fun t H' => t = BL (ask k) ∧ H' = [.c cs])) :
    CallT Tryd.prog 12 [scrT S, U32 w, U32 p, .clo f [] (.ptr 0 0 :: gs)] [.c cs] (fun t H' => t = .slc 1 0 (rowsL S w p ask S.rows).length 4 none ∧ H' = [.c cs, .c (encL cRq (rowsL S w p ask S.rows))]) := by
  have hps := scr_pure S
  have hr2 := ok.r2
  have hx := ok.x
  have hc2 := ok.c2
  have hal := rowsL_len S w p ask
  refine CallT.intro tab_ok Tryd.func12 rfl (by kernel_rfl) (Nat.le_of_ble_eq_true rfl) ?_
  refine VC.reg tab_ok [4] rfl ?_
  refine VX.newI rfl rfl ?_
  refine VX.meek rfl ?_
  refine VX.nil ?_
  refine VC.reg tab_ok [] rfl ?_
  refine VX.meek rfl ?_
  refine VX.nil ?_
  refine VC.reg tab_ok [] rfl ?_
  first | refine VX.meek rfl ?_ | refine VX.loadI rfl rfl au_l ?_ | refine VX.loadP rfl rfl rfl au_l ?_
  refine VX.callP0 rfl rfl rfl (cursor_p S) ?_
  iterate 5 refine VX.meek rfl ?_
  refine VX.nil ?_
  refine VC.reg tab_ok [] rfl ?_
  first | refine VX.meek rfl ?_ | refine VX.loadI rfl rfl au_l ?_ | refine VX.loadP rfl rfl rfl au_l ?_
  refine VX.callP0 rfl rfl rfl (size_c S) ?_
  iterate 5 refine VX.meek rfl ?_
  refine VX.nil ?_
  refine VC.seq ?_
  refine VC.reg tab_ok [] rfl ?_
  iterate 2 refine VX.meek rfl ?_
  refine VX.nil ?_
  refine VC.block ?_
  refine VC.loopS (σ := Nat) (fun i => S.rows - i) (fun i => i ≤ S.rows) (fun i => [(27, I64 i), (3, .clo f [] (.ptr 0 0 :: gs)), (9, .slc 1 0 (rowsL S w p ask i).length 4 none)]) (fun i => [.c cs, .c (encL cRq (rowsL S w p ask i))]) [1, 2, 4, 10, 11, 26] rfl (0) ?_ ?_ ?_
  · refine ⟨[some 0, none], rfl, by first | trivial | decide, rfl, ?_, ?_⟩ <;> (repeat' first | exact trivial | exact CvB_n | exact CvB_d | exact CvB_o rfl | refine CvE_app ?_ ?_ | refine CvE_cons rfl ?_ ?_ | refine CvH_cons ?_ ?_ | refine CvB_c rfl ?_ | fail) <;> first | exact au_v | (first | exact CvL.pure hps | exact CvL.pure rfl | exact Cv.clo CvL.nil (CvL.cons (Cv.ptr rfl) (CvL.pure hgs)) | exact CvL.pure hcs)
  · (try dsimp only); omega
  rintro i hi
  refine VC.reg tab_ok [] rfl ?_
  refine VX.meek rfl ?_
  refine VX.nil ?_
  refine VC.seq ?_
  refine VC.cond rfl (fun hc0 => ?_) (fun hc0 => ?_)
  · (try simp only [au_std] at hc0); have hil : i < S.rows := (by omega); have hal2 := hal i
    have hcli := hcl i hil
    have hrow := row_p S i ok hil
    have hrf := refRow_p w p i (S.rowN i) (if S.y = i then S.x else -1) hw hp (by omega) (by split <;> omega)
    have hdl := rowL_len w p i (S.rowN i) (if S.y = i then S.x else -1)
    have haT := @rowsL_t S w p ask i
    have haF := @rowsL_f S w p ask i
    refine VC.skip ?_
    refine VC.seq ?_
    refine VC.block ?_
    refine VC.reg tab_ok [] rfl ?_
    iterate 2 refine VX.meek rfl ?_
    refine VX.nil ?_
    refine VC.reg tab_ok [] rfl ?_
    refine VX.meek rfl ?_
    refine VX.nil ?_
    refine VC.seq ?_
    refine VC.reg tab_ok [] rfl ?_
    iterate 3 refine VX.meek rfl ?_
    refine VX.nil ?_
    refine VC.cond rfl (fun hc1 => ?_) (fun hc1 => ?_)
    · (try simp only [au_std] at hc1); have hy : S.y = i := (by omega); rw [if_pos hy] at hrf haT hdl
      refine VC.regN tab_ok [] rfl ?_
      iterate 2 refine VX.meek rfl ?_
      refine VX.nil ?_
      refine VC.reg tab_ok [] rfl ?_
      iterate 2 refine VX.meek rfl ?_
      refine VX.callT rfl rfl (CallT.frame (hcli) [0] rfl au_ci au_ci ?_)
      rintro _ _ ⟨rfl, rfl⟩
      refine frK au_co au_co ?_
      refine VX.nil ?_
      refine VC.cond rfl (fun hc2 => ?_) (fun hc2 => ?_)
      · have haT2 := haT hc2
        refine VC.regN tab_ok [] rfl ?_
        iterate 4 refine VX.meek rfl ?_
        first | refine VX.meek rfl ?_ | refine VX.loadI rfl rfl au_l ?_ | refine VX.loadP rfl rfl rfl au_l ?_
        refine VX.meek rfl ?_
        refine VX.callP0 rfl rfl rfl (hrow) ?_
        refine VX.meek rfl ?_
        refine VX.callP0 rfl rfl rfl (hrf) ?_
        refine' VX.append rfl rfl rfl rfl rfl rfl (src_c cRq rfl rfl rfl rfl) rfl ?h1 ?h2 ?h3 ?h4 ?h5 ?_
        case h1 => rw [encL_len, cRq_sz]; omega
        case h2 => exact Nat.le_trans (Nat.mul_le_mul_right _ (show _ ≤ 1000 by omega)) (by decide)
        case h3 => omega
        case h4 => rw [encL_len]; rfl
        case h5 => exact encL_cb _ _
        refine VX.meek rfl ?_
        refine VX.nil ?_
        refine VC.regN tab_ok [] rfl ?_
        first | refine VX.add rfl rfl (by omega) ?_ | refine VX.meek rfl ?_
        refine VX.meek rfl ?_
        refine VX.nil ?_
        refine ⟨i + 1, by (try dsimp only); omega, ?_, (by refine ⟨[some 0, some 2], rfl, by first | trivial | decide, rfl, ?_, ?_⟩ <;> (repeat' first | exact trivial | exact CvB_n | exact CvB_d | exact CvB_o rfl | refine CvE_app ?_ ?_ | refine CvE_cons rfl ?_ ?_ | refine CvH_cons ?_ ?_ | refine CvB_c rfl ?_ | fail) <;> first | exact au_v | (first | exact CvL.pure hps | exact CvL.pure rfl | exact Cv.clo CvL.nil (CvL.cons (Cv.ptr rfl) (CvL.pure hgs)) | exact CvL.pure hcs | (rw [haT2, List.length_append]; exact Cv.slc rfl (.inr rfl)) | exact CvL.eq (by rw [haT2, encL_append, List.drop_zero, List.take_of_length_le (by rw [encL_len, cRq_sz]; exact Nat.le_refl _)]) (encL_pure _ _)))⟩
        (try dsimp only); omega
      · have haF2 := haF hc2
        refine VC.skip ?_
        refine VC.regN tab_ok [] rfl ?_
        first | refine VX.add rfl rfl (by omega) ?_ | refine VX.meek rfl ?_
        refine VX.meek rfl ?_
        refine VX.nil ?_
        refine ⟨i + 1, by (try dsimp only); omega, ?_, (by refine ⟨[some 0, some 1], rfl, by first | trivial | decide, rfl, ?_, ?_⟩ <;> (repeat' first | exact trivial | exact CvB_n | exact CvB_d | exact CvB_o rfl | refine CvE_app ?_ ?_ | refine CvE_cons rfl ?_ ?_ | refine CvH_cons ?_ ?_ | refine CvB_c rfl ?_ | fail) <;> first | exact au_v | (first | exact CvL.pure hps | exact CvL.pure rfl | exact Cv.clo CvL.nil (CvL.cons (Cv.ptr rfl) (CvL.pure hgs)) | exact CvL.pure hcs | (rw [haF2]; exact Cv.slc rfl (.inl rfl)) | exact CvL.eq (by rw [haF2]) (encL_pure _ _)))⟩
        (try dsimp only); omega
    · (try simp only [au_std] at hc1); have hy : ¬ S.y = i := (by omega); rw [if_neg hy] at hrf haT hdl
      refine VC.skip ?_
      refine VC.reg tab_ok [] rfl ?_
      iterate 2 refine VX.meek rfl ?_
      refine VX.callT rfl rfl (CallT.frame (hcli) [0] rfl au_ci au_ci ?_)
      rintro _ _ ⟨rfl, rfl⟩
      refine frK au_co au_co ?_
      refine VX.nil ?_
      refine VC.cond rfl (fun hc2 => ?_) (fun hc2 => ?_)
      · have haT2 := haT hc2
        refine VC.regN tab_ok [] rfl ?_
        iterate 4 refine VX.meek rfl ?_
        first | refine VX.meek rfl ?_ | refine VX.loadI rfl rfl au_l ?_ | refine VX.loadP rfl rfl rfl au_l ?_
        refine VX.meek rfl ?_
        refine VX.callP0 rfl rfl rfl (hrow) ?_
        refine VX.meek rfl ?_
        refine VX.callP0 rfl rfl rfl (hrf) ?_
        refine' VX.append rfl rfl rfl rfl rfl rfl (src_c cRq rfl rfl rfl rfl) rfl ?h1 ?h2 ?h3 ?h4 ?h5 ?_
        case h1 => rw [encL_len, cRq_sz]; omega
        case h2 => exact Nat.le_trans (Nat.mul_le_mul_right _ (show _ ≤ 1000 by omega)) (by decide)
        case h3 => omega
        case h4 => rw [encL_len]; rfl
        case h5 => exact encL_cb _ _
        refine VX.meek rfl ?_
        refine VX.nil ?_
        refine VC.regN tab_ok [] rfl ?_
        first | refine VX.add rfl rfl (by omega) ?_ | refine VX.meek rfl ?_
        refine VX.meek rfl ?_
        refine VX.nil ?_
        refine ⟨i + 1, by (try dsimp only); omega, ?_, (by refine ⟨[some 0, some 2], rfl, by first | trivial | decide, rfl, ?_, ?_⟩ <;> (repeat' first | exact trivial | exact CvB_n | exact CvB_d | exact CvB_o rfl | refine CvE_app ?_ ?_ | refine CvE_cons rfl ?_ ?_ | refine CvH_cons ?_ ?_ | refine CvB_c rfl ?_ | fail) <;> first | exact au_v | (first | exact CvL.pure hps | exact CvL.pure rfl | exact Cv.clo CvL.nil (CvL.cons (Cv.ptr rfl) (CvL.pure hgs)) | exact CvL.pure hcs | (rw [haT2, List.length_append]; exact Cv.slc rfl (.inr rfl)) | exact CvL.eq (by rw [haT2, encL_append, List.drop_zero, List.take_of_length_le (by rw [encL_len, cRq_sz]; exact Nat.le_refl _)]) (encL_pure _ _)))⟩
        (try dsimp only); omega
      · have haF2 := haF hc2
        refine VC.skip ?_
        refine VC.regN tab_ok [] rfl ?_
        first | refine VX.add rfl rfl (by omega) ?_ | refine VX.meek rfl ?_
        refine VX.meek rfl ?_
        refine VX.nil ?_
        refine ⟨i + 1, by (try dsimp only); omega, ?_, (by refine ⟨[some 0, some 1], rfl, by first | trivial | decide, rfl, ?_, ?_⟩ <;> (repeat' first | exact trivial | exact CvB_n | exact CvB_d | exact CvB_o rfl | refine CvE_app ?_ ?_ | refine CvE_cons rfl ?_ ?_ | refine CvH_cons ?_ ?_ | refine CvB_c rfl ?_ | fail) <;> first | exact au_v | (first | exact CvL.pure hps | exact CvL.pure rfl | exact Cv.clo CvL.nil (CvL.cons (Cv.ptr rfl) (CvL.pure hgs)) | exact CvL.pure hcs | (rw [haF2]; exact Cv.slc rfl (.inl rfl)) | exact CvL.eq (by rw [haF2]) (encL_pure _ _)))⟩
        (try dsimp only); omega
  · (try simp only [au_std] at hc0); obtain rfl : i = S.rows := (by omega)
    refine VC.exit ?_
    refine VC.reg tab_ok [] rfl ?_
    iterate 2 refine VX.meek rfl ?_
    refine VX.nil ?_
    refine VC.ret ?_
    exact ⟨trivial, _, rfl, rfl, rfl⟩
abbrev actC (d : Int) (s : List UInt8) (y h c m : Int) : List T := [U8 d, strT s, U8 y, U8 h, U16 c, U16 m]
theorem clo1_p (d : Int) (s : List UInt8) (y h c m : Int) (k : Nat) (hk : k ≤ 100) (hy : 0 ≤ y ∧ y < 256) (hh : 0 ≤ h ∧ h < 256) : CallP Tryd.prog 13 [I64 k, .iptr (actC d s y h c m) 0] (BL (askE y h k)) := by
  refine CallP.intro2 au_pu au_pu ?_
  refine CallT.intro tab_ok Tryd.func13 rfl (by kernel_rfl) (Nat.le_of_ble_eq_true rfl) ?_
  refine VC.reg tab_ok [] rfl ?_
  refine VX.meek rfl ?_
  refine VX.nil ?_
  refine VC.reg tab_ok [] rfl ?_
  refine VX.meek rfl ?_
  first | refine VX.mul rfl rfl (by omega) ?_ | refine VX.meek rfl ?_
  refine VX.meek rfl ?_
  first | refine VX.meek rfl ?_ | refine VX.loadI rfl rfl au_l ?_ | refine VX.loadP rfl rfl rfl au_l ?_
  refine VX.meek (t := I64 y) (by show some (T.v (.int .i64 (IntKind.i64.wrap y)), (none : Option (Nat × List T))) = _; rw [wrap_in (by omega)]) ?_
  refine VX.meek rfl ?_
  first | refine VX.meek rfl ?_ | refine VX.loadI rfl rfl au_l ?_ | refine VX.loadP rfl rfl rfl au_l ?_
  refine VX.meek (t := I64 h) (by show some (T.v (.int .i64 (IntKind.i64.wrap h)), (none : Option (Nat × List T))) = _; rw [wrap_in (by omega)]) ?_
  first | refine VX.add rfl rfl (by omega) ?_ | refine VX.meek rfl ?_
  iterate 2 refine VX.meek rfl ?_
  refine' VX.merge (d := 22) [_, _, _, _, _, _, _, _] rfl ?_ rfl ?_
  rotate_left
  · refine VX.guard rfl rfl (fun hb1_10 => ?_) (fun hb1_10 => ?_)
    · have ghb1_10 := hb1_10
      try simp only [au_std, Bool.not_true, Bool.not_false] at ghb1_10
      refine VX.meek rfl ?_
      refine VX.guardT rfl rfl hb1_10 ?_
      first | refine VX.meek rfl ?_ | refine VX.loadI rfl rfl au_l ?_ | refine VX.loadP rfl rfl rfl au_l ?_
      refine VX.guardT rfl rfl hb1_10 ?_
      refine VX.meek (t := I64 y) (by show some (T.v (.int .i64 (IntKind.i64.wrap y)), (none : Option (Nat × List T))) = _; rw [wrap_in (by omega)]) ?_
      refine VX.guardT rfl rfl hb1_10 ?_
      refine VX.meek rfl ?_
      refine VX.guardT rfl rfl hb1_10 ?_
      first | refine VX.mul rfl rfl (by omega) ?_ | refine VX.meek rfl ?_
      refine VX.guardT rfl rfl hb1_10 ?_
      first | refine VX.add rfl rfl (by omega) ?_ | refine VX.meek rfl ?_
      refine VX.guardT rfl rfl hb1_10 ?_
      refine VX.meek rfl ?_
      refine VX.pickA rfl (fun _ => rfl) ?_
      exact VX.nil ⟨rfl, rfl⟩
    · refine VX.guardF rfl rfl hb1_10 ?_
      refine VX.guardF rfl rfl hb1_10 ?_
      refine VX.guardF rfl rfl hb1_10 ?_
      refine VX.guardF rfl rfl hb1_10 ?_
      refine VX.guardF rfl rfl hb1_10 ?_
      refine VX.guardF rfl rfl hb1_10 ?_
      exact VX.pickA rfl (fun h => absurd (h.symm.trans hb1_10) (by decide)) (VX.nil ⟨rfl, rfl⟩)
  refine VX.meek rfl ?_
  refine' VX.merge (d := 27) [_, _, _, _] rfl ?_ rfl ?_
  rotate_left
  · refine VX.guard rfl rfl (fun hb1_19 => ?_) (fun hb1_19 => ?_)
    · have ghb1_19 := hb1_19
      try simp only [au_std, Bool.not_true, Bool.not_false] at ghb1_19
      refine VX.meek rfl ?_
      refine VX.guardT rfl rfl hb1_19 ?_
      first | refine VX.meek rfl ?_ | refine VX.loadI rfl rfl au_l ?_ | refine VX.loadP rfl rfl rfl au_l ?_
      refine VX.guardT rfl rfl hb1_19 ?_
      refine VX.meek rfl ?_
      refine VX.pickA rfl (fun _ => rfl) ?_
      exact VX.nil ⟨rfl, rfl⟩
    · refine VX.guardF rfl rfl hb1_19 ?_
      refine VX.guardF rfl rfl hb1_19 ?_
      exact VX.pickA rfl (fun h => absurd (h.symm.trans hb1_19) (by decide)) (VX.nil ⟨rfl, rfl⟩)
  refine VX.meek rfl ?_
  refine VX.nil ?_
  refine VC.ret ?_
  exact ⟨trivial, _, rfl, Cv.eq rfl rfl⟩
def askW (S S' : Scr) (k : Nat) : Bool := (S'.rowN k != S.rowN k) || (movedB S S' && (((k : Int) == (S.y : Int)) || ((k : Int) == (S'.y : Int))))
theorem askW_eq (S S' : Scr) : askB S S' = askW S S' := by
  funext k
  unfold askB askW
  rw [bne_comm (a := S.rowN k)]
abbrev scrF (S : Scr) : List T := scrC S (.islc (encL cY S.grid) S.grid.length none) (.islc (encL cStr S.kept) S.kept.length none)
theorem clo2_t (S S' : Scr) (mv : Bool) (k : Nat) (ok : S.Ok) (ok' : S'.Ok) (h : k < S.rows) (h' : k < S'.rows) (hm : mv = movedB S S') : CallT Tryd.prog 19 [I64 k, .ptr 0 0, .iptr (scrF S) 0, .iptr [BL mv] 0, .iptr [I64 S.y] 0, .iptr [I64 S'.y] 0] [.c (scrF S')] (fun t H' => t = BL (askW S S' k) ∧ H' = [.c (scrF S')]) := by
  have hps := scr_pure S
  have hps' := scr_pure S'
  have hrow := row_p S k ok h
  have hrow' := row_p S' k ok' h'
  unfold askW
  rw [← hm]
  refine CallT.intro tab_ok Tryd.func19 rfl (by kernel_rfl) (Nat.le_of_ble_eq_true rfl) ?_
  refine VC.reg tab_ok [] rfl ?_
  refine VX.meek rfl ?_
  refine VX.nil ?_
  refine VC.drw tab_ok [] [_, _, _, _, _, _, _, _, _, _, _, _, _, _, _, _, _, _, _, _, _] rfl (by kernel_rfl) (by kernel_rfl) ?_
  first | refine VX.meek rfl ?_ | refine VX.loadI rfl rfl au_l ?_ | refine VX.loadP rfl rfl rfl au_l ?_
  refine VX.meek rfl ?_
  refine VX.callP0 rfl rfl rfl (hrow') ?_
  first | refine VX.meek rfl ?_ | refine VX.loadI rfl rfl au_l ?_ | refine VX.loadP rfl rfl rfl au_l ?_
  refine VX.meek rfl ?_
  refine VX.callP0 rfl rfl rfl (hrow) ?_
  refine VX.strNeq rfl rfl ?_
  refine VX.meek rfl ?_
  refine' VX.merge (d := 27) [_, _, _, _, _, _, _, _, _, _, _, _] rfl ?_ rfl ?_
  rotate_left
  · refine VX.guard rfl rfl (fun hb1_7 => ?_) (fun hb1_7 => ?_)
    · have ghb1_7 := hb1_7
      try simp only [au_std, Bool.not_true, Bool.not_false] at ghb1_7
      first | refine VX.meek rfl ?_ | refine VX.loadI rfl rfl au_l ?_ | refine VX.loadP rfl rfl rfl au_l ?_
      refine VX.guardT rfl rfl hb1_7 ?_
      refine VX.meek rfl ?_
      refine' VX.merge (d := 26) [_, _, _, _, _, _, _, _, _] rfl ?_ rfl ?_
      rotate_left
      · refine VX.guard rfl rfl (fun hb1_9 => ?_) (fun hb1_9 => ?_)
        · have ghb1_9 := hb1_9
          try simp only [au_std, Bool.not_true, Bool.not_false] at ghb1_9
          refine VX.meek rfl ?_
          refine VX.guardT rfl rfl hb1_9 ?_
          first | refine VX.meek rfl ?_ | refine VX.loadI rfl rfl au_l ?_ | refine VX.loadP rfl rfl rfl au_l ?_
          refine VX.guardT rfl rfl hb1_9 ?_
          refine VX.meek rfl ?_
          refine VX.guardT rfl rfl hb1_9 ?_
          refine VX.meek rfl ?_
          refine' VX.merge (d := 25) [_, _, _, _] rfl ?_ rfl ?_
          rotate_left
          · refine VX.guard rfl rfl (fun hb1_13 => ?_) (fun hb1_13 => ?_)
            · have ghb1_13 := hb1_13
              try simp only [au_std, Bool.not_true, Bool.not_false] at ghb1_13
              refine VX.meek rfl ?_
              refine VX.guardT rfl rfl hb1_13 ?_
              first | refine VX.meek rfl ?_ | refine VX.loadI rfl rfl au_l ?_ | refine VX.loadP rfl rfl rfl au_l ?_
              refine VX.guardT rfl rfl hb1_13 ?_
              refine VX.meek rfl ?_
              refine VX.guardT rfl rfl hb1_9 ?_
              refine VX.pickO rfl (fun _ => rfl) ?_
              exact VX.nil ⟨rfl, rfl⟩
            · refine VX.guardF rfl rfl hb1_13 ?_
              refine VX.guardF rfl rfl hb1_13 ?_
              refine VX.guardT rfl rfl hb1_9 ?_
              exact VX.pickO rfl (fun h => absurd (h.symm.trans hb1_13) (by decide)) (VX.nil ⟨rfl, rfl⟩)
          refine VX.guardT rfl rfl hb1_7 ?_
          refine VX.pickA rfl (fun _ => rfl) ?_
          exact VX.nil ⟨rfl, rfl⟩
        · refine VX.guardF rfl rfl hb1_9 ?_
          refine VX.guardF rfl rfl hb1_9 ?_
          refine VX.guardF rfl rfl hb1_9 ?_
          refine VX.guardU rfl rfl ?_
          refine VX.guardU rfl rfl ?_
          refine VX.guardU rfl rfl ?_
          refine VX.guardF rfl rfl hb1_9 ?_
          refine VX.guardT rfl rfl hb1_7 ?_
          exact VX.pickA rfl (fun h => absurd (h.symm.trans hb1_9) (by decide)) (VX.nil ⟨rfl, rfl⟩)
      refine VX.pickO rfl (fun _ => rfl) ?_
      exact VX.nil ⟨rfl, rfl⟩
    · refine VX.guardF rfl rfl hb1_7 ?_
      refine VX.guardU rfl rfl ?_
      refine VX.guardU rfl rfl ?_
      refine VX.guardU rfl rfl ?_
      refine VX.guardU rfl rfl ?_
      refine VX.guardU rfl rfl ?_
      refine VX.guardU rfl rfl ?_
      refine VX.guardU rfl rfl ?_
      refine VX.guardU rfl rfl ?_
      refine VX.guardF rfl rfl hb1_7 ?_
      exact VX.pickO rfl (fun h => absurd (h.symm.trans hb1_7) (by decide)) (VX.nil ⟨rfl, rfl⟩)
  refine VX.meek rfl ?_
  refine VX.nil ?_
  refine VX.nil ?_
  refine VC.ret ?_
  exact ⟨trivial, _, rfl, rfl, rfl⟩
end
section
open Go.RowKit
set_option maxRecDepth 10000
set_option maxHeartbeats 1000000
def trmA : Trm := ⟨true, 2097153, 2097154, 2097155, blankScr 2 1 100, []⟩
theorem awake57_p : CallP Tryd.prog 9 [] (BL true) := by
  have hnew : CallP Tryd.prog 10 [I64 2, I64 2, I64 1] (.tup [trmT trmA, (.islc (openC 2097152 2 1) 6 (some 6)), I64 0]) := tnew_p 2 2 1 (by decide) (by decide) (by decide) (by decide) (by decide) (by decide)
  have hwl : writeL trmA [65] = rowL 2097153 2097154 0 [65, 32] 1 := by decide +kernel
  have hwr : CallP Tryd.prog 21 [trmT trmA, strT [65]] (.tup [trmT ⟨true, 2097153, 2097154, 2097155, (blankScr 2 1 100).bytes [65], []⟩, rqT (rowL 2097153 2097154 0 [65, 32] 1)]) := by
    have := twrite_p 2097153 2097154 2097155 (blankScr 2 1 100) [] [65] (blank_ok (by decide) (by decide) (by decide) (by decide) (by decide)) (.inr (by decide)) (by decide)
    rw [show writeL ⟨true, 2097153, 2097154, 2097155, blankScr 2 1 100, []⟩ [65] = rowL 2097153 2097154 0 [65, 32] 1 from hwl] at this
    exact this
  have hrow := refRow_p 2097153 2097154 0 [65, 32] 1 (by decide) (by decide) (by decide) (by decide)
  have hsame := same_p (rowL 2097153 2097154 0 [65, 32] 1) (by decide +kernel) (by decide +kernel)
  have hp1 := trm_pure trmA
  have hp2 := trm_pure ⟨true, 2097153, 2097154, 2097155, (blankScr 2 1 100).bytes [65], []⟩
  generalize trmA = tA at *
  generalize (blankScr 2 1 100).bytes [65] = S at *
  generalize rowL 2097153 2097154 0 [65, 32] 1 = L at *
  generalize openC 2097152 2 1 = O at *
  refine CallP.intro2 au_pu au_pu ?_
  refine CallT.intro tab_ok Tryd.func9 rfl (by kernel_rfl) (Nat.le_of_ble_eq_true rfl) ?_
  refine VC.reg tab_ok [] rfl ?_
  refine VX.meek rfl ?_
  refine VX.nil ?_
  refine VC.reg tab_ok [] rfl ?_
  refine VX.callP0 rfl rfl rfl (hnew) ?_
  iterate 4 refine VX.meek rfl ?_
  refine VX.new rfl rfl ?_
  refine VX.store rfl rfl rfl rfl rfl au_sY rfl ?_
  iterate 2 refine VX.meek rfl ?_
  refine VX.nil ?_
  refine VC.reg tab_ok [] rfl ?_
  first | refine VX.meek rfl ?_ | refine VX.loadI rfl rfl au_l ?_ | refine VX.loadP rfl rfl rfl au_l ?_
  refine VX.callP0 rfl rfl rfl (hwr) ?_
  iterate 3 refine VX.meek rfl ?_
  refine VX.new rfl rfl ?_
  refine VX.store rfl rfl rfl rfl rfl au_sY rfl ?_
  refine VX.meek rfl ?_
  refine VX.nil ?_
  refine VC.reg tab_ok [] rfl ?_
  iterate 3 refine VX.meek rfl ?_
  refine' VX.merge (d := 22) [_, _, _, _] rfl ?_ rfl ?_
  rotate_left
  · refine VX.guard rfl rfl (fun hb3_2 => ?_) (fun hb3_2 => ?_)
    · have ghb3_2 := hb3_2
      try simp only [au_std, Bool.not_true, Bool.not_false] at ghb3_2
      refine VX.meek rfl ?_
      refine VX.guardT rfl rfl hb3_2 ?_
      refine VX.meek rfl ?_
      refine VX.guardT rfl rfl hb3_2 ?_
      refine VX.meek rfl ?_
      refine VX.pickA rfl (fun _ => rfl) ?_
      exact VX.nil ⟨rfl, rfl⟩
    · refine VX.guardF rfl rfl hb3_2 ?_
      refine VX.guardF rfl rfl hb3_2 ?_
      exact VX.pickA rfl (fun h => absurd (h.symm.trans hb3_2) (by decide)) (VX.nil ⟨rfl, rfl⟩)
  refine VX.meek rfl ?_
  refine' VX.merge (d := 27) [_, _, _, _] rfl ?_ rfl ?_
  rotate_left
  · refine VX.guard rfl rfl (fun hb3_7 => ?_) (fun hb3_7 => ?_)
    · have ghb3_7 := hb3_7
      try simp only [au_std, Bool.not_true, Bool.not_false] at ghb3_7
      refine VX.meek rfl ?_
      refine VX.guardT rfl rfl hb3_7 ?_
      refine VX.callP0 rfl rfl rfl (hrow) ?_
      refine VX.guardT rfl rfl hb3_7 ?_
      refine VX.callP0 rfl rfl rfl (hsame) ?_
      refine VX.pickA rfl (fun _ => rfl) ?_
      exact VX.nil ⟨rfl, rfl⟩
    · refine VX.guardF rfl rfl hb3_7 ?_
      refine VX.guardF rfl rfl hb3_7 ?_
      exact VX.pickA rfl (fun h => absurd (h.symm.trans hb3_7) (by decide)) (VX.nil ⟨rfl, rfl⟩)
  refine VX.meek rfl ?_
  refine VX.nil ?_
  refine VC.ret ?_
  exact ⟨trivial, _, rfl, Cv.eq (by first | rfl | (simp [*]; done)) rfl⟩
end
section
open Go.RowKit
def visH (fl : Bool) (F : Hp) : Hp := if fl then F else List.replicate F.length .d
theorem visH_len (fl : Bool) (F : Hp) : (visH fl F).length = F.length := by unfold visH; cases fl <;> simp
theorem blkH_dead : ∀ (n b : Nat), blkH (List.replicate n .d) b = .d
  | 0, _ => rfl
  | n + 1, 0 => rfl
  | n + 1, b + 1 => blkH_dead n b
def wOkG : List Wr → Hp → Prop
  | [], _ => True
  | (b, o, xs) :: W, F => match lookH F b with
    | some cs => o + xs.length ≤ cs.length ∧ xs.all cellB = true ∧ wOkG W (setH F b (.c (putL cs o xs)))
    | none => False
theorem appW_snocG {b o : Nat} {xs : List T} : ∀ (W V : List Wr) (F : Hp), wOkG (W ++ (b, o, xs) :: V) F → ∃ cs, lookH (appW W F) b = some cs ∧ o + xs.length ≤ cs.length ∧ xs.all cellB = true ∧ appW (W ++ [(b, o, xs)]) F = setH (appW W F) b (.c (putL cs o xs))
  | [], V, F, h => by
    simp only [List.nil_append, wOkG] at h
    split at h
    · rename_i cs hc
      exact ⟨cs, hc, h.1, h.2.1, by simp only [List.nil_append, appW, hc]⟩
    · exact h.elim
  | (b', o', xs') :: W, V, F, h => by
    simp only [List.cons_append, wOkG] at h
    split at h
    · rename_i cs hc
      obtain ⟨cs2, k1, k2, k3, k4⟩ := appW_snocG W V _ h.2.2
      refine ⟨cs2, ?_, k2, k3, ?_⟩
      · simp only [appW, hc]; exact k1
      · simp only [List.cons_append, appW, hc]; exact k4
    · exact h.elim
inductive RunT [Dr] (P : Program) (tab : Tab) (im : List Nat) (ops : Array Oper) : List Oper → Env → Hp → List Stp → List Bool → List (Option Wr) → Env → Hp → Prop
  | nil (E : Env) (F : Hp) : RunT P tab im ops [] E F [] [] [] E F
  | one {o : Oper} {l : List Oper} {E : Env} {F : Hp} {s : Stp} {f : Bool} {r : List Stp} {fs : List Bool} {ws : List (Option Wr)} {E' : Env} {F' : Hp} (h : StpOk P tab im ops o E (visH f F) s)
      (k : RunT P tab im ops l (E.put o.dst s.t) (F ++ newsOf s.nb) r fs ws E' F') : RunT P tab im ops (o :: l) E F (s :: r) (f :: fs) (none :: ws) E' F'
  | sto {o : Oper} {l : List Oper} {E : Env} {F : Hp} {t : Nat} {a x : Operand} {b q : Nat} {tx : T} {i : TyI} {r : List Stp} {fs : List Bool} {ws : List (Option Wr)} {E' : Env} {F' : Hp} (hg : o.guard = none) (hd : o.dst = none) (ho : o.op = .store t a x) (hT : tab t = some i) (ha : E.opd a = some (.ptr b q)) (hx : E.opd x = some tx)
      (hl : (flat tx).length = i.sz) (k : RunT P tab im ops l E F r fs ws E' F') : RunT P tab im ops (o :: l) E F (⟨.v undef, none⟩ :: r) (false :: fs) (some (b, q, flat tx) :: ws) E' F'
theorem runT_at [Dr] {P : Program} {tab : Tab} {im : List Nat} {ops : Array Oper} {l : List Oper} {E : Env} {F : Hp} {r : List Stp} {fs : List Bool} {ws : List (Option Wr)} {E' : Env} {F' : Hp} (h : RunT P tab im ops l E F r fs ws E' F') :
    r.length = l.length ∧ fs.length = l.length ∧ ws.length = l.length ∧ E' = envAt l r E l.length ∧ F' = hpAt r F l.length ∧
      (∀ k o s f w, l[k]? = some o → r[k]? = some s → fs[k]? = some f → ws[k]? = some w → StpS P tab im ops o (envAt l r E k) (visH f (hpAt r F k)) s w) := by
  induction h with
  | nil E F => exact ⟨rfl, rfl, rfl, rfl, rfl, fun k o s f w h => by simp at h⟩
  | @one o l E F s f r fs ws E' F' h k ih =>
    obtain ⟨h1, h2, h3, h4, h5, h6⟩ := ih
    refine ⟨by simp [h1], by simp [h2], by simp [h3], h4, h5, fun j o' s' f' w ho hs' hh hw => ?_⟩
    cases j with
    | zero => simp at ho hs' hh hw; subst ho hs' hh hw; exact h
    | succ j => exact h6 j o' s' f' w (by simpa using ho) (by simpa using hs') (by simpa using hh) (by simpa using hw)
  | @sto o l E F t a x b q tx i r fs ws E' F' hg hd ho hT ha hx hl k ih =>
    obtain ⟨h1, h2, h3, h4, h5, h6⟩ := ih
    refine ⟨by simp [h1], by simp [h2], by simp [h3], ?_, ?_, fun j o' s' f' w ho' hs' hh hw => ?_⟩
    · rw [h4]; show _ = envAt l r (E.put o.dst _) l.length; rw [hd]; rfl
    · rw [h5]; show _ = hpAt r (F ++ newsOf none) l.length; simp [newsOf]
    · cases j with
      | zero => simp at ho' hs' hh hw; subst ho' hs' hh hw; exact ⟨rfl, hg, hd, t, a, x, tx, i, ho, hT, ha, hx, rfl, hl⟩
      | succ j =>
        have := h6 j o' s' f' w (by simpa using ho') (by simpa using hs') (by simpa using hh) (by simpa using hw)
        have e : envAt (o :: l) (⟨.v undef, none⟩ :: r) E (j + 1) = envAt l r E j := by show envAt l r (E.put o.dst _) j = _; rw [hd]; rfl
        have e2 : hpAt (⟨.v undef, none⟩ :: r) F (j + 1) = hpAt r F j := by show hpAt r (F ++ newsOf none) j = _; simp [newsOf]
        rw [e, e2]; exact this
def lateB (l : List Oper) (fs : List Bool) : Bool := (List.range l.length).all fun k' => !stB l[k']? || (List.range fs.length).all fun k => !(fs.getD k false) || ((masks l []).getD k' 0).testBit k
section
variable {z : Bool} {P : Program} {tab : Tab} {n m kb lb : Nat} {l : List Oper} {E : Env} {H : Hp} {r : List Stp} {fs : List Bool} {ws : List (Option Wr)} {X0 : Nat → Prop} {M0 : Mp} {im : List Nat}
structure RunG [Dr] (P : Program) (tab : Tab) (im : List Nat) (l : List Oper) (m : Nat) (E : Env) (H : Hp) (r : List Stp) (fs : List Bool) (ws : List (Option Wr)) : Prop where
  rl : r.length = (l.take m).length
  hl : fs.length = (l.take m).length
  wl : ws.length = (l.take m).length
  st : ∀ k o s f w, (l.take m)[k]? = some o → r[k]? = some s → fs[k]? = some f → ws[k]? = some w → StpS P tab im l.toArray o (envAt (l.take m) r E k) (visH f (hpAt r H k)) s w
  ok : wOkG (ws.filterMap id) (hpAt r H r.length)
  late : lateB l fs = true
theorem JdS.lookT [Dr] {L : Nat → Prop} {a : Act} {M : Mp} {j : Nat} (hO : OrdB l m) (hF : RunG P tab im l m E H r fs ws) (h : JdS n kb (l.take m) r ws E H X0 j L a M) (hc : Closed l L) {k : Nat} (hk : ¬ L k) {f : Bool} (hkk : fs[k]? = some f) : LookAt M (lookH (visH f (hpAt r H k))) := by
  have hkl : k < (l.take m).length := by rw [← hF.hl]; exact (List.getElem?_eq_some_iff.1 hkk).1
  intro b B O cells hb hcc
  cases f with
  | false => rw [lookH_c] at hcc; unfold visH at hcc; rw [if_neg (by decide), blkH_dead] at hcc; cases hcc
  | true =>
    have hcc' : lookH (hpAt r H k) b = some cells := hcc
    refine Sim.look h.sim b B O cells hb ?_
    have hd := h.sim.D_of hb
    rw [lookH_c] at hcc'
    rw [cells_some]
    unfold lookG
    rw [if_pos hd, appW_other _ _ fun w hw e => ?_]
    · have hlt : b < (hpAt r H k).length := blkH_lt (by rw [hcc']; simp)
      have hkeep := (hpAt_keep (r := r) (H := H) k r.length (by have := hF.rl; omega) (Nat.le_refl _)).2 b hlt
      rw [hkeep]; exact hcc'
    · obtain ⟨i, hi⟩ := List.getElem?_of_mem hw
      have hij : i < j := by
        have := (List.getElem?_eq_some_iff.1 hi).1
        rw [List.length_take] at this; omega
      rw [List.getElem?_take, if_pos hij] at hi
      have hlt : i < cntW ws ws.length := by unfold cntW; rw [List.take_length]; exact (List.getElem?_eq_some_iff.1 hi).1
      obtain ⟨k', w', q1, q2, q3⟩ := cntW_pos hlt
      have hL : L k' := (h.cnt k' w' q2).2 (by omega)
      have hk'l : k' < (l.take m).length := by rw [← hF.wl]; exact q1
      have hol : l[k']? = some (l.take m)[k'] := by have := List.getElem?_eq_getElem hk'l; rw [List.getElem?_take] at this; split at this; exact this; cases this
      have hst := hF.st k' _ _ _ _ (List.getElem?_eq_getElem hk'l) (List.getElem?_eq_getElem (by rw [hF.rl]; exact hk'l)) (List.getElem?_eq_getElem (by rw [hF.hl]; exact hk'l)) q2
      obtain ⟨b', q', xs'⟩ := w'
      obtain ⟨-, -, -, t', x', y', tx', i', hoc', -⟩ := hst
      have hlate := hF.late
      unfold lateB at hlate
      rw [List.all_eq_true] at hlate
      have h1 := hlate k' (List.mem_range.2 (List.getElem?_eq_some_iff.1 hol).1)
      have hsb : stB l[k']? = true := by rw [hol]; generalize (l.take m)[k'] = ok at hoc'; simp [stB, hoc']
      rw [hsb] at h1
      simp only [Bool.not_true, Bool.false_or] at h1
      rw [List.all_eq_true] at h1
      have h2 := h1 k (List.mem_range.2 (List.getElem?_eq_some_iff.1 hkk).1)
      have hfk : fs.getD k false = true := by simp [List.getD, hkk]
      rw [hfk] at h2
      simp only [Bool.not_true, Bool.false_or] at h2
      exact hk (mask_listed hO.back hc k' hL k h2)
theorem JdS.stepT [Dr] (hT : TabOk P tab) (hO : OrdB l m) (hch : chainB l m = true) (hF : RunG P tab im l m E H r fs ws)
    {L : Nat → Prop} {a : Act} {M : Mp} {j : Nat} (h : JdS n kb (l.take m) r ws E H X0 j L a M) (hc : Closed l L) {k : Nat} {o : Oper} (ho : (l.take m)[k]? = some o) (hk : ¬ L k) (hpre : ∀ e ∈ o.after, Region.binds .any e = true → L e.on) (hd : ∀ d, o.dst = some d → d < n)
    {r0 : Option Nat} {Q : Exit → Act → World → Prop} {K : Act → World → Prop} (hK : ∀ a' M' j', Evo X0 M M' → JdS n kb (l.take m) r ws E H X0 j' (fun i => L i ∨ i = k) a' M' → K a' M'.w) : wpOpIn (FW r0) 0 P l.toArray Q k K a M.w := by
  have hr := hF.rl
  have hkl : k < (l.take m).length := (List.getElem?_eq_some_iff.1 ho).1
  have hol : l[k]? = some o := by rw [List.getElem?_take] at ho; split at ho; exact ho; cases ho
  have hkm : k < m := by rw [List.length_take] at hkl; omega
  have hs' : r[k]? = some r[k] := List.getElem?_eq_getElem (by omega)
  obtain ⟨f', hh'⟩ : ∃ x, fs[k]? = some x := ⟨_, List.getElem?_eq_getElem (by rw [hF.hl]; omega)⟩
  obtain ⟨w, hw'⟩ : ∃ x, ws[k]? = some x := ⟨_, List.getElem?_eq_getElem (by rw [hF.wl]; omega)⟩
  have hstp := hF.st k o _ _ _ ho hs' hh' hw'
  generalize r[k] = s at hs' hstp
  have hlook := h.lookT hO hF hc hk hh'
  have hrd := fun (d : Nat) (t : T) => h.read hO hr hc ho hk hpre (d := d) (t := t)
  have hop : ∀ x ∈ o.op.operands.toList, ∀ t, (envAt (l.take m) r E k).opd x = some t → Rep M t (a.eval x) := by
    intro x hx t ht
    cases x with
    | tmp d =>
      obtain ⟨u, h1, h2⟩ := hrd d t (by simp only [readsOf, Oper.looksAt, List.mem_append, List.mem_filterMap]; exact .inl ⟨.tmp d, hx, rfl⟩) ht
      have : a.eval (.tmp d) = u := by show a.tmps.getD d undef = u; simp [h1]
      rw [this]; exact h2
    | const v => simp only [Env.opd] at ht; injection ht with ht; subst ht; exact rep_ofV v
    | func f => simp only [Env.opd] at ht; injection ht with ht; subst ht; exact ⟨[], [], rfl, rfl, rfl⟩
    | global g => simp only [Env.opd] at ht; injection ht with ht; subst ht; exact rfl
  unfold wpOpIn
  simp only [List.getElem?_toArray, hol]
  cases w with
  | some w =>
    obtain ⟨b, q, xs⟩ := w
    obtain ⟨rfl, hg, hdn, t, x, y, tx, i, hoc, hti, hx, hy, rfl, hxl⟩ := hstp
    have hw : Region.wanted o (yielded l.toArray a.tmps) = true := by simp [Region.wanted, hg]
    rw [hw, if_pos rfl]
    have hix := cntW_lt hw'
    have hij : cntW ws k = j := by
      have h1 : ¬ cntW ws k < j := fun hh => hk ((h.cnt k _ hw').2 hh)
      refine Nat.le_antisymm (Nat.le_of_not_lt fun hh => ?_) (by omega)
      obtain ⟨k', w', q1, q2, q3⟩ := cntW_pos hh
      have hk'l : k' < (l.take m).length := by rw [← hF.wl]; exact (List.getElem?_eq_some_iff.1 q2).1
      have ho' : (l.take m)[k']? = some (l.take m)[k'] := List.getElem?_eq_getElem hk'l
      have hst' := hF.st k' _ _ _ _ ho' (List.getElem?_eq_getElem (by omega)) (List.getElem?_eq_getElem (by rw [hF.hl]; omega)) q2
      obtain ⟨b', q', xs'⟩ := w'
      obtain ⟨-, -, -, t', x', y', tx', i', hoc', -⟩ := hst'
      have hol' : l[k']? = some (l.take m)[k'] := by have := ho'; rw [List.getElem?_take] at this; split at this; exact this; cases this
      have hL := mask_next hO.back hc hol hpre (chain_at hch hkm q1 hol hol' hoc hoc')
      have := (h.cnt k' _ q2).1 hL
      omega
    rw [hij] at hix
    have hsp : ws.filterMap id = (ws.filterMap id).take j ++ (b, q, flat tx) :: (ws.filterMap id).drop (j + 1) := by
      have h1 := (List.getElem?_eq_some_iff.1 hix)
      rw [← h1.2, ← List.drop_eq_getElem_cons h1.1, List.take_append_drop]
    have hok := hF.ok
    rw [hsp] at hok
    obtain ⟨cs, k1, k2, k3, k4⟩ := appW_snocG _ _ _ hok
    have htk : (ws.filterMap id).take (j + 1) = (ws.filterMap id).take j ++ [(b, q, flat tx)] := by rw [List.take_add_one, hix]; rfl
    have hrx := hop x (by rw [hoc]; simp [Op.operands]) _ hx
    have hry := hop y (by rw [hoc]; simp [Op.operands]) _ hy
    have hbb : b < H.length ∨ made r H L b := by obtain ⟨B, O, hb, -⟩ := hrx; exact h.sim.D_of hb
    have hbk : lookG r H (appW ((ws.filterMap id).take j) (hpAt r H r.length)) L b = .c cs := by unfold lookG; rw [if_pos hbb]; exact lookH_c.1 k1
    obtain ⟨M', e1, e2, e3⟩ := Sim.stored (P := P) hT h.sim hti hbk hrx hry hxl k2 k3
    have hnd : ∀ c, o.op ≠ .defer c := by rw [hoc]; simp
    refine wpIn_of hnd ?_
    obtain ⟨dst, op, ty, pos, after, guard⟩ := o
    simp only at hoc hdn
    subst hoc hdn
    have hrr : (execOp a.eval ⟨none, .store t x y, ty, pos, after, guard⟩).run P M.w = .ok .skip M'.w := by simp [execOp, e1]
    rw [hrr]
    refine hK _ _ (j + 1) e2 (h.next hO ho hs' hk hd e2 (e3.congr (fun c => ?_) (fun c => by rw [made_none hs' rfl])) (u := undef) rfl (fun k2' w2 hw2 => ?_) (fun w2 hw2 => ?_))
    · rw [lookG_none hs' rfl, htk, k4]
      unfold lookG updL
      by_cases hcb : c = b
      · subst hcb; rw [if_pos hbb, if_pos rfl, blkH_set _ _ _ _ (lookH_lt k1), if_pos rfl]
      · rw [if_neg hcb]
        dsimp only
        by_cases hcd : c < H.length ∨ made r H L c
        · rw [if_pos hcd, if_pos hcd, blkH_set _ _ _ _ (lookH_lt k1), if_neg hcb]
        · rw [if_neg hcd, if_neg hcd]
    · rw [h.cnt k2' w2 hw2]
      constructor
      · rintro (q1 | rfl) <;> omega
      · intro hh
        by_cases h2 : cntW ws k2' < j
        · exact .inl h2
        · refine .inr ?_
          rcases Nat.lt_trichotomy k2' k with q1 | q1 | q1
          · have := cntW_mono q1 hw2; omega
          · exact q1
          · have := cntW_mono q1 hw'; omega
    · rw [htk] at hw2
      rcases List.mem_append.1 hw2 with q1 | q1
      · exact (h.mkd w2 q1).imp id made_or
      · rw [List.mem_singleton] at q1; subst q1; exact hbb.imp id made_or
  | none =>
    have hcn : ∀ k' w, ws[k']? = some (some w) → ((L k' ∨ k' = k) ↔ cntW ws k' < j) := fun k' w hwk => by
      rw [← h.cnt k' w hwk]
      exact ⟨fun hh => hh.resolve_right (fun e => by subst e; rw [hw'] at hwk; injection hwk with hwk; cases hwk), Or.inl⟩
    have hmk : ∀ w ∈ (ws.filterMap id).take j, w.1 < H.length ∨ made r H (fun i => L i ∨ i = k) w.1 := fun w hw => (h.mkd w hw).imp id made_or
    have hgd : ∀ g want d b, o.guard = some (g, want) → (l.toArray[g]?).bind (·.dst) = some d → (envAt (l.take m) r E k).get d = some (.v (.bool b)) → yielded l.toArray a.tmps g = some b := by
      intro g want d b hg hgd hb
      have hgd' : (l[g]?.bind fun x => x.dst) = some d := by simpa using hgd
      obtain ⟨u, h1, h2⟩ := hrd d _ (by simp [readsOf, Oper.looksAt, hg]; exact .inr hgd') hb
      obtain rfl := h2
      simp [yielded, hgd', h1]
    rcases hstp with ⟨h1, h2, g, want, d, x, hg, hgdst, hb, hne⟩ | ⟨hg, hst⟩
    · have hw : Region.wanted o (yielded l.toArray a.tmps) = false := by
        have hgd' : (l[g]?.bind fun x => x.dst) = some d := by simpa using hgdst
        obtain ⟨u, q1, q2⟩ := hrd d _ (by simp [readsOf, Oper.looksAt, hg]; exact .inr hgd') hb
        obtain rfl := q2
        have hy : yielded l.toArray a.tmps g = match u with | .bool b => some b | _ => none := by simp only [yielded, List.getElem?_toArray, hgd', Option.bind_some, q1]; cases u <;> rfl
        simp only [Region.wanted, hg, hy]
        cases u <;> first | rfl | skip
        rename_i b
        cases b <;> cases want <;> first | rfl | exact absurd rfl hne
      rw [hw]
      refine ⟨fun _ _ => trivial, hK _ M j (Evo.refl _ _) (h.next hO ho hs' hk hd (Evo.refl _ _) (h.sim.congr (fun b => lookG_none hs' h2 b) fun b => by rw [made_none hs' h2]) (by rw [h1]; rfl) hcn hmk)⟩
    · have hw : Region.wanted o (yielded l.toArray a.tmps) = true := by
        rcases hg with hg | ⟨g, want, d, hg, hgdst, hb⟩
        · simp [Region.wanted, hg]
        · have hy := hgd g want d want hg hgdst hb
          simp [Region.wanted, hg, hy]
      rw [hw, if_pos rfl]
      have hnd : ∀ c, o.op ≠ .defer c := by
        rcases hst with ⟨t, nb, hm, -⟩ | ⟨f, args, ats, g, fs, cs, ts, hoc, -⟩
        · exact opM_op hm
        · rw [hoc]; simp
      refine wpIn_of hnd ?_
      rcases hst with ⟨t, nb, hm, hst⟩ | ⟨f, args, ats, g, fs, cs, ts, hoc, hf, hts, hcall, hnb⟩
      · have hmk' := opM_ok (M := M) (ρ' := a.eval) hT hlook hop hm
        rcases hst with ⟨hst, hnb⟩ | ⟨⟨e, cs⟩, rfl, hst, hnb⟩
        case inr =>
          obtain ⟨u, w', q1, q2, q3, q4⟩ := imm_new h.sim hmk' (opM_new hm)
          rw [q1]
          exact hK _ _ j q2 (h.next hO ho hs' hk hd q2 ((h.sim.world q2 q3).congr (fun b => lookG_none hs' hnb b) fun b => by rw [made_none hs' hnb]) (by rw [hst]; exact q4) hcn hmk)
        subst hst
        cases nb with
        | none =>
          obtain ⟨u, h1, h2⟩ := hmk'
          rw [h1]
          exact hK _ M j (Evo.refl _ _) (h.next hO ho hs' hk hd (Evo.refl _ _) (h.sim.congr (fun b => lookG_none hs' hnb b) fun b => by rw [made_none hs' hnb]) h2 hcn hmk)
        | some p =>
          obtain ⟨e, cs⟩ := p
          simp only [Option.map_some] at hnb
          rw [visH_len] at hmk'
          obtain ⟨u, ar, h1, h2, h3⟩ := hmk'
          rw [h1]
          have hid : ¬ (hpAt r H k).length < H.length := by have := (hp_start (r := r) (H := H) (k := k) (by omega)).1; omega
          have hnd' : ¬ made r H L (hpAt r H k).length := by
            rintro ⟨j', s', q1, q2, q3, q4⟩
            exact hk (new_ne q1 q2 hs' (by rw [hnb]; simp) q4 ▸ q3)
          have hnd : ¬ ((hpAt r H k).length < H.length ∨ made r H L (hpAt r H k).length) := fun hh => hh.elim hid hnd'
          obtain ⟨Ev, S, hsh⟩ := h.sim.new (nx := (hpAt r H k).length) hnd (w := { M.w with heap := M.w.heap.push (.cells ar e) }) rfl rfl ⟨rfl, fun _ => Nat.le_refl _⟩ rfl (fun j _ hj => by simp at hj) h2
          have hmade : ∀ b, made r H (fun j => L j ∨ j = k) b ↔ made r H L b ∨ b = (hpAt r H k).length := fun b => by
            constructor
            · rintro ⟨j, s', q1, q2, q3 | q3, q4⟩
              · exact .inl ⟨j, s', q1, q2, q3, q4⟩
              · subst q3; exact .inr q4.symm
            · rintro (⟨j, s', q1, q2, q3, q4⟩ | q)
              · exact ⟨j, s', q1, q2, .inl q3, q4⟩
              · exact ⟨k, s, hs', by rw [hnb]; simp, .inr rfl, q.symm⟩
          refine hK _ (newM M _ _) j Ev (h.next hO ho hs' hk hd Ev (S.congr (fun b => ?_) (fun b => ?_)) (h3 _ (if_pos rfl) hsh) hcn hmk)
          · unfold lookG
            by_cases hb : b = (hpAt r H k).length
            · subst hb
              rw [if_pos (.inr ((hmade _).2 (.inr rfl))), if_pos rfl, appW_other _ _ fun w hw e => ?_]
              · exact (new_at hs' hnb).2
              · have := h.mkd w hw
                rw [e] at this
                exact hnd this
            · rw [if_neg hb]
              by_cases hbD : b < H.length ∨ made r H L b
              · rw [if_pos hbD, if_pos (hbD.imp id fun hh => (hmade b).2 (.inl hh))]
              · rw [if_neg hbD, if_neg fun hh => hbD (hh.imp id fun q => ((hmade b).1 q).resolve_right hb)]
          · rw [hmade, or_assoc]
      · obtain ⟨dst, op, ty, pos, after, guard⟩ := o
        simp only at hoc hop hd
        subst hoc
        obtain ⟨us, vs, e1, r1, r2⟩ := hop f (by simp [Op.operands, Call.operands]) _ hf
        have r3 := optL_ok (M := M) (ρ' := a.eval) _ _ (fun x hx t ht => hop x (by simp [Op.operands, Call.operands]; exact .inr (by simpa using hx)) t ht) hts
        have hrr : (execOp a.eval ⟨dst, .call ⟨.value f, args, ats⟩, ty, pos, after, guard⟩).run P M.w = .ok (.enter g (us ++ args.toList.map a.eval ++ vs).toArray) M.w := by
          simp only [execOp, resolve, Sem.run_bind, e1, Deferred.ofValue, Sem.run_pure, Result.andThen_ok, invoke]
          rw [run_goFunc _ _ _ hcall.2.2.1, ← map_arr]
          simp
        rw [hrr]
        refine ⟨fun hh => (by cases hh), callsIn_wide.2 ((hcall.run X0 M _ h.sim.bnd (RepL.append (RepL.append r1 r3) r2)).mono ?_)⟩
        rintro e w' ⟨u, rfl, k1, k2, k3⟩
        exact hK _ _ j k1 (h.next hO ho hs' hk hd k1 ((h.sim.world k1 k3).congr (fun b => lookG_none hs' hnb b) fun b => by rw [made_none hs' hnb]) k2 hcn hmk)
theorem JdS.finT [Dr] {L : Nat → Prop} {a : Act} {M : Mp} {j : Nat} (hO : OrdB l m) (hF : RunG P tab im l m E H r fs ws) (h : JdS n kb (l.take m) r ws E H X0 j L a M) (hL : ∀ k, k < (l.take m).length → L k) : St n kb (envAt (l.take m) r E (l.take m).length) (appW (ws.filterMap id) (hpAt r H (l.take m).length)) X0 a M := by
  have hr := hF.rl
  have hdis : ∀ (i j : Nat) (oi oj : Oper), (l.take m)[i]? = some oi → (l.take m)[j]? = some oj → i ≠ j → ∀ d, oi.dst = some d → oj.dst ≠ some d := fun i j oi oj hi hj hij d hdi => (hO.pair j oj i oi hj hi hij d hdi).1
  have hmd : ∀ b, made r H L b ↔ ¬ b < H.length ∧ b < (hpAt r H r.length).length := fun b => by
    constructor
    · rintro ⟨k, s, q1, q2, -, q4⟩
      have hk := (List.getElem?_eq_some_iff.1 q1).1
      obtain ⟨cs, hcs⟩ := Option.ne_none_iff_exists'.1 q2
      have h1 := (new_at (H := H) q1 hcs).1
      have h2 := (hpAt_keep (r := r) (H := H) (k + 1) r.length hk (Nat.le_refl _)).1
      have h3 := (hp_start (r := r) (H := H) (k := k) (by omega)).1
      omega
    · rintro ⟨h1, h2⟩
      obtain ⟨j, s, q1, q2, q3, q4⟩ := made_all (Nat.le_refl _) h2 h1
      exact ⟨j, s, q2, q3, hL j (by omega), q4⟩
  have htk : (ws.filterMap id).take j = ws.filterMap id := by
    refine List.take_of_length_le (Nat.le_of_not_lt fun hh => ?_)
    have e : (ws.filterMap id).length = cntW ws ws.length := by unfold cntW; rw [List.take_length]
    rw [e] at hh
    obtain ⟨k', w, q1, q2, q3⟩ := cntW_pos hh
    have := (h.cnt k' w q2).1 (hL k' (by rw [← hF.wl]; exact q1))
    omega
  refine ⟨fun d t ht => ?_, h.sz, h.df, h.ge, h.sim.congr (fun b => ?_) (fun b => ?_)⟩
  · obtain ⟨g1, g2⟩ := env_get (E := E) (d := d) hr (Nat.le_refl _) hdis
    by_cases hw : ∃ j oj, j < (l.take m).length ∧ (l.take m)[j]? = some oj ∧ oj.dst = some d
    · obtain ⟨j, oj, hj, hoj, hdj⟩ := hw
      have hs : r[j]? = some r[j] := List.getElem?_eq_getElem (by omega)
      rw [g1 j oj _ hj hoj hs hdj] at ht
      injection ht with ht; subst ht
      exact h.slot j oj _ d hoj hs (hL j hj) hdj
    · rw [g2 fun j oj hj hoj hdj => hw ⟨j, oj, hj, hoj, hdj⟩] at ht
      exact h.old d t ht fun j oj hoj _ hdj => hw ⟨j, oj, (List.getElem?_eq_some_iff.1 hoj).1, hoj, hdj⟩
  · rw [← hr, htk]
    unfold lookG
    by_cases hb : b < H.length ∨ made r H L b
    · rw [if_pos hb]
    · rw [if_neg hb]
      refine Classical.byContradiction fun hne => hb ?_
      have hlt := blkH_lt hne
      rw [appW_len] at hlt
      by_cases hbH : b < H.length
      · exact .inl hbH
      · exact .inr ((hmd b).2 ⟨hbH, hlt⟩)
  · rw [← hr, appW_len, hmd]
    have := (hp_start (r := r) (H := H) (k := r.length) (Nat.le_refl _)).1
    omega
theorem draw_anyT [Dr] (hT : TabOk P tab) (hO : OrdB l m) (hch : chainB l m = true) (hd : dstB n l = true) (hF : RunG P tab im l m E H r fs ws)
    {r0 : Option Nat} {Q : Exit → Act → World → Prop} (hQ : ∀ a M, Evo X0 M0 M → St n kb (envAt (l.take m) r E (l.take m).length) (appW (ws.filterMap id) (hpAt r H (l.take m).length)) X0 a M → wpListIn (FW r0) 0 P l.toArray Q (l.drop m) a M.w) :
    ∀ (fuel : Nat) (listed : Array Bool) (a : Act) (M : Mp) (j : Nat), leftB l listed ≤ fuel → listed.size = l.length → Closed l (lsd listed) → (∀ k, m ≤ k → ¬ lsd listed k) → Evo X0 M0 M → JdS n kb (l.take m) r ws E H X0 j (lsd listed) a M → wpAnyIn (FW r0) 0 P .any l.toArray Q fuel listed a M.w := by
  have hml : (l.take m).length = m := by rw [List.length_take]; have := hO.le; omega
  intro fuel
  have fin : ∀ (fuel : Nat) (listed : Array Bool) (a : Act) (M : Mp) (j : Nat), leftB l listed ≤ fuel → listed.size = l.length → (∀ k, m ≤ k → ¬ lsd listed k) → (∀ k, k < m → lsd listed k) → Evo X0 M0 M → JdS n kb (l.take m) r ws E H X0 j (lsd listed) a M → wpAnyIn (FW r0) 0 P .any l.toArray Q fuel listed a M.w := by
    intro fuel listed a M j hf hsz hno hall hE hJ
    refine tail_any hO fuel listed m a M.w ?_ hsz (Nat.le_refl _) hO.le (fun k => ⟨fun h => ?_, hall k⟩) (hQ a M hE (hJ.finT hO hF fun k hk => hall k (by omega)))
    · have h1 : leftB l listed = l.length - m := by
        unfold leftB
        have e : List.range l.length = List.range m ++ (List.range (l.length - m)).map (m + ·) := by
          rw [← List.range_add, show m + (l.length - m) = l.length from by have := hO.le; omega]
        rw [e, List.countP_append]
        have e1 : (List.range m).countP (fun k => !listed.getD k false) = 0 := by
          rw [List.countP_eq_zero]
          intro k hk
          have := hall k (List.mem_range.1 hk)
          unfold lsd at this
          simpa using this
        have e2 : ((List.range (l.length - m)).map (m + ·)).countP (fun k => !listed.getD k false) = l.length - m := by
          rw [List.countP_eq_length.2]
          · simp
          · intro k hk
            rw [List.mem_map] at hk
            obtain ⟨q, -, rfl⟩ := hk
            have := hno (m + q) (by omega)
            unfold lsd at this
            simpa using this
        omega
      omega
    · exact Nat.lt_of_not_le fun hk => hno k hk h
  induction fuel with
  | zero =>
    intro listed a M j hf hsz hc hno hE hJ
    by_cases hall : ∀ k, k < m → lsd listed k
    · exact fin 0 listed a M j hf hsz hno hall hE hJ
    · exfalso
      have h0 : leftB l listed = 0 := by omega
      unfold leftB at h0
      rw [List.countP_eq_zero] at h0
      apply hall
      intro k hk
      have := h0 k (List.mem_range.2 (by have := hO.le; omega))
      unfold lsd
      simpa using this
  | succ fuel ih =>
    intro listed a M j hf hsz hc hno hE hJ
    by_cases hall : ∀ k, k < m → lsd listed k
    · exact fin _ listed a M j hf hsz hno hall hE hJ
    · have hnext : ∃ i o, i < m ∧ l[i]? = some o ∧ ¬ lsd listed i ∧ ∀ e ∈ o.after, Region.binds .any e = true → lsd listed e.on := by
        have hex : ∃ k, k < m ∧ ¬ lsd listed k := by
          apply Classical.byContradiction
          intro h
          exact hall fun k hk => Classical.byContradiction fun hn => h ⟨k, hk, hn⟩
        obtain ⟨i, ⟨h1, h2⟩, hmin⟩ := least_nat hex
        have hile : i < l.length := by have := hO.le; omega
        have ho : l[i]? = some l[i] := List.getElem?_eq_getElem hile
        refine ⟨i, _, h1, ho, h2, fun e he hb => ?_⟩
        have hlt := back_at l 0 i _ hO.back ho e he hb
        exact Classical.byContradiction fun hn => by have := hmin e.on ⟨by omega, hn⟩; omega
      refine ⟨fun hr0 => ?_, fun i hi => ?_⟩
      · obtain ⟨i, o, h1, h2, h3, h4⟩ := hnext
        have := ready_of hsz h2 h3 h4
        rw [hr0] at this; cases this
      · obtain ⟨o, ho, hn, hp⟩ := ready_facts hsz hi
        have hil := (List.getElem?_eq_some_iff.1 ho).1
        have him : i < m := by
          refine Nat.lt_of_not_le fun hmi => ?_
          apply hall
          intro k hk
          exact mask_next hO.back hc ho hp (hO.full i hmi hil k (by omega))
        have hop : (l.take m)[i]? = some o := by rw [List.getElem?_take, if_pos him]; exact ho
        have hdo : ∀ d, o.dst = some d → d < n := fun d hdd => by
          unfold dstB at hd
          rw [List.all_eq_true] at hd
          have := hd o (List.mem_of_getElem? ho)
          rw [hdd] at this; simpa using this
        refine JdS.stepT hT hO hch hF hJ hc hop hn hp hdo fun a' M' j' hE' hJ' => ?_
        have hiff : ∀ k, lsd (listed.setIfInBounds i true) k ↔ lsd listed k ∨ k = i := lsd_set (by omega)
        have hfun : lsd (listed.setIfInBounds i true) = fun k => lsd listed k ∨ k = i := funext fun k => propext (hiff k)
        refine ih _ a' M' j' ?_ (by simpa using hsz) (fun k ok hok hk e he hb => ?_) (fun k hk h => ?_) (hE.trans hE') (by rw [hfun]; exact hJ')
        · have := leftB_set hsz hil hn; omega
        · rw [hiff] at hk ⊢
          rcases hk with hk | rfl
          · exact .inl (hc k ok hok hk e he hb)
          · rw [ho] at hok; injection hok with hok; subst hok; exact .inl (hp e he hb)
        · rcases (hiff k).1 h with h | h
          · exact hno k hk h
          · omega
theorem VC.drawT [Dr] {id : Nat} {QT : Exit → Env → Hp → Prop} (hT : TabOk P tab) (im : List Nat) (m : Nat) (hm : P.follows .mixedOrders = true) (hB : drawB n m l = true) (hch : chainB l m = true)
    (h : ∃ r fs ws E' F', RunT P tab im l.toArray (l.take m) E H r fs ws E' F' ∧ lateB l fs = true ∧ wOkG (ws.filterMap (·)) F' ∧ vcSeq P tab im (l.map (·.dst)) (l.drop m) E' (appW (ws.filterMap (·)) F') (QT .normal)) : VC z P n lb (.region id l.toArray true) QT E H := by
  intro X0 M a r0 kb hz hs
  obtain ⟨hO, hd⟩ := ord_of hB
  obtain ⟨r, fs, ws, E', F', hrun, hlate, hok, hk⟩ := h
  obtain ⟨h1, h2, h3, h4, h5, h6⟩ := runT_at hrun
  have hF : RunG P tab im l m E H r fs ws := ⟨h1, h2, h3, h6, by rw [h1, ← h5]; exact hok, hlate⟩
  refine wpIn_region_any hm ?_
  let M1 : Mp := ⟨M.β, M.X, { M.w with drawn := M.w.drawn + 1 }⟩
  have hE1 : Evo X0 M M1 := ⟨fun _ _ h => h, fun _ _ h => h, fun _ _ _ => rfl, fun _ _ h => h, rfl, ⟨rfl, fun _ => Nat.le_succ _⟩, rfl, Nat.le_refl _⟩
  have hs1 : St n kb E H X0 a M1 := ⟨fun d t ht => by obtain ⟨u, q1, q2⟩ := hs.tm d t ht; exact ⟨u, q1, Rep.stays hE1.stays _ _ q2⟩, hs.sz, hs.df.evo hE1, hs.ge, hs.sim.world hE1 fun _ _ => rfl⟩
  have hno : ∀ k, ¬ lsd (Array.replicate l.toArray.size false) k := fun k hk => by
    unfold lsd at hk
    by_cases hlt : k < l.length
    · simp [hlt] at hk
    · simp [hlt] at hk
  have hmd : ∀ b, ¬ made r H (lsd (Array.replicate l.toArray.size false)) b := fun b ⟨k, s, _, _, hk, _⟩ => hno k hk
  have := draw_anyT (r0 := r0) (X0 := X0) (M0 := M) (Q := Lift n kb lb X0 M QT) hT hO hch hd hF (fun a' M' hE' hs' => by
    rw [← h4, ← h5] at hs'
    refine vcSeq_ok (im := im) hT _ ?_ hs' (fun E2 H2 a2 M2 k1 k2 k3 => ⟨E2, H2, M2, k1, rfl, (hE'.trans k2).toK lb, k3⟩) hk
    unfold dstB at hd ⊢
    rw [List.all_eq_true] at hd ⊢
    exact fun o ho => hd o (List.mem_of_mem_drop ho)) l.toArray.size (Array.replicate l.toArray.size false) a M1 0 (Nat.le_trans List.countP_le_length (by simp)) (by simp) (fun k o _ hk => absurd hk (hno k)) (fun k _ => hno k) hE1
    ⟨hs1.sim.congr (fun b => by
        unfold lookG
        rw [List.take_zero]
        by_cases hb : b < H.length
        · rw [if_pos (.inl hb)]; exact (hp_start (Nat.le_refl _)).2 b hb
        · rw [if_neg fun hh => hh.elim hb (hmd b)]
          exact Classical.byContradiction fun hne => hb (blkH_lt fun e => hne (by rw [e]))) (fun b => ⟨fun h => h.elim (fun h => h) fun h => absurd h (hmd b), .inl⟩),
     fun k o s d _ _ hk => absurd hk (hno k), fun d t ht _ => hs1.tm d t ht, hs1.sz, hs1.df, hs1.ge, fun k w _ => ⟨fun hk => absurd hk (hno k), fun hh => by omega⟩, fun w hw => by rw [List.take_zero] at hw; cases hw⟩
  exact this
end
def VT [Dr] (P : Program) (tab : Tab) (im : List Nat) (ops : Array Oper) (l : List Oper) (E : Env) (F : Hp) (W : List Wr) (fl : List Bool) (K : Env → Hp → List Bool → Prop) : Prop :=
  ∀ E2, Sub E E2 → ∃ r fs ws E' F', RunT P tab im ops l E2 F r fs ws E' F' ∧ wOkG (W ++ ws.filterMap (·)) F' ∧ ∃ E1, Sub E1 E' ∧ K E1 (appW (W ++ ws.filterMap (·)) F') (fl ++ fs)
section
variable {z : Bool} {P : Program} {tab : Tab} {n lb : Nat} {im : List Nat} {ops : Array Oper} {l : List Oper} {E : Env} {F : Hp} {W : List Wr} {fl : List Bool} {K : Env → Hp → List Bool → Prop}
theorem VT.nil [Dr] (hw : wOkG W F) (h : K E (appW W F) fl) : VT P tab im ops [] E F W fl K := fun E2 he =>
  ⟨[], [], [], E2, F, .nil _ _, by simpa using hw, E, he, by simpa using h⟩
theorem VT.sto [Dr] {t : Nat} {a x : Operand} {ty : TypeId} {pos : String} {after : Array Edge} {b q : Nat} {tx : T} {i : TyI} (hT : tab t = some i) (ha : E.opd a = some (.ptr b q)) (hx : E.opd x = some tx) (hl : (flat tx).length = i.sz) (k : VT P tab im ops l E F (W ++ [(b, q, flat tx)]) (fl ++ [false]) K) : VT P tab im ops (⟨none, .store t a x, ty, pos, after, none⟩ :: l) E F W fl K := fun E2 he => by
  obtain ⟨r, fs, ws, E', F', h1, h2, E1, h3, h4⟩ := k _ he
  refine ⟨⟨.v undef, none⟩ :: r, false :: fs, some (b, q, flat tx) :: ws, E', F', .sto rfl rfl rfl hT (he.opd ha) (he.opd hx) hl h1, ?_, E1, h3, ?_⟩
  · simpa using h2
  · simpa using h4
theorem run_runT [Dr] {f : Bool} {l1 l2 : List Oper} {E1 : Env} {H1 : Hp} {H0 : Hp} {r1 : List Stp} (h : Run P tab im ops l1 E H0 r1 E1 H1) (hno : H1 = H0) (hf : H0 = visH f F) : ∀ {r : List Stp} {fs : List Bool} {ws : List (Option Wr)} {E' : Env} {F' : Hp}, RunT P tab im ops l2 E1 F r fs ws E' F' →
    ∃ r' fs' ws', RunT P tab im ops (l1 ++ l2) E F r' fs' ws' E' F' ∧ ws'.filterMap (·) = ws.filterMap (·) ∧ fs' = List.replicate l1.length f ++ fs := by
  induction h with
  | nil E H => intro r fs ws E' F' k; exact ⟨r, fs, ws, k, rfl, rfl⟩
  | @cons o l E H s r1 E1 H1 h k ih =>
    intro r fs ws E' F' k2
    obtain ⟨x, hx⟩ := run_ext k
    have e : newsOf s.nb = [] := by
      rw [hno, List.append_assoc] at hx
      have := List.append_cancel_left (show H ++ [] = H ++ (newsOf s.nb ++ x) by rw [List.append_nil]; exact hx)
      exact (List.append_eq_nil_iff.1 this.symm).1
    rw [e, List.append_nil] at k ih
    obtain ⟨r', fs', ws', g1, g2, g3⟩ := ih hno hf k2
    refine ⟨s :: r', f :: fs', none :: ws', .one (hf ▸ h) (by rw [e, List.append_nil]; exact g1), by simpa using g2, by rw [g3]; rfl⟩
theorem VT.seg [Dr] {l1 l2 : List Oper} (f : Bool) (hl : l = l1 ++ l2) (h : VX true P tab im (ops.toList.map (·.dst)) l1 E (visH f F) fun E1 H1 => H1 = visH f F ∧ VT P tab im ops l2 E1 F W (fl ++ List.replicate l1.length f) K) : VT P tab im ops l E F W fl K := fun E2 he => by
  subst hl
  obtain ⟨r1, E1, H1, hr, E3, he3, hh, hv⟩ := vcDraw_run (ops := ops) _ _ _ (h E2 he)
  obtain ⟨r, fs, ws, E', F', k1, k2, E4, k3, k4⟩ := hv _ he3
  obtain ⟨r', fs', ws', g1, g2, g3⟩ := run_runT (f := f) hr hh rfl k1
  exact ⟨r', fs', ws', E', F', g1, by rw [g2]; exact k2, E4, k3, by rw [g2, g3, ← List.append_assoc]; exact k4⟩
end
section
variable {z : Bool} {P : Program} {tab : Tab} {n lb : Nat} {E : Env} {H : Hp} {QT : Exit → Env → Hp → Prop}
theorem VC.drwTN [Dr] {id : Nat} {l l2 : List Oper} (hT : TabOk P tab) (im : List Nat) (l1 : List Oper) (fl : List Bool) (hl : l = l1 ++ l2) (hm : P.follows .mixedOrders = true) (hB : drawB n l1.length l = true) (hch : chainB l l1.length = true) (hlt : lateB l fl = true) (h : VT P tab im l.toArray l1 E H [] [] fun E H f => f = fl ∧ VX false P tab im (l.map (·.dst)) l2 E H (QT .normal)) : VC z P n lb (.region id l.toArray true) QT E H := by
  have e1 : l.take l1.length = l1 := by rw [hl, List.take_left]
  have e2 : l.drop l1.length = l2 := by rw [hl, List.drop_left]
  obtain ⟨r, fs, ws, E', F', h1, h2, E1, h3, h5, h4⟩ := h E (Sub.refl E)
  have h5' : fs = fl := by simpa using h5
  refine VC.eqv (VC.drawT hT im l1.length hm hB hch ⟨r, fs, ws, E', F', by rw [e1]; exact h1, by rw [h5']; exact hlt, by simpa using h2, ?_⟩)
  rw [e2]
  have := h4 E' h3
  simpa using this
theorem VC.drwT [Dr] {id : Nat} {l l2 : List Oper} {c : Code} (hT : TabOk P tab) (im : List Nat) (l1 : List Oper) (fl : List Bool) (hl : l = l1 ++ l2) (hm : P.follows .mixedOrders = true) (hB : drawB n l1.length l = true) (hch : chainB l l1.length = true) (hlt : lateB l fl = true) (h : VT P tab im l.toArray l1 E H [] [] fun E H f => f = fl ∧ VX false P tab im (l.map (·.dst)) l2 E H fun E H => VC z P n lb c QT E H) : VC z P n lb (.seq (.region id l.toArray true) c) QT E H := VC.seq (VC.drwTN hT im l1 fl hl hm hB hch hlt h)
end
end
section
open Go.RowKit
set_option maxRecDepth 10000
set_option maxHeartbeats 2000000
structure Act where
  d : Int
  s : List UInt8
  y : Int
  h : Int
  c : Int
  m : Int
deriving Inhabited
def cAct : Cd Act := ⟨6, fun a => [U8 a.d, strT a.s, U8 a.y, U8 a.h, U16 a.c, U16 a.m], fun _ => rfl, fun _ => rfl, fun _ => rfl, by decide⟩
def Act.Ok (a : Act) : Prop := (0 ≤ a.d ∧ a.d < 256) ∧ (0 ≤ a.y ∧ a.y < 256) ∧ (0 ≤ a.h ∧ a.h < 256) ∧ (0 ≤ a.c ∧ a.c < 65536) ∧ (0 ≤ a.m ∧ a.m < 65536)
theorem few_p (l : List Act) (hl : l.length ≤ maxLen) : CallP Tryd.prog 8 [.islc (encL cAct l) l.length none] (BL (l.all (fun a => decide (a.s.length ≤ 60)) && decide (l.length ≤ 20))) := by
  have hml : maxLen ≤ 9223372036854775807 := by decide
  refine CallP.intro2 au_pu au_pu ?_
  refine CallT.intro tab_ok Tryd.func8 rfl (by kernel_rfl) (Nat.le_of_ble_eq_true rfl) ?_
  refine VC.reg tab_ok [] rfl ?_
  refine VX.meek rfl ?_
  refine VX.nil ?_
  refine VC.seq ?_
  refine VC.reg tab_ok [] rfl ?_
  iterate 3 refine VX.meek rfl ?_
  refine VX.nil ?_
  refine VC.block ?_
  refine VC.loopS (σ := Nat) (fun i => l.length - i) (fun i => i ≤ l.length ∧ (l.take i).all (fun a => decide (a.s.length ≤ 60)) = true) (fun i => [(7, I64 i), (6, I64 l.length), (5, .islc (encL cAct l) l.length none), (0, .islc (encL cAct l) l.length none)]) (fun _ => []) [] rfl (0) ?_ ?_ ?_
  · refine ⟨[], rfl, by first | trivial | decide, rfl, ?_, ?_⟩ <;> (repeat' first | exact trivial | exact CvB_n | exact CvB_d | exact CvB_o rfl | refine CvE_app ?_ ?_ | refine CvE_cons rfl ?_ ?_ | refine CvH_cons ?_ ?_ | refine CvB_c rfl ?_ | fail) <;> first | exact au_v | (skip)
  · exact ⟨Nat.zero_le _, rfl⟩
  rintro i ⟨hi, hall⟩
  refine VC.reg tab_ok [] rfl ?_
  refine VX.meek rfl ?_
  refine VX.nil ?_
  refine VC.seq ?_
  refine VC.cond rfl (fun hc0 => ?_) (fun hc0 => ?_)
  · (try simp only [au_std] at hc0); have hil : i < l.length := (by omega); have hsn : l.take (i + 1) = l.take i ++ [l[i]!] := (by rw [List.take_succ_eq_append_getElem hil]; simp [hil])
    refine VC.skip ?_
    refine VC.seq ?_
    refine VC.block ?_
    refine VC.reg tab_ok [] rfl ?_
    first | refine VX.idxI rfl rfl rfl rfl rfl rfl (by omega) ?_ | refine VX.idxO0 rfl rfl rfl rfl rfl rfl rfl (by omega) ?_ | refine VX.idxO0 rfl rfl rfl rfl rfl rfl au_z (by omega) ?_ | refine VX.idxO rfl rfl rfl rfl rfl rfl rfl (by omega) ?_ | refine VX.idxI rfl rfl rfl rfl rfl au_z (by omega) ?_ | refine VX.idxO rfl rfl rfl rfl rfl rfl au_z (by omega) ?_ | refine VX.meek rfl ?_
    first | refine VX.meek rfl ?_ | refine VX.loadI rfl rfl au_l ?_ | refine VX.loadP rfl rfl rfl au_l ?_
    refine VX.new rfl rfl ?_
    refine VX.store rfl rfl rfl rfl rfl au_sY rfl ?_
    refine VX.nil ?_
    refine VC.reg tab_ok [] rfl ?_
    refine VX.meek rfl ?_
    first | refine VX.meek rfl ?_ | refine VX.loadI rfl rfl au_l ?_ | refine VX.loadP rfl rfl rfl au_l ?_
    iterate 2 refine VX.meek rfl ?_
    refine VX.nil ?_
    refine VC.cond rfl (fun hc1 => ?_) (fun hc1 => ?_)
    · (try simp only [au_std] at hc1); have hno : l.all (fun a => decide (a.s.length ≤ 60)) = false := (by rw [List.all_eq_false]; refine ⟨l[i]!, List.mem_iff_getElem?.2 ⟨i, getE hil⟩, ?_⟩; rw [decide_eq_true_eq]; have h6 : (60 : Int) < (l[i]!.s.length : Int) := hc1; omega)
      refine VC.reg tab_ok [] rfl ?_
      refine VX.meek rfl ?_
      refine VX.nil ?_
      refine VC.ret ?_
      exact ⟨trivial, _, rfl, Cv.eq (by rw [hno]; rfl) rfl⟩
    · (try simp only [au_std] at hc1); have hyes : (l.take (i + 1)).all (fun a => decide (a.s.length ≤ 60)) = true := (by have h6 : (l[i]!.s.length : Int) ≤ 60 := hc1; rw [hsn, List.all_append, hall, List.all_cons, List.all_nil, decide_eq_true (by omega)]; rfl)
      refine VC.skip ?_
      refine VC.regN tab_ok [] rfl ?_
      first | refine VX.add rfl rfl (by omega) ?_ | refine VX.meek rfl ?_
      refine VX.meek rfl ?_
      refine VX.nil ?_
      refine ⟨i + 1, by (try dsimp only); omega, ?_, (by refine ⟨[], rfl, by first | trivial | decide, rfl, ?_, ?_⟩ <;> (repeat' first | exact trivial | exact CvB_n | exact CvB_d | exact CvB_o rfl | refine CvE_app ?_ ?_ | refine CvE_cons rfl ?_ ?_ | refine CvH_cons ?_ ?_ | refine CvB_c rfl ?_ | fail) <;> first | exact au_v | (exact Cv.pure rfl))⟩
      exact ⟨by omega, hyes⟩
  · (try simp only [au_std] at hc0); obtain rfl : i = l.length := (by omega); rw [List.take_length] at hall; rw [hall]
    refine VC.exit ?_
    refine VC.reg tab_ok [] rfl ?_
    iterate 4 refine VX.meek rfl ?_
    refine VX.nil ?_
    refine VC.ret ?_
    exact ⟨trivial, _, rfl, Cv.eq (by show T.v (.bool (decide ((l.length : Int) ≤ 20))) = _; rw [Bool.true_and]; congr 2; rw [decide_eq_decide]; omega) rfl⟩
theorem tcells_p (t : Trm) : CallP Tryd.prog 23 [trmT t] (scrT t.scr) := by
  have hp := trm_pure t
  have hps := scr_pure t.scr
  refine CallP.intro2 au_pu au_pu ?_
  refine CallT.intro tab_ok Tryd.func23 rfl (by kernel_rfl) (Nat.le_of_ble_eq_true rfl) ?_
  refine VC.reg tab_ok [1] rfl ?_
  refine VX.newI rfl rfl ?_
  refine VX.new rfl rfl ?_
  refine VX.nil ?_
  refine VC.reg tab_ok [] rfl ?_
  refine VX.meek rfl ?_
  first | refine VX.meek rfl ?_ | refine VX.loadI rfl rfl au_l ?_ | refine VX.loadP rfl rfl rfl au_l ?_
  refine VX.store rfl rfl rfl rfl rfl au_sY rfl ?_
  refine VX.nil ?_
  refine VC.ret ?_
  exact ⟨trivial, _, rfl, Cv.pure hps⟩
theorem and255u {s : Int} (h : 0 ≤ s ∧ s < 65536) : bitV .and .u16 s 255 = s % 256 := by
  obtain ⟨n, rfl⟩ := Int.eq_ofNat_of_zero_le h.1
  have e : (BitVec.ofInt 16 (n : Int) &&& BitVec.ofInt 16 255).toNat = n % 256 := by
    rw [BitVec.toNat_and]
    have e1 : (BitVec.ofInt 16 (n : Int)).toNat = n := by simp only [BitVec.toNat_ofInt]; omega
    have e2 : (BitVec.ofInt 16 255).toNat = 2 ^ 8 - 1 := by decide
    rw [e1, e2, Nat.and_two_pow_sub_one_eq_mod]
  show IntKind.u16.wrap ((BitVec.ofInt 16 (n : Int) &&& BitVec.ofInt 16 255).toNat : Int) = _
  rw [e]
  show ((n % 256 : Nat) : Int).emod _ = _
  rw [show ((n % 256 : Nat) : Int) = (n : Int) % 256 from rfl]
  exact Int.emod_eq_of_lt (by omega) (by show _ < (65536 : Int); omega)
theorem sok_or {c : Int} (h : sok c = true) : c = 13 ∨ c = 8 ∨ c = 9 := by
  unfold sok at h
  simp at h
  omega
theorem typ_l {l : List UInt8} {c m : Int} (h : l.length < 1000) (hk : lok c m = true) : typ l c m = l ++ [lbU c m] := by
  unfold typ
  rw [if_neg (by omega), if_neg, if_pos hk]
  intro hs
  unfold lok at hk
  unfold sok at hs
  simp at hk hs
  omega
theorem typ_s {l : List UInt8} {c : Int} (h : l.length < 1000) (hk : sok c = true) : typ l c 0 = l ++ [sbU c] := by
  unfold typ
  rw [if_neg (by omega), if_pos ⟨hk, rfl⟩]
theorem typ_n {l : List UInt8} {c m : Int} (h : l.length < 1000) (hk : lok c m = false) (hs : sok c = true → ¬ m = 0) : typ l c m = l := by
  unfold typ
  rw [if_neg (by omega), if_neg (fun h => hs h.1 h.2), if_neg (by rw [hk]; simp)]
theorem rowsL_small {S : Scr} {w p : Int} {ask : Nat → Bool} {n : Nat} : ∀ r ∈ rowsL S w p ask n, r.n.length ≤ 1000000 ∧ r.l.length ≤ 1000000 := by
  intro r h
  unfold rowsL at h
  obtain ⟨y, -, h⟩ := List.mem_flatMap.1 h
  unfold rowL at h
  rcases List.mem_cons.1 h with rfl | h
  · exact ⟨by show 5 ≤ 1000000; omega, by show 0 ≤ 1000000; omega⟩
  · by_cases hc : 0 ≤ (if S.y = y then (S.x : Int) else -1) ∧ (if S.y = y then (S.x : Int) else -1) < (S.rowN y).length
    · rw [if_pos hc] at h
      obtain rfl := List.mem_singleton.1 h
      exact ⟨by show 2 ≤ 1000000; omega, by show 4 ≤ 1000000; omega⟩
    · rw [if_neg hc] at h; cases h
theorem scr_most2 {S : Scr} {l : List UInt8} (h : 2 ≤ S.most) : 2 ≤ (S.bytes l).most := by rw [scr_most]; exact h
abbrev trmX (w p f : Int) (S : Scr) (ty : List UInt8) : Trm := ⟨true, w, p, f, S, ty⟩
theorem termSteps_all (A B D : Nat) (hA : A < 256) (hB : B < 256) (hD : D < 256) (l : List Act) (hok : ∀ a ∈ l, a.Ok) (hl : l.length ≤ maxLen) :
    CallP Tryd.prog 3 [U8 A, U8 B, U8 D, .islc (encL cAct l) l.length none] (BL true) := by
  obtain ⟨p, hp⟩ : ∃ p, p = A % 8 := ⟨_, rfl⟩
  obtain ⟨u, hu⟩ : ∃ u, u = B % 32 := ⟨_, rfl⟩
  obtain ⟨v, hv⟩ : ∃ v, v = D % 21 := ⟨_, rfl⟩
  obtain ⟨wn, hwn⟩ : ∃ wn : Int, wn = (((p + 1) * 1048576 : Nat) : Int) + 1 := ⟨_, rfl⟩
  obtain ⟨pn, hpn⟩ : ∃ pn : Int, pn = (((p + 1) * 1048576 : Nat) : Int) + 2 := ⟨_, rfl⟩
  obtain ⟨fn, hfn⟩ : ∃ fn : Int, fn = (((p + 1) * 1048576 : Nat) : Int) + 3 := ⟨_, rfl⟩
  obtain ⟨S0, hS0⟩ : ∃ S, S = blankScr (u + 1) (v + 1) 100 := ⟨_, rfl⟩
  have hnew : CallP Tryd.prog 10 [I64 ((p + 1 : Nat) : Int), I64 ((u + 1 : Nat) : Int), I64 ((v + 1 : Nat) : Int)] (.tup [trmT (trmX wn pn fn S0 []), (.islc (openC (((p + 1) * 1048576 : Nat) : Int) (u + 1) (v + 1)) 6 (some 6)), I64 0]) := by
    rw [hwn, hpn, hfn, hS0]; exact tnew_p (p + 1) (u + 1) (v + 1) (by omega) (by omega) (by omega) (by omega) (by omega) (by omega)
  have hcn := new_p (u + 1) (v + 1) 100 (by omega) (by omega) (by omega) (by omega) (by omega)
  have hok0 : S0.Ok := by rw [hS0]; exact blank_ok (by omega) (by omega) (by omega) (by omega) (by omega)
  have hm0 : 2 ≤ S0.most := by rw [hS0]; show 2 ≤ 100; omega
  rw [← hS0] at hcn
  generalize openC (((p + 1) * 1048576 : Nat) : Int) (u + 1) (v + 1) = OC at *
  clear hS0
  have hwr : 0 ≤ wn ∧ wn < 4294967296 := by omega
  have hpr : 0 ≤ pn ∧ pn < 4294967296 := by omega
  have hfew := few_p l hl
  have hpp : ∀ S ty, T.pureL (trmC (trmX wn pn fn S ty)) = true := fun S ty => trm_pure _
  have hps : ∀ S, T.pureL (scrF S) = true := fun S => scr_pure S
  have w32 : ∀ {n : Int}, 0 ≤ n ∧ n < 4294967296 → IntKind.u32.wrap n = n := fun {n} h => by show n.emod _ = n; exact Int.emod_eq_of_lt h.1 h.2
  have hty2 : ∀ S ty, CallP Tryd.prog 25 [trmT (trmX wn pn fn S ty)] (.tup [trmT (trmX wn pn fn S []), strT ty]) := fun S ty => typed_p _
  refine CallP.intro2 au_pu au_pu ?_
  refine CallT.intro tab_ok Tryd.func3 rfl (by kernel_rfl) (Nat.le_of_ble_eq_true rfl) ?_
  refine VC.reg tab_ok [] rfl ?_
  refine VX.meek rfl ?_
  refine VX.nil ?_
  refine VC.seq ?_
  refine VC.reg tab_ok [] rfl ?_
  refine VX.meek rfl ?_
  refine VX.callP0 rfl rfl rfl (hfew) ?_
  refine VX.meek rfl ?_
  refine VX.nil ?_
  refine VC.cond rfl (fun hc0 => ?_) (fun hc0 => ?_)
  · (try simp only [au_std] at hc0)
    refine VC.reg tab_ok [] rfl ?_
    refine VX.callP0 rfl rfl rfl (awake57_p) ?_
    refine VX.meek rfl ?_
    refine VX.nil ?_
    refine VC.ret ?_
    exact ⟨trivial, _, rfl, Cv.eq (by first | rfl | (simp [*]; done)) rfl⟩
  · (try simp only [au_std] at hc0); have hlen : l.length ≤ 20 := (by simp at hc0; omega); have hsl : ∀ a ∈ l, a.s.length ≤ 60 := (by simp at hc0; exact hc0.1)
    refine VC.skip ?_
    refine VC.reg tab_ok [] rfl ?_
    refine VX.meek rfl ?_
    refine VX.meek (t := U8 (p : Int)) (by show some (T.v (.int .u8 ((A : Int).tmod 8)), (none : Option (Nat × List T))) = _; rw [hp]; rfl) ?_
    refine VX.meek (t := I64 (p : Int)) (by show some (T.v (.int .i64 (IntKind.i64.wrap (p : Int))), (none : Option (Nat × List T))) = _; rw [wrap_in (by omega)]) ?_
    refine VX.meek (t := I64 ((p + 1 : Nat) : Int)) (by show some (T.v (.int .i64 (IntKind.i64.wrap ((p : Int) + 1))), (none : Option (Nat × List T))) = _; rw [wrap_in (by omega)]; rfl) ?_
    refine VX.meek rfl ?_
    refine VX.meek (t := U8 (u : Int)) (by show some (T.v (.int .u8 ((B : Int).tmod 32)), (none : Option (Nat × List T))) = _; rw [hu]; rfl) ?_
    refine VX.meek (t := I64 (u : Int)) (by show some (T.v (.int .i64 (IntKind.i64.wrap (u : Int))), (none : Option (Nat × List T))) = _; rw [wrap_in (by omega)]) ?_
    refine VX.meek (t := I64 ((u + 1 : Nat) : Int)) (by show some (T.v (.int .i64 (IntKind.i64.wrap ((u : Int) + 1))), (none : Option (Nat × List T))) = _; rw [wrap_in (by omega)]; rfl) ?_
    refine VX.meek rfl ?_
    refine VX.meek (t := U8 (v : Int)) (by show some (T.v (.int .u8 ((D : Int).tmod 21)), (none : Option (Nat × List T))) = _; rw [hv]; rfl) ?_
    refine VX.meek (t := I64 (v : Int)) (by show some (T.v (.int .i64 (IntKind.i64.wrap (v : Int))), (none : Option (Nat × List T))) = _; rw [wrap_in (by omega)]) ?_
    refine VX.meek (t := I64 ((v + 1 : Nat) : Int)) (by show some (T.v (.int .i64 (IntKind.i64.wrap ((v : Int) + 1))), (none : Option (Nat × List T))) = _; rw [wrap_in (by omega)]; rfl) ?_
    iterate 3 refine VX.meek rfl ?_
    refine VX.nil ?_
    refine VC.reg tab_ok [] rfl ?_
    iterate 3 refine VX.meek rfl ?_
    refine VX.callP0 rfl rfl rfl (hnew) ?_
    iterate 4 refine VX.meek rfl ?_
    refine VX.new rfl rfl ?_
    refine VX.store rfl rfl rfl rfl rfl au_sY rfl ?_
    iterate 2 refine VX.meek rfl ?_
    refine VX.nil ?_
    refine VC.reg tab_ok [] rfl ?_
    iterate 2 refine VX.meek rfl ?_
    refine VX.callP0 rfl rfl rfl (hcn) ?_
    iterate 3 refine VX.meek rfl ?_
    refine VX.new rfl rfl ?_
    refine VX.store rfl rfl rfl rfl rfl au_sY rfl ?_
    refine VX.meek rfl ?_
    refine VX.nil ?_
    refine VC.reg tab_ok [] rfl ?_
    refine VX.meek rfl ?_
    refine VX.meek (t := I64 (((p + 1) * 1048576 : Nat) : Int)) (by show some (T.v (.int .i64 (IntKind.i64.wrap (((p + 1 : Nat) : Int) * 1048576))), (none : Option (Nat × List T))) = _; rw [wrap_in (by omega)]; rfl) ?_
    refine VX.meek (t := I64 wn) (by show some (T.v (.int .i64 (IntKind.i64.wrap ((((p + 1) * 1048576 : Nat) : Int) + 1))), (none : Option (Nat × List T))) = _; rw [wrap_in (by omega), hwn]) ?_
    refine VX.meek (t := U32 wn) (by show some (T.v (.int .u32 (IntKind.u32.wrap wn)), (none : Option (Nat × List T))) = _; rw [w32 hwr]) ?_
    refine VX.meek rfl ?_
    refine VX.meek (t := I64 (((p + 1) * 1048576 : Nat) : Int)) (by show some (T.v (.int .i64 (IntKind.i64.wrap (((p + 1 : Nat) : Int) * 1048576))), (none : Option (Nat × List T))) = _; rw [wrap_in (by omega)]; rfl) ?_
    refine VX.meek (t := I64 pn) (by show some (T.v (.int .i64 (IntKind.i64.wrap ((((p + 1) * 1048576 : Nat) : Int) + 2))), (none : Option (Nat × List T))) = _; rw [wrap_in (by omega), hpn]) ?_
    refine VX.meek (t := U32 pn) (by show some (T.v (.int .u32 (IntKind.u32.wrap pn)), (none : Option (Nat × List T))) = _; rw [w32 hpr]) ?_
    iterate 3 refine VX.meek rfl ?_
    refine VX.nil ?_
    refine VC.seq ?_
    refine VC.reg tab_ok [] rfl ?_
    iterate 3 refine VX.meek rfl ?_
    refine' VX.merge (d := 78) [_, _, _] rfl ?_ rfl ?_
    rotate_left
    · refine VX.guard rfl rfl (fun hb7_2 => ?_) (fun hb7_2 => ?_)
      · have ghb7_2 := hb7_2
        try simp only [au_std, Bool.not_true, Bool.not_false] at ghb7_2
        refine VX.meek rfl ?_
        refine VX.guardT rfl rfl hb7_2 ?_
        refine VX.meek rfl ?_
        refine VX.pickO rfl (fun _ => rfl) ?_
        exact VX.nil ⟨rfl, rfl⟩
      · refine VX.guardF rfl rfl hb7_2 ?_
        exact VX.pickO rfl (fun h => absurd (h.symm.trans hb7_2) (by decide)) (VX.nil ⟨rfl, rfl⟩)
    refine VX.nil ?_
    refine VC.cond rfl (fun hc1 => ?_) (fun hc1 => ?_)
    · exact absurd hc1 (by decide)
    · (try simp only [au_std] at hc1)
      refine VC.skip ?_
      refine VC.seq ?_
      refine VC.reg tab_ok [] rfl ?_
      iterate 3 refine VX.meek rfl ?_
      refine VX.nil ?_
      refine VC.block ?_
      refine VC.loopS3 (σ1 := Nat) (σ2 := Scr) (σ3 := List UInt8) (fun i _ _ => l.length - i) (fun i S ty => i ≤ l.length ∧ S.Ok ∧ 2 ≤ S.most ∧ ty.length ≤ i) (fun i S ty => [(81, I64 i), (12, .ptr 0 0), (15, .ptr 1 0), (19, strT ty)]) (fun i S ty => [.c (trmC (trmX wn pn fn S ty)), .c (scrF S)]) [17, 18, 79, 80] rfl (0) (S0) ([]) ?_ ?_ ?_
      · refine ⟨[some 0, some 1], rfl, by first | trivial | decide, rfl, ?_, ?_⟩ <;> (repeat' first | exact trivial | exact CvB_n | exact CvB_d | exact CvB_o rfl | refine CvE_app ?_ ?_ | refine CvE_cons rfl ?_ ?_ | refine CvH_cons ?_ ?_ | refine CvB_c rfl ?_ | fail) <;> first | exact au_v | (first | exact CvL.pure (hpp _ _) | exact CvL.pure (hps _) | exact CvL.eq (by kernel_rfl) (hpp _ _) | exact CvL.eq (by kernel_rfl) (hps _))
      · exact ⟨Nat.zero_le _, hok0, hm0, Nat.le_refl _⟩
      rintro i S ty ⟨hi, hS, hm, hty⟩
      refine VC.reg tab_ok [] rfl ?_
      refine VX.meek rfl ?_
      refine VX.nil ?_
      refine VC.seq ?_
      refine VC.cond rfl (fun hc2 => ?_) (fun hc2 => ?_)
      · (try simp only [au_std] at hc2); have hil : i < l.length := (by omega)
        have hmem : l[i]! ∈ l := List.mem_iff_getElem?.2 ⟨i, getE hil⟩
        have hao := hok _ hmem
        have hasl := hsl _ hmem
        obtain ⟨had, hay, hah, hac, ham⟩ := hao
        have htc := tcells_p (trmX wn pn fn S ty)
        have hr2 := hS.r2
        refine VC.skip ?_
        refine VC.seq ?_
        refine VC.block ?_
        refine VC.reg tab_ok [] rfl ?_
        first | refine VX.idxI rfl rfl rfl rfl rfl rfl (by omega) ?_ | refine VX.idxO0 rfl rfl rfl rfl rfl rfl rfl (by omega) ?_ | refine VX.idxO0 rfl rfl rfl rfl rfl rfl au_z (by omega) ?_ | refine VX.idxO rfl rfl rfl rfl rfl rfl rfl (by omega) ?_ | refine VX.idxI rfl rfl rfl rfl rfl au_z (by omega) ?_ | refine VX.idxO rfl rfl rfl rfl rfl rfl au_z (by omega) ?_ | refine VX.meek rfl ?_
        first | refine VX.meek rfl ?_ | refine VX.loadI rfl rfl au_l ?_ | refine VX.loadP rfl rfl rfl au_l ?_
        refine VX.new rfl rfl ?_
        refine VX.store rfl rfl rfl rfl rfl au_sY rfl ?_
        refine VX.nil ?_
        refine VC.view ([(21, .iptr (actC l[i]!.d l[i]!.s l[i]!.y l[i]!.h l[i]!.c l[i]!.m) 0), (12, .ptr 0 0), (15, .ptr 1 0)]) ([.c (trmC (trmX wn pn fn S ty)), .c (scrF S)]) [17, 18, 19, 79, 80, 81] rfl (by refine ⟨[some 0, some 1], rfl, by first | trivial | decide, rfl, ?_, ?_⟩ <;> (repeat' first | exact trivial | exact CvB_n | exact CvB_d | exact CvB_o rfl | refine CvE_app ?_ ?_ | refine CvE_cons rfl ?_ ?_ | refine CvH_cons ?_ ?_ | refine CvB_c rfl ?_ | fail) <;> first | exact au_v | (first | exact Cv.fptr ⟨rfl, by simp⟩ (CvL.eq rfl rfl) | exact CvL.pure (hpp _ _) | exact CvL.pure (hps _))) ?_
        refine VC.reg tab_ok [] rfl ?_
        first | refine VX.meek rfl ?_ | refine VX.loadI rfl rfl au_l ?_ | refine VX.loadP rfl rfl rfl au_l ?_
        refine VX.new rfl rfl ?_
        refine VX.store rfl rfl rfl rfl rfl au_sY rfl ?_
        refine VX.meek rfl ?_
        refine VX.nil ?_
        refine VC.view ([(22, .iptr (scrF S) 0), (12, .ptr 0 0), (15, .ptr 1 0)]) ([.c (trmC (trmX wn pn fn S ty)), .c (scrF S)]) [17, 18, 19, 21, 23, 79, 80, 81] rfl (by refine ⟨[some 0, some 1], rfl, by first | trivial | decide, rfl, ?_, ?_⟩ <;> (repeat' first | exact trivial | exact CvB_n | exact CvB_d | exact CvB_o rfl | refine CvE_app ?_ ?_ | refine CvE_cons rfl ?_ ?_ | refine CvH_cons ?_ ?_ | refine CvB_c rfl ?_ | fail) <;> first | exact au_v | (first | exact Cv.fptr ⟨rfl, by simp⟩ (CvL.eq rfl (hps _)) | exact CvL.pure (hpp _ _) | exact CvL.pure (hps _))) ?_
        refine VC.reg tab_ok [] rfl ?_
        refine VX.meek rfl ?_
        refine VX.nil ?_
        refine VC.seq ?_
        refine VC.reg tab_ok [] rfl ?_
        refine VX.meek rfl ?_
        first | refine VX.meek rfl ?_ | refine VX.loadI rfl rfl au_l ?_ | refine VX.loadP rfl rfl rfl au_l ?_
        refine VX.meek rfl ?_
        refine VX.nil ?_
        refine VC.block ?_
        refine VC.reg tab_ok [] rfl ?_
        iterate 2 refine VX.meek rfl ?_
        refine VX.nil ?_
        refine VC.cond rfl (fun hc3 => ?_) (fun hc3 => ?_)
        · (try simp only [au_std] at hc3); have hd : l[i]!.d.tmod 4 = 2 := hc3
          have hrw := rows57_p S wn pn 13 [.iptr (actC l[i]!.d l[i]!.s l[i]!.y l[i]!.h l[i]!.c l[i]!.m) 0] (askE l[i]!.y l[i]!.h) hS hwr hpr rfl (fun k hk => clo1_p _ _ _ _ _ _ k (by omega) hay hah)
          have hout := oute_p l[i]!.d l[i]!.s l[i]!.y l[i]!.h l[i]!.c l[i]!.m wn hd hay hah hwr
          have hst := tstepE_p wn pn fn S ty l[i]!.y l[i]!.h hS hay hah
          rw [rows_acc ⟨true, wn, pn, fn, S, ty⟩ (askE l[i]!.y l[i]!.h) hS] at hst
          have hsame := same_p (rowsL S wn pn (askE l[i]!.y l[i]!.h) S.rows) (by have := rowsL_len S wn pn (askE l[i]!.y l[i]!.h) S.rows; omega) rowsL_small
          have htx := text_p S hS
          refine VC.reg tab_ok [] rfl ?_
          first | refine VX.meek rfl ?_ | refine VX.loadI rfl rfl au_l ?_ | refine VX.loadP rfl rfl rfl au_l ?_
          iterate 3 refine VX.meek rfl ?_
          refine VX.callP0 rfl rfl rfl (hrw) ?_
          refine VX.meek rfl ?_
          refine VX.nil ?_
          refine VC.drwTN tab_ok [] [_, _, _, _, _, _, _, _, _] [true, true, true, true, true, true, true, false, false] rfl (by kernel_rfl) (by kernel_rfl) (by kernel_rfl) (by kernel_rfl) ?_
          refine VT.seg true (l1 := [_, _, _, _, _, _, _]) rfl ?_
          first | refine VX.meek rfl ?_ | refine VX.loadI rfl rfl au_l ?_ | refine VX.loadP rfl rfl rfl au_l ?_
          first | refine VX.meek rfl ?_ | refine VX.loadI rfl rfl au_l ?_ | refine VX.loadP rfl rfl rfl au_l ?_
          refine VX.meek rfl ?_
          refine VX.callP0 rfl rfl rfl (hout) ?_
          refine VX.callP0 rfl rfl rfl (hst) ?_
          iterate 2 refine VX.meek rfl ?_
          refine VX.nil ⟨rfl, ?_⟩
          refine VT.seg false (l1 := [_]) rfl ?_
          refine VX.meek rfl ?_
          refine VX.nil ⟨rfl, ?_⟩
          refine VT.sto rfl rfl rfl rfl ?_
          refine VT.nil (⟨Nat.le_of_ble_eq_true rfl, rfl, trivial⟩) ⟨rfl, ?_⟩
          refine VX.meek rfl ?_
          refine VX.nil ?_
          refine VC.drw tab_ok [] [_, _, _, _, _, _, _, _, _, _, _, _] rfl (by kernel_rfl) (by kernel_rfl) ?_
          iterate 2 refine VX.meek rfl ?_
          refine VX.callP rfl rfl (hsame) au_wk au_pu ?_
          iterate 2 refine VX.meek rfl ?_
          refine' VX.merge (d := 208) [_, _, _, _, _, _, _] rfl ?_ rfl ?_
          rotate_left
          · refine VX.guard rfl rfl (fun hb33_4 => ?_) (fun hb33_4 => ?_)
            · have ghb33_4 := hb33_4
              try simp only [au_std, Bool.not_true, Bool.not_false] at ghb33_4
              first | refine VX.meek rfl ?_ | refine VX.loadI rfl rfl au_l ?_ | refine VX.loadP rfl rfl rfl au_l ?_
              refine VX.guardT rfl rfl hb33_4 ?_
              refine VX.callP0 rfl rfl rfl (htc) ?_
              refine VX.guardT rfl rfl hb33_4 ?_
              refine VX.callP0 rfl rfl rfl (htx) ?_
              refine VX.guardT rfl rfl hb33_4 ?_
              first | refine VX.meek rfl ?_ | refine VX.loadI rfl rfl au_l ?_ | refine VX.loadP rfl rfl rfl au_l ?_
              refine VX.guardT rfl rfl hb33_4 ?_
              refine VX.callP0 rfl rfl rfl (htx) ?_
              refine VX.guardT rfl rfl hb33_4 ?_
              refine VX.strNeq rfl rfl ?_
              refine VX.pickO rfl (fun _ => rfl) ?_
              exact VX.nil ⟨rfl, rfl⟩
            · refine VX.guardF rfl rfl hb33_4 ?_
              refine VX.guardF rfl rfl hb33_4 ?_
              refine VX.guardF rfl rfl hb33_4 ?_
              refine VX.guardF rfl rfl hb33_4 ?_
              refine VX.guardF rfl rfl hb33_4 ?_
              exact VX.pickO rfl (fun h => absurd (h.symm.trans hb33_4) (by decide)) (VX.nil ⟨rfl, rfl⟩)
          refine VX.nil ?_
          refine VX.nil ?_
          refine VC.cond rfl (fun hc8 => ?_) (fun hc8 => ?_)
          · exact absurd hc8 (by simp)
          · skip
            refine VC.skip ?_
            refine VC.regN tab_ok [] rfl ?_
            first | refine VX.add rfl rfl (by omega) ?_ | refine VX.meek rfl ?_
            refine VX.meek rfl ?_
            refine VX.nil ?_
            refine ⟨i + 1, S, ty, by (try dsimp only); omega, ?_, (by refine ⟨[some 0, some 1], rfl, by first | trivial | decide, rfl, ?_, ?_⟩ <;> (repeat' first | exact trivial | exact CvB_n | exact CvB_d | exact CvB_o rfl | refine CvE_app ?_ ?_ | refine CvE_cons rfl ?_ ?_ | refine CvH_cons ?_ ?_ | refine CvB_c rfl ?_ | fail) <;> first | exact au_v | (first | exact CvL.pure (hpp _ _) | exact CvL.pure (hps _) | exact CvL.eq (by kernel_rfl) (hpp _ _)))⟩
            exact ⟨by omega, hS, hm, by omega⟩
        · (try simp only [au_std] at hc3); have hd : l[i]!.d.tmod 4 ≠ 2 := hc3
          refine VC.reg tab_ok [] rfl ?_
          iterate 2 refine VX.meek rfl ?_
          refine VX.nil ?_
          refine VC.cond rfl (fun hc4 => ?_) (fun hc4 => ?_)
          · (try simp only [au_std] at hc4); have hout := outk_p l[i]!.d l[i]!.s l[i]!.y l[i]!.h l[i]!.c l[i]!.m wn hd hac ham hwr
            have hst := tstep_p wn pn fn S ty l[i]!.c l[i]!.m ham (by omega)
            have hle := letter_p l[i]!.c (l[i]!.m % 256)
            rw [lbU_eq] at hle
            have hsame : CallP Tryd.prog 22 [.islc [] 0 none, .islc [] 0 none] (BL true) := same_p [] (by simp) (by simp)
            have htx := text_p S hS
            have ha1 := and255 ham
            have ha2 := and255u ham
            have htl := @typ_l ty l[i]!.c (l[i]!.m % 256) (by omega)
            have hts := @typ_s ty l[i]!.c (by omega)
            have htn := @typ_n ty l[i]!.c (l[i]!.m % 256) (by omega)
            obtain ⟨ty2, hty2e⟩ : ∃ t, t = typ ty l[i]!.c (l[i]!.m % 256) := ⟨_, rfl⟩
            rw [← hty2e] at hst htl htn
            replace htc := tcells_p (trmX wn pn fn S ty2)
            refine VC.drwT tab_ok [] [_, _, _, _, _, _, _, _, _] [true, true, true, true, true, true, true, false, false] rfl (by kernel_rfl) (by kernel_rfl) (by kernel_rfl) (by kernel_rfl) ?_
            refine VT.seg true (l1 := [_, _, _, _, _, _, _]) rfl ?_
            first | refine VX.meek rfl ?_ | refine VX.loadI rfl rfl au_l ?_ | refine VX.loadP rfl rfl rfl au_l ?_
            first | refine VX.meek rfl ?_ | refine VX.loadI rfl rfl au_l ?_ | refine VX.loadP rfl rfl rfl au_l ?_
            refine VX.meek rfl ?_
            refine VX.callP0 rfl rfl rfl (hout) ?_
            refine VX.callP0 rfl rfl rfl (hst) ?_
            iterate 2 refine VX.meek rfl ?_
            refine VX.nil ⟨rfl, ?_⟩
            refine VT.seg false (l1 := [_]) rfl ?_
            refine VX.meek rfl ?_
            refine VX.nil ⟨rfl, ?_⟩
            refine VT.sto rfl rfl rfl rfl ?_
            refine VT.nil (⟨Nat.le_of_ble_eq_true rfl, rfl, trivial⟩) ⟨rfl, ?_⟩
            refine VX.meek rfl ?_
            refine VX.nil ?_
            refine VC.reg tab_ok [] rfl ?_
            refine VX.meek rfl ?_
            first | refine VX.meek rfl ?_ | refine VX.loadI rfl rfl au_l ?_ | refine VX.loadP rfl rfl rfl au_l ?_
            refine VX.meek (t := I64 l[i]!.c) (by show some (T.v (.int .i64 (IntKind.i64.wrap l[i]!.c)), (none : Option (Nat × List T))) = _; rw [wrap_in (by omega)]) ?_
            refine VX.meek rfl ?_
            first | refine VX.meek rfl ?_ | refine VX.loadI rfl rfl au_l ?_ | refine VX.loadP rfl rfl rfl au_l ?_
            refine VX.meek (t := I64 l[i]!.m) (by show some (T.v (.int .i64 (IntKind.i64.wrap l[i]!.m)), (none : Option (Nat × List T))) = _; rw [wrap_in (by omega)]) ?_
            refine VX.meek (t := I64 (l[i]!.m % 256)) (by show some (T.v (.int .i64 (bitV .and .i64 l[i]!.m 255)), (none : Option (Nat × List T))) = _; rw [ha1]) ?_
            refine VX.callP0 rfl rfl rfl (hle) ?_
            iterate 5 refine VX.meek rfl ?_
            refine VX.nil ?_
            refine VC.reg tab_ok [] rfl ?_
            refine VX.meek rfl ?_
            refine VX.nil ?_
            refine VC.cond rfl (fun hc5 => ?_) (fun hc5 => ?_)
            · (try simp only [au_std] at hc5); have hT := htl hc5; have hTl : ty2.length ≤ i + 1 := (by rw [hT, List.length_append]; simp; omega)
              refine VC.regN tab_ok [162] rfl ?_
              iterate 2 refine VX.meek rfl ?_
              refine VX.newI rfl rfl ?_
              first | refine VX.strI (xs := [lbU l[i]!.c (l[i]!.m % 256)]) rfl rfl rfl rfl rfl rfl rfl (Nat.le_of_ble_eq_true rfl) rfl ?_ | refine VX.strY (xs := [lbU l[i]!.c (l[i]!.m % 256)]) rfl rfl rfl rfl rfl rfl rfl rfl (Nat.le_of_ble_eq_true rfl) rfl ?_
              refine VX.strAdd (a := ty) (b := [lbU l[i]!.c (l[i]!.m % 256)]) rfl rfl (by show ty.length + 1 < _; omega) ?_
              refine VX.meek rfl ?_
              refine VX.nil ?_
              refine VC.drw tab_ok [] [_, _, _, _, _, _, _, _, _, _, _, _] rfl (by kernel_rfl) (by kernel_rfl) ?_
              iterate 2 refine VX.meek rfl ?_
              refine VX.callP rfl rfl (hsame) au_wk au_pu ?_
              iterate 2 refine VX.meek rfl ?_
              refine' VX.merge (d := 208) [_, _, _, _, _, _, _] rfl ?_ rfl ?_
              rotate_left
              · refine VX.guard rfl rfl (fun hb33_4 => ?_) (fun hb33_4 => ?_)
                · have ghb33_4 := hb33_4
                  try simp only [au_std, Bool.not_true, Bool.not_false] at ghb33_4
                  first | refine VX.meek rfl ?_ | refine VX.loadI rfl rfl au_l ?_ | refine VX.loadP rfl rfl rfl au_l ?_
                  refine VX.guardT rfl rfl hb33_4 ?_
                  refine VX.callP0 rfl rfl rfl (htc) ?_
                  refine VX.guardT rfl rfl hb33_4 ?_
                  refine VX.callP0 rfl rfl rfl (htx) ?_
                  refine VX.guardT rfl rfl hb33_4 ?_
                  first | refine VX.meek rfl ?_ | refine VX.loadI rfl rfl au_l ?_ | refine VX.loadP rfl rfl rfl au_l ?_
                  refine VX.guardT rfl rfl hb33_4 ?_
                  refine VX.callP0 rfl rfl rfl (htx) ?_
                  refine VX.guardT rfl rfl hb33_4 ?_
                  refine VX.strNeq rfl rfl ?_
                  refine VX.pickO rfl (fun _ => rfl) ?_
                  exact VX.nil ⟨rfl, rfl⟩
                · refine VX.guardF rfl rfl hb33_4 ?_
                  refine VX.guardF rfl rfl hb33_4 ?_
                  refine VX.guardF rfl rfl hb33_4 ?_
                  refine VX.guardF rfl rfl hb33_4 ?_
                  refine VX.guardF rfl rfl hb33_4 ?_
                  exact VX.pickO rfl (fun h => absurd (h.symm.trans hb33_4) (by decide)) (VX.nil ⟨rfl, rfl⟩)
              refine VX.nil ?_
              refine VX.nil ?_
              refine VC.cond rfl (fun hc8 => ?_) (fun hc8 => ?_)
              · exact absurd hc8 (by simp)
              · skip
                refine VC.skip ?_
                refine VC.regN tab_ok [] rfl ?_
                first | refine VX.add rfl rfl (by omega) ?_ | refine VX.meek rfl ?_
                refine VX.meek rfl ?_
                refine VX.nil ?_
                refine ⟨i + 1, S, ty2, by (try dsimp only); omega, ?_, (by refine ⟨[some 0, some 1], rfl, by first | trivial | decide, rfl, ?_, ?_⟩ <;> (repeat' first | exact trivial | exact CvB_n | exact CvB_d | exact CvB_o rfl | refine CvE_app ?_ ?_ | refine CvE_cons rfl ?_ ?_ | refine CvH_cons ?_ ?_ | refine CvB_c rfl ?_ | fail) <;> first | exact au_v | (first | exact CvL.pure (hpp _ _) | exact CvL.pure (hps _) | exact CvL.eq (by kernel_rfl) (hpp _ _) | exact Cv.eq (by rw [hT]) rfl))⟩
                exact ⟨by omega, hS, hm, hTl⟩
            · (try simp only [au_std] at hc5); skip
              refine VC.reg tab_ok [] rfl ?_
              refine VX.meek rfl ?_
              first | refine VX.meek rfl ?_ | refine VX.loadI rfl rfl au_l ?_ | refine VX.loadP rfl rfl rfl au_l ?_
              refine VX.meek (t := U16 (l[i]!.m % 256)) (by show some (T.v (.int .u16 (bitV .and .u16 l[i]!.m 255)), (none : Option (Nat × List T))) = _; rw [ha2]) ?_
              iterate 2 refine VX.meek rfl ?_
              refine' VX.merge (d := 178) [_, _, _, _, _, _, _, _, _] rfl ?_ rfl ?_
              rotate_left
              · refine VX.guard rfl rfl (fun hb29_4 => ?_) (fun hb29_4 => ?_)
                · have ghb29_4 := hb29_4
                  try simp only [au_std, Bool.not_true, Bool.not_false] at ghb29_4
                  refine VX.meek rfl ?_
                  refine VX.guardT rfl rfl hb29_4 ?_
                  first | refine VX.meek rfl ?_ | refine VX.loadI rfl rfl au_l ?_ | refine VX.loadP rfl rfl rfl au_l ?_
                  refine VX.guardT rfl rfl hb29_4 ?_
                  refine VX.meek rfl ?_
                  refine VX.guardT rfl rfl hb29_4 ?_
                  refine VX.meek rfl ?_
                  refine' VX.merge (d := 177) [_, _, _, _] rfl ?_ rfl ?_
                  rotate_left
                  · refine VX.guard rfl rfl (fun hb29_8 => ?_) (fun hb29_8 => ?_)
                    · have ghb29_8 := hb29_8
                      try simp only [au_std, Bool.not_true, Bool.not_false] at ghb29_8
                      refine VX.meek rfl ?_
                      refine VX.guardT rfl rfl hb29_8 ?_
                      first | refine VX.meek rfl ?_ | refine VX.loadI rfl rfl au_l ?_ | refine VX.loadP rfl rfl rfl au_l ?_
                      refine VX.guardT rfl rfl hb29_8 ?_
                      refine VX.meek rfl ?_
                      refine VX.guardT rfl rfl hb29_4 ?_
                      refine VX.pickO rfl (fun _ => rfl) ?_
                      exact VX.nil ⟨rfl, rfl⟩
                    · refine VX.guardF rfl rfl hb29_8 ?_
                      refine VX.guardF rfl rfl hb29_8 ?_
                      refine VX.guardT rfl rfl hb29_4 ?_
                      exact VX.pickO rfl (fun h => absurd (h.symm.trans hb29_8) (by decide)) (VX.nil ⟨rfl, rfl⟩)
                  refine VX.pickA rfl (fun _ => rfl) ?_
                  exact VX.nil ⟨rfl, rfl⟩
                · refine VX.guardF rfl rfl hb29_4 ?_
                  refine VX.guardF rfl rfl hb29_4 ?_
                  refine VX.guardF rfl rfl hb29_4 ?_
                  refine VX.guardU rfl rfl ?_
                  refine VX.guardU rfl rfl ?_
                  refine VX.guardU rfl rfl ?_
                  refine VX.guardF rfl rfl hb29_4 ?_
                  exact VX.pickA rfl (fun h => absurd (h.symm.trans hb29_4) (by decide)) (VX.nil ⟨rfl, rfl⟩)
              refine VX.nil ?_
              refine VC.cond rfl (fun hc6 => ?_) (fun hc6 => ?_)
              · (try simp only [au_std] at hc6); have hsok : sok l[i]!.c = true := (by rcases hc6.2 with h | h <;> rw [h] <;> rfl)
                have hsbe : sbU l[i]!.c = UInt8.ofNat l[i]!.c.toNat := (by unfold sbU sby; rcases hc6.2 with h | h <;> rw [h] <;> rfl)
                have hT : ty2 = ty ++ [sbU l[i]!.c] := (by rw [hty2e, hc6.1]; exact hts hsok); have hTl : ty2.length ≤ i + 1 := (by rw [hT, List.length_append]; simp; omega)
                have hcv : IntKind.u8.wrap l[i]!.c = ((sbU l[i]!.c).toNat : Int) := (by rcases hc6.2 with h | h <;> rw [h] <;> rfl)
                refine VC.regN tab_ok [183] rfl ?_
                iterate 2 refine VX.meek rfl ?_
                first | refine VX.meek rfl ?_ | refine VX.loadI rfl rfl au_l ?_ | refine VX.loadP rfl rfl rfl au_l ?_
                refine VX.meek (t := U8 ((sbU l[i]!.c).toNat : Int)) (by show some (T.v (.int .u8 (IntKind.u8.wrap l[i]!.c)), (none : Option (Nat × List T))) = _; rw [hcv]) ?_
                refine VX.newI rfl rfl ?_
                first | refine VX.strI (xs := [sbU l[i]!.c]) rfl rfl rfl rfl rfl rfl rfl (Nat.le_of_ble_eq_true rfl) rfl ?_ | refine VX.strY (xs := [sbU l[i]!.c]) rfl rfl rfl rfl rfl rfl rfl rfl (Nat.le_of_ble_eq_true rfl) rfl ?_
                refine VX.strAdd (a := ty) (b := [sbU l[i]!.c]) rfl rfl (by show ty.length + 1 < _; omega) ?_
                refine VX.meek rfl ?_
                refine VX.nil ?_
                refine VC.drw tab_ok [] [_, _, _, _, _, _, _, _, _, _, _, _] rfl (by kernel_rfl) (by kernel_rfl) ?_
                iterate 2 refine VX.meek rfl ?_
                refine VX.callP rfl rfl (hsame) au_wk au_pu ?_
                iterate 2 refine VX.meek rfl ?_
                refine' VX.merge (d := 208) [_, _, _, _, _, _, _] rfl ?_ rfl ?_
                rotate_left
                · refine VX.guard rfl rfl (fun hb33_4 => ?_) (fun hb33_4 => ?_)
                  · have ghb33_4 := hb33_4
                    try simp only [au_std, Bool.not_true, Bool.not_false] at ghb33_4
                    first | refine VX.meek rfl ?_ | refine VX.loadI rfl rfl au_l ?_ | refine VX.loadP rfl rfl rfl au_l ?_
                    refine VX.guardT rfl rfl hb33_4 ?_
                    refine VX.callP0 rfl rfl rfl (htc) ?_
                    refine VX.guardT rfl rfl hb33_4 ?_
                    refine VX.callP0 rfl rfl rfl (htx) ?_
                    refine VX.guardT rfl rfl hb33_4 ?_
                    first | refine VX.meek rfl ?_ | refine VX.loadI rfl rfl au_l ?_ | refine VX.loadP rfl rfl rfl au_l ?_
                    refine VX.guardT rfl rfl hb33_4 ?_
                    refine VX.callP0 rfl rfl rfl (htx) ?_
                    refine VX.guardT rfl rfl hb33_4 ?_
                    refine VX.strNeq rfl rfl ?_
                    refine VX.pickO rfl (fun _ => rfl) ?_
                    exact VX.nil ⟨rfl, rfl⟩
                  · refine VX.guardF rfl rfl hb33_4 ?_
                    refine VX.guardF rfl rfl hb33_4 ?_
                    refine VX.guardF rfl rfl hb33_4 ?_
                    refine VX.guardF rfl rfl hb33_4 ?_
                    refine VX.guardF rfl rfl hb33_4 ?_
                    exact VX.pickO rfl (fun h => absurd (h.symm.trans hb33_4) (by decide)) (VX.nil ⟨rfl, rfl⟩)
                refine VX.nil ?_
                refine VX.nil ?_
                refine VC.cond rfl (fun hc8 => ?_) (fun hc8 => ?_)
                · exact absurd hc8 (by simp)
                · skip
                  refine VC.skip ?_
                  refine VC.regN tab_ok [] rfl ?_
                  first | refine VX.add rfl rfl (by omega) ?_ | refine VX.meek rfl ?_
                  refine VX.meek rfl ?_
                  refine VX.nil ?_
                  refine ⟨i + 1, S, ty2, by (try dsimp only); omega, ?_, (by refine ⟨[some 0, some 1], rfl, by first | trivial | decide, rfl, ?_, ?_⟩ <;> (repeat' first | exact trivial | exact CvB_n | exact CvB_d | exact CvB_o rfl | refine CvE_app ?_ ?_ | refine CvE_cons rfl ?_ ?_ | refine CvH_cons ?_ ?_ | refine CvB_c rfl ?_ | fail) <;> first | exact au_v | (first | exact CvL.pure (hpp _ _) | exact CvL.pure (hps _) | exact CvL.eq (by kernel_rfl) (hpp _ _) | exact Cv.eq (by rw [hT]) rfl))⟩
                  exact ⟨by omega, hS, hm, hTl⟩
              · (try simp only [au_std] at hc6); skip
                refine VC.reg tab_ok [] rfl ?_
                refine VX.meek rfl ?_
                first | refine VX.meek rfl ?_ | refine VX.loadI rfl rfl au_l ?_ | refine VX.loadP rfl rfl rfl au_l ?_
                refine VX.meek (t := U16 (l[i]!.m % 256)) (by show some (T.v (.int .u16 (bitV .and .u16 l[i]!.m 255)), (none : Option (Nat × List T))) = _; rw [ha2]) ?_
                iterate 2 refine VX.meek rfl ?_
                refine' VX.merge (d := 194) [_, _, _, _] rfl ?_ rfl ?_
                rotate_left
                · refine VX.guard rfl rfl (fun hb31_4 => ?_) (fun hb31_4 => ?_)
                  · have ghb31_4 := hb31_4
                    try simp only [au_std, Bool.not_true, Bool.not_false] at ghb31_4
                    refine VX.meek rfl ?_
                    refine VX.guardT rfl rfl hb31_4 ?_
                    first | refine VX.meek rfl ?_ | refine VX.loadI rfl rfl au_l ?_ | refine VX.loadP rfl rfl rfl au_l ?_
                    refine VX.guardT rfl rfl hb31_4 ?_
                    refine VX.meek rfl ?_
                    refine VX.pickA rfl (fun _ => rfl) ?_
                    exact VX.nil ⟨rfl, rfl⟩
                  · refine VX.guardF rfl rfl hb31_4 ?_
                    refine VX.guardF rfl rfl hb31_4 ?_
                    exact VX.pickA rfl (fun h => absurd (h.symm.trans hb31_4) (by decide)) (VX.nil ⟨rfl, rfl⟩)
                refine VX.nil ?_
                refine VC.cond rfl (fun hc7 => ?_) (fun hc7 => ?_)
                · (try simp only [au_std] at hc7); have hT : ty2 = ty ++ [10] := (by rw [hty2e, hc7.1]; have := hts (by rw [hc7.2]; rfl); rw [this, hc7.2]; rfl); have hTl : ty2.length ≤ i + 1 := (by rw [hT, List.length_append]; simp; omega)
                  refine VC.regN tab_ok [] rfl ?_
                  refine VX.meek rfl ?_
                  refine VX.strAdd (a := ty) (b := [10]) rfl rfl (by show ty.length + 1 < _; omega) ?_
                  refine VX.meek rfl ?_
                  refine VX.nil ?_
                  refine VC.drw tab_ok [] [_, _, _, _, _, _, _, _, _, _, _, _] rfl (by kernel_rfl) (by kernel_rfl) ?_
                  iterate 2 refine VX.meek rfl ?_
                  refine VX.callP rfl rfl (hsame) au_wk au_pu ?_
                  iterate 2 refine VX.meek rfl ?_
                  refine' VX.merge (d := 208) [_, _, _, _, _, _, _] rfl ?_ rfl ?_
                  rotate_left
                  · refine VX.guard rfl rfl (fun hb33_4 => ?_) (fun hb33_4 => ?_)
                    · have ghb33_4 := hb33_4
                      try simp only [au_std, Bool.not_true, Bool.not_false] at ghb33_4
                      first | refine VX.meek rfl ?_ | refine VX.loadI rfl rfl au_l ?_ | refine VX.loadP rfl rfl rfl au_l ?_
                      refine VX.guardT rfl rfl hb33_4 ?_
                      refine VX.callP0 rfl rfl rfl (htc) ?_
                      refine VX.guardT rfl rfl hb33_4 ?_
                      refine VX.callP0 rfl rfl rfl (htx) ?_
                      refine VX.guardT rfl rfl hb33_4 ?_
                      first | refine VX.meek rfl ?_ | refine VX.loadI rfl rfl au_l ?_ | refine VX.loadP rfl rfl rfl au_l ?_
                      refine VX.guardT rfl rfl hb33_4 ?_
                      refine VX.callP0 rfl rfl rfl (htx) ?_
                      refine VX.guardT rfl rfl hb33_4 ?_
                      refine VX.strNeq rfl rfl ?_
                      refine VX.pickO rfl (fun _ => rfl) ?_
                      exact VX.nil ⟨rfl, rfl⟩
                    · refine VX.guardF rfl rfl hb33_4 ?_
                      refine VX.guardF rfl rfl hb33_4 ?_
                      refine VX.guardF rfl rfl hb33_4 ?_
                      refine VX.guardF rfl rfl hb33_4 ?_
                      refine VX.guardF rfl rfl hb33_4 ?_
                      exact VX.pickO rfl (fun h => absurd (h.symm.trans hb33_4) (by decide)) (VX.nil ⟨rfl, rfl⟩)
                  refine VX.nil ?_
                  refine VX.nil ?_
                  refine VC.cond rfl (fun hc8 => ?_) (fun hc8 => ?_)
                  · exact absurd hc8 (by simp)
                  · skip
                    refine VC.skip ?_
                    refine VC.regN tab_ok [] rfl ?_
                    first | refine VX.add rfl rfl (by omega) ?_ | refine VX.meek rfl ?_
                    refine VX.meek rfl ?_
                    refine VX.nil ?_
                    refine ⟨i + 1, S, ty2, by (try dsimp only); omega, ?_, (by refine ⟨[some 0, some 1], rfl, by first | trivial | decide, rfl, ?_, ?_⟩ <;> (repeat' first | exact trivial | exact CvB_n | exact CvB_d | exact CvB_o rfl | refine CvE_app ?_ ?_ | refine CvE_cons rfl ?_ ?_ | refine CvH_cons ?_ ?_ | refine CvB_c rfl ?_ | fail) <;> first | exact au_v | (first | exact CvL.pure (hpp _ _) | exact CvL.pure (hps _) | exact CvL.eq (by kernel_rfl) (hpp _ _) | exact Cv.eq (by rw [hT]) rfl))⟩
                    exact ⟨by omega, hS, hm, hTl⟩
                · (try simp only [au_std] at hc7); have hT : ty2 = ty := htn hc5 (fun h h0 => by rcases sok_or h with h | h | h; exact hc7 h0 h; exact (hc6 h0).1 h; exact (hc6 h0).2 h); have hTl : ty2.length ≤ i + 1 := (by rw [hT]; omega)
                  refine VC.skip ?_
                  refine VC.drw tab_ok [] [_, _, _, _, _, _, _, _, _, _, _, _] rfl (by kernel_rfl) (by kernel_rfl) ?_
                  iterate 2 refine VX.meek rfl ?_
                  refine VX.callP rfl rfl (hsame) au_wk au_pu ?_
                  iterate 2 refine VX.meek rfl ?_
                  refine' VX.merge (d := 208) [_, _, _, _, _, _, _] rfl ?_ rfl ?_
                  rotate_left
                  · refine VX.guard rfl rfl (fun hb33_4 => ?_) (fun hb33_4 => ?_)
                    · have ghb33_4 := hb33_4
                      try simp only [au_std, Bool.not_true, Bool.not_false] at ghb33_4
                      first | refine VX.meek rfl ?_ | refine VX.loadI rfl rfl au_l ?_ | refine VX.loadP rfl rfl rfl au_l ?_
                      refine VX.guardT rfl rfl hb33_4 ?_
                      refine VX.callP0 rfl rfl rfl (htc) ?_
                      refine VX.guardT rfl rfl hb33_4 ?_
                      refine VX.callP0 rfl rfl rfl (htx) ?_
                      refine VX.guardT rfl rfl hb33_4 ?_
                      first | refine VX.meek rfl ?_ | refine VX.loadI rfl rfl au_l ?_ | refine VX.loadP rfl rfl rfl au_l ?_
                      refine VX.guardT rfl rfl hb33_4 ?_
                      refine VX.callP0 rfl rfl rfl (htx) ?_
                      refine VX.guardT rfl rfl hb33_4 ?_
                      refine VX.strNeq rfl rfl ?_
                      refine VX.pickO rfl (fun _ => rfl) ?_
                      exact VX.nil ⟨rfl, rfl⟩
                    · refine VX.guardF rfl rfl hb33_4 ?_
                      refine VX.guardF rfl rfl hb33_4 ?_
                      refine VX.guardF rfl rfl hb33_4 ?_
                      refine VX.guardF rfl rfl hb33_4 ?_
                      refine VX.guardF rfl rfl hb33_4 ?_
                      exact VX.pickO rfl (fun h => absurd (h.symm.trans hb33_4) (by decide)) (VX.nil ⟨rfl, rfl⟩)
                  refine VX.nil ?_
                  refine VX.nil ?_
                  refine VC.cond rfl (fun hc8 => ?_) (fun hc8 => ?_)
                  · exact absurd hc8 (by simp)
                  · skip
                    refine VC.skip ?_
                    refine VC.regN tab_ok [] rfl ?_
                    first | refine VX.add rfl rfl (by omega) ?_ | refine VX.meek rfl ?_
                    refine VX.meek rfl ?_
                    refine VX.nil ?_
                    refine ⟨i + 1, S, ty2, by (try dsimp only); omega, ?_, (by refine ⟨[some 0, some 1], rfl, by first | trivial | decide, rfl, ?_, ?_⟩ <;> (repeat' first | exact trivial | exact CvB_n | exact CvB_d | exact CvB_o rfl | refine CvE_app ?_ ?_ | refine CvE_cons rfl ?_ ?_ | refine CvH_cons ?_ ?_ | refine CvB_c rfl ?_ | fail) <;> first | exact au_v | (first | exact CvL.pure (hpp _ _) | exact CvL.pure (hps _) | exact CvL.eq (by kernel_rfl) (hpp _ _) | exact Cv.eq (by rw [hT]) rfl))⟩
                    exact ⟨by omega, hS, hm, hTl⟩
          · (try simp only [au_std] at hc4); skip
            obtain ⟨S2, hS2⟩ : ∃ S2, S2 = S.bytes l[i]!.s := ⟨_, rfl⟩
            have hcw := write_p S l[i]!.s hS (.inr hm) (by omega)
            have htw := twrite_p wn pn fn S ty l[i]!.s hS (.inr hm) (by omega)
            have hok2 : S2.Ok := by rw [hS2]; exact hS.bytes _
            have hm2 : 2 ≤ S2.most := by rw [hS2]; exact scr_most2 hm
            have hsz := scr_byte_size S l[i]!.s
            rw [show writeL ⟨true, wn, pn, fn, S, ty⟩ l[i]!.s = rowsL (S.bytes l[i]!.s) wn pn (askW S (S.bytes l[i]!.s)) (S.bytes l[i]!.s).rows from by
              unfold writeL
              rw [← askW_eq]
              have := rows_acc ⟨true, wn, pn, fn, S.bytes l[i]!.s, ty⟩ (askB S (S.bytes l[i]!.s)) (hS.bytes _)
              rw [show (⟨true, wn, pn, fn, S, ty⟩ : Trm).scr.rows = (S.bytes l[i]!.s).rows from hsz.2.symm]
              exact this] at htw
            rw [← hS2] at hcw htw hsz
            have hrw := rows57_t S2 wn pn 19 (scrF S2) [.iptr (scrF S) 0, .iptr [BL (movedB S S2)] 0, .iptr [I64 S.y] 0, .iptr [I64 S2.y] 0] (askW S S2) hok2 hwr hpr (hps S2) (by simp only [T.pureL, T.pure, encL_pure]; rfl) (fun k hk => clo2_t S S2 (movedB S S2) k hS hok2 (by rw [← hsz.2]; exact hk) hk rfl)
            have hcu := cursor_p S
            have hcu2 := cursor_p S2
            have hsame := same_p (rowsL S2 wn pn (askW S S2) S2.rows) (by have := rowsL_len S2 wn pn (askW S S2) S2.rows; have := hok2.r2; omega) rowsL_small
            have htx := text_p S2 hok2
            replace htc := tcells_p (trmX wn pn fn S2 ty)
            refine VC.reg tab_ok [] rfl ?_
            first | refine VX.meek rfl ?_ | refine VX.loadI rfl rfl au_l ?_ | refine VX.loadP rfl rfl rfl au_l ?_
            refine VX.meek rfl ?_
            first | refine VX.meek rfl ?_ | refine VX.loadI rfl rfl au_l ?_ | refine VX.loadP rfl rfl rfl au_l ?_
            refine VX.callP0 rfl rfl rfl (hcw) ?_
            refine VX.store rfl rfl rfl rfl rfl au_sY rfl ?_
            refine VX.nil ?_
            refine VC.reg tab_ok [] rfl ?_
            first | refine VX.meek rfl ?_ | refine VX.loadI rfl rfl au_l ?_ | refine VX.loadP rfl rfl rfl au_l ?_
            refine VX.callP0 rfl rfl rfl (hcu) ?_
            iterate 3 refine VX.meek rfl ?_
            refine VX.new rfl rfl ?_
            refine VX.meek rfl ?_
            refine VX.store rfl rfl rfl rfl rfl au_sY rfl ?_
            refine VX.nil ?_
            refine VC.reg tab_ok [] rfl ?_
            first | refine VX.meek rfl ?_ | refine VX.loadI rfl rfl au_l ?_ | refine VX.loadP rfl rfl rfl au_l ?_
            refine VX.callP0 rfl rfl rfl (hcu2) ?_
            iterate 3 refine VX.meek rfl ?_
            refine VX.new rfl rfl ?_
            refine VX.meek rfl ?_
            refine VX.store rfl rfl rfl rfl rfl au_sY rfl ?_
            refine VX.nil ?_
            refine VC.reg tab_ok [] rfl ?_
            iterate 4 refine VX.meek rfl ?_
            refine' VX.merge (d := 110) [_, _, _, _] rfl ?_ rfl ?_
            rotate_left
            · refine VX.guard rfl rfl (fun hb18_3 => ?_) (fun hb18_3 => ?_)
              · have ghb18_3 := hb18_3
                try simp only [au_std, Bool.not_true, Bool.not_false] at ghb18_3
                first | refine VX.meek rfl ?_ | refine VX.loadI rfl rfl au_l ?_ | refine VX.loadP rfl rfl rfl au_l ?_
                refine VX.guardT rfl rfl hb18_3 ?_
                first | refine VX.meek rfl ?_ | refine VX.loadI rfl rfl au_l ?_ | refine VX.loadP rfl rfl rfl au_l ?_
                refine VX.guardT rfl rfl hb18_3 ?_
                refine VX.meek rfl ?_
                refine VX.pickO rfl (fun _ => rfl) ?_
                exact VX.nil ⟨rfl, rfl⟩
              · refine VX.guardF rfl rfl hb18_3 ?_
                refine VX.guardF rfl rfl hb18_3 ?_
                exact VX.pickO rfl (fun h => absurd (h.symm.trans hb18_3) (by decide)) (VX.nil ⟨rfl, rfl⟩)
            refine VX.new rfl rfl ?_
            refine VX.store rfl rfl rfl rfl rfl au_sY rfl ?_
            refine VX.nil ?_
            refine VC.view ([(31, .iptr [BL (movedB S S2)] 0), (28, .iptr [I64 S.y] 0), (30, .iptr [I64 S2.y] 0), (12, .ptr 0 0), (15, .ptr 1 0)]) ([.c (trmC (trmX wn pn fn S ty)), .c (scrF S2)]) [17, 18, 19, 21, 22, 79, 80, 81] rfl (by refine ⟨[some 0, some 1], rfl, by first | trivial | decide, rfl, ?_, ?_⟩ <;> (repeat' first | exact trivial | exact CvB_n | exact CvB_d | exact CvB_o rfl | refine CvE_app ?_ ?_ | refine CvE_cons rfl ?_ ?_ | refine CvH_cons ?_ ?_ | refine CvB_c rfl ?_ | fail) <;> first | exact au_v | (first | exact Cv.fptr ⟨rfl, (show some 2 ∉ [some 0, some 1] by simp)⟩ (CvL.eq rfl rfl) | exact Cv.fptr ⟨rfl, (show some 3 ∉ [some 0, some 1] by simp)⟩ (CvL.eq rfl rfl) | exact Cv.fptr ⟨rfl, (show some 4 ∉ [some 0, some 1] by simp)⟩ (CvL.eq rfl rfl) | exact CvL.pure (hpp _ _) | exact CvL.pure (hps _) | exact CvL.eq (by kernel_rfl) (hps _))) ?_
            refine VC.reg tab_ok [] rfl ?_
            first | refine VX.meek rfl ?_ | refine VX.loadI rfl rfl au_l ?_ | refine VX.loadP rfl rfl rfl au_l ?_
            iterate 3 refine VX.meek rfl ?_
            refine VX.callT rfl rfl (CallT.frame (hrw) [1] rfl au_ci au_ci ?_)
            rintro _ _ ⟨rfl, rfl⟩
            refine frK au_co au_co ?_
            refine VX.meek rfl ?_
            refine VX.nil ?_
            refine VC.view ([(23, rqT (rowsL S2 wn pn (askW S S2) S2.rows)), (12, .ptr 0 0), (15, .ptr 1 0)]) ([.c (trmC (trmX wn pn fn S ty)), .c (scrF S2)]) [17, 18, 19, 21, 79, 80, 81] rfl (by refine ⟨[some 0, some 1], rfl, by first | trivial | decide, rfl, ?_, ?_⟩ <;> (repeat' first | exact trivial | exact CvB_n | exact CvB_d | exact CvB_o rfl | refine CvE_app ?_ ?_ | refine CvE_cons rfl ?_ ?_ | refine CvH_cons ?_ ?_ | refine CvB_c rfl ?_ | fail) <;> first | exact au_v | (first | exact Cv.fslc0 ⟨rfl, by simp⟩ (CvL.pure (encL_pure _ _)) | exact CvL.pure (hpp _ _) | exact CvL.pure (hps _))) ?_
            refine VC.regN tab_ok [] rfl ?_
            first | refine VX.meek rfl ?_ | refine VX.loadI rfl rfl au_l ?_ | refine VX.loadP rfl rfl rfl au_l ?_
            refine VX.meek rfl ?_
            first | refine VX.meek rfl ?_ | refine VX.loadI rfl rfl au_l ?_ | refine VX.loadP rfl rfl rfl au_l ?_
            refine VX.callP0 rfl rfl rfl (htw) ?_
            iterate 3 refine VX.meek rfl ?_
            refine VX.store rfl rfl rfl rfl rfl au_sY rfl ?_
            refine VX.meek rfl ?_
            refine VX.nil ?_
            refine VC.drw tab_ok [] [_, _, _, _, _, _, _, _, _, _, _, _] rfl (by kernel_rfl) (by kernel_rfl) ?_
            iterate 2 refine VX.meek rfl ?_
            refine VX.callP rfl rfl (hsame) au_wk au_pu ?_
            iterate 2 refine VX.meek rfl ?_
            refine' VX.merge (d := 208) [_, _, _, _, _, _, _] rfl ?_ rfl ?_
            rotate_left
            · refine VX.guard rfl rfl (fun hb33_4 => ?_) (fun hb33_4 => ?_)
              · have ghb33_4 := hb33_4
                try simp only [au_std, Bool.not_true, Bool.not_false] at ghb33_4
                first | refine VX.meek rfl ?_ | refine VX.loadI rfl rfl au_l ?_ | refine VX.loadP rfl rfl rfl au_l ?_
                refine VX.guardT rfl rfl hb33_4 ?_
                refine VX.callP0 rfl rfl rfl (htc) ?_
                refine VX.guardT rfl rfl hb33_4 ?_
                refine VX.callP0 rfl rfl rfl (htx) ?_
                refine VX.guardT rfl rfl hb33_4 ?_
                first | refine VX.meek rfl ?_ | refine VX.loadI rfl rfl au_l ?_ | refine VX.loadP rfl rfl rfl au_l ?_
                refine VX.guardT rfl rfl hb33_4 ?_
                refine VX.callP0 rfl rfl rfl (htx) ?_
                refine VX.guardT rfl rfl hb33_4 ?_
                refine VX.strNeq rfl rfl ?_
                refine VX.pickO rfl (fun _ => rfl) ?_
                exact VX.nil ⟨rfl, rfl⟩
              · refine VX.guardF rfl rfl hb33_4 ?_
                refine VX.guardF rfl rfl hb33_4 ?_
                refine VX.guardF rfl rfl hb33_4 ?_
                refine VX.guardF rfl rfl hb33_4 ?_
                refine VX.guardF rfl rfl hb33_4 ?_
                exact VX.pickO rfl (fun h => absurd (h.symm.trans hb33_4) (by decide)) (VX.nil ⟨rfl, rfl⟩)
            refine VX.nil ?_
            refine VX.nil ?_
            refine VC.cond rfl (fun hc8 => ?_) (fun hc8 => ?_)
            · exact absurd hc8 (by simp)
            · skip
              refine VC.skip ?_
              refine VC.regN tab_ok [] rfl ?_
              first | refine VX.add rfl rfl (by omega) ?_ | refine VX.meek rfl ?_
              refine VX.meek rfl ?_
              refine VX.nil ?_
              refine ⟨i + 1, S2, ty, by (try dsimp only); omega, ?_, (by refine ⟨[some 0, some 1], rfl, by first | trivial | decide, rfl, ?_, ?_⟩ <;> (repeat' first | exact trivial | exact CvB_n | exact CvB_d | exact CvB_o rfl | refine CvE_app ?_ ?_ | refine CvE_cons rfl ?_ ?_ | refine CvH_cons ?_ ?_ | refine CvB_c rfl ?_ | fail) <;> first | exact au_v | (first | exact CvL.pure (hpp _ _) | exact CvL.pure (hps _) | exact CvL.eq (by kernel_rfl) (hpp _ _)))⟩
              exact ⟨by omega, hok2, hm2, by omega⟩
      · (try simp only [au_std] at hc2); skip
        refine VC.exit ?_
        refine VC.reg tab_ok [] rfl ?_
        first | refine VX.meek rfl ?_ | refine VX.loadI rfl rfl au_l ?_ | refine VX.loadP rfl rfl rfl au_l ?_
        refine VX.callP0 rfl rfl rfl (hty2 S ty) ?_
        iterate 3 refine VX.meek rfl ?_
        refine VX.store rfl rfl rfl rfl rfl au_sY rfl ?_
        refine VX.meek rfl ?_
        refine VX.nil ?_
        refine VC.reg tab_ok [] rfl ?_
        first | refine VX.meek rfl ?_ | refine VX.loadI rfl rfl au_l ?_ | refine VX.loadP rfl rfl rfl au_l ?_
        refine VX.callP0 rfl rfl rfl (hty2 S []) ?_
        iterate 3 refine VX.meek rfl ?_
        refine VX.new rfl rfl ?_
        refine VX.store rfl rfl rfl rfl rfl au_sY rfl ?_
        refine VX.meek rfl ?_
        refine VX.nil ?_
        refine VC.reg tab_ok [] rfl ?_
        iterate 2 refine VX.meek rfl ?_
        refine VX.strEql rfl rfl ?_
        refine VX.meek rfl ?_
        refine' VX.merge (d := 226) [_, _, _] rfl ?_ rfl ?_
        rotate_left
        · refine VX.guard rfl rfl (fun hb38_3 => ?_) (fun hb38_3 => ?_)
          · have ghb38_3 := hb38_3
            try simp only [au_std, Bool.not_true, Bool.not_false] at ghb38_3
            refine VX.meek rfl ?_
            refine VX.guardT rfl rfl hb38_3 ?_
            refine VX.strEql rfl rfl ?_
            refine VX.pickA rfl (fun _ => rfl) ?_
            exact VX.nil ⟨rfl, rfl⟩
          · refine VX.guardF rfl rfl hb38_3 ?_
            exact VX.pickA rfl (fun h => absurd (h.symm.trans hb38_3) (by decide)) (VX.nil ⟨rfl, rfl⟩)
        refine VX.meek rfl ?_
        refine' VX.merge (d := 229) [_, _] rfl ?_ rfl ?_
        rotate_left
        · refine VX.guard rfl rfl (fun hb38_7 => ?_) (fun hb38_7 => ?_)
          · have ghb38_7 := hb38_7
            try simp only [au_std, Bool.not_true, Bool.not_false] at ghb38_7
            refine VX.callP0 rfl rfl rfl (awake57_p) ?_
            refine VX.pickA rfl (fun _ => rfl) ?_
            exact VX.nil ⟨rfl, rfl⟩
          · exact VX.pickA rfl (fun h => absurd (h.symm.trans hb38_7) (by decide)) (VX.nil ⟨rfl, rfl⟩)
        refine VX.meek rfl ?_
        refine VX.nil ?_
        refine VC.ret ?_
        exact ⟨trivial, _, rfl, Cv.eq (by first | rfl | (simp [*]; done)) rfl⟩
end
section
open Go.RowKit
abbrev shU : Sh := .int .u8
abbrev shU16 : Sh := .int .u16
def i64 (n : Int) : Prop := -9223372036854775808 ≤ n ∧ n ≤ 9223372036854775807
theorem lit_u8 {n : Int} (h : (Lit.int .u8 n).wf = true) : 0 ≤ n ∧ n < 256 := by
  simp [Lit.wf, IntKind.min, IntKind.max, IntKind.signed, IntKind.bits] at h
  omega
theorem lit_u16 {n : Int} (h : (Lit.int .u16 n).wf = true) : 0 ≤ n ∧ n < 65536 := by
  simp [Lit.wf, IntKind.min, IntKind.max, IntKind.signed, IntKind.bits] at h
  omega
theorem wt_u8 {ts : List T} (h : shU.wt ts) : ∃ n, ts = [U8 n] ∧ 0 ≤ n ∧ n < 256 := by
  obtain ⟨n, rfl, hw⟩ := h
  exact ⟨n, rfl, lit_u8 hw⟩
theorem wt_u16 {ts : List T} (h : shU16.wt ts) : ∃ n, ts = [U16 n] ∧ 0 ≤ n ∧ n < 65536 := by
  obtain ⟨n, rfl, hw⟩ := h
  exact ⟨n, rfl, lit_u16 hw⟩
theorem wt_str {ts : List T} (h : Sh.str.wt ts) : ∃ l : List UInt8, ts = [strT l] ∧ l.length ≤ maxLen := by
  obtain ⟨s, rfl, hs⟩ := h
  refine ⟨s.data.toList, ?_, by simpa using hs⟩
  show [T.v (.string s)] = [T.v (.string ⟨s.data.toList.toArray⟩)]
  rw [Array.toArray_toList]
theorem nth_dec {α : Type} (c : Cd α) {p : List T → Prop} {Q : α → Prop} (h : ∀ a, p a → ∃ x, a = c.cells x ∧ Q x) : ∀ (n : Nat) {xs : List T}, nth p n xs → ∃ l : List α, xs = encL c l ∧ l.length = n ∧ ∀ x ∈ l, Q x
  | 0, xs, k => ⟨[], k, rfl, fun _ hx => by cases hx⟩
  | n + 1, xs, ⟨a, b, e, k1, k2⟩ => by
    obtain ⟨x, rfl, hx⟩ := h a k1
    obtain ⟨l, rfl, rfl, hl⟩ := nth_dec c h n k2
    exact ⟨x :: l, e, rfl, fun y hy => by
      rcases List.mem_cons.1 hy with rfl | hy
      · exact hx
      · exact hl y hy⟩
theorem wt_sl {α : Type} (c : Cd α) {s : Sh} {Q : α → Prop} (h : ∀ a, s.wt a → ∃ x, a = c.cells x ∧ Q x) {ts : List T} (k : (Sh.sl s).wt ts) : ∃ l : List α, ts = [.islc (encL c l) l.length none] ∧ l.length ≤ maxLen ∧ ∀ x ∈ l, Q x := by
  obtain ⟨xs, n, rfl, h1, h2⟩ := k
  obtain ⟨l, rfl, rfl, hl⟩ := nth_dec c h n h2
  exact ⟨l, rfl, h1, hl⟩
end
section
open Go.RowKit
abbrev shAct : Sh := .st [shU, .str, shU, shU, shU16, shU16]
theorem wt_act {ts : List T} (h : shAct.wt ts) : ∃ a : Act, ts = cAct.cells a ∧ a.Ok := by
  obtain ⟨a1, b1, rfl, h1, a2, b2, rfl, h2, a3, b3, rfl, h3, a4, b4, rfl, h4, a5, b5, rfl, h5, a6, b6, rfl, h6, rfl⟩ := h
  obtain ⟨x1, rfl, k1⟩ := wt_u8 h1
  obtain ⟨x2, rfl, k2⟩ := wt_str h2
  obtain ⟨x3, rfl, k3⟩ := wt_u8 h3
  obtain ⟨x4, rfl, k4⟩ := wt_u8 h4
  obtain ⟨x5, rfl, k5⟩ := wt_u16 h5
  obtain ⟨x6, rfl, k6⟩ := wt_u16 h6
  exact ⟨⟨x1, x2, x3, x4, x5, x6⟩, rfl, k1, k3, k4, k5, k6⟩
theorem termSteps_wt {t0 t1 t2 t3 : List T} (h0 : shU.wt t0) (h1 : shU.wt t1) (h2 : shU.wt t2) (h3 : (Sh.sl shAct).wt t3) : CallP Tryd.prog 3 [shU.tree t0, shU.tree t1, shU.tree t2, (Sh.sl shAct).tree t3] (BL true) := by
  obtain ⟨a, rfl, ha⟩ := wt_u8 h0
  obtain ⟨b, rfl, hb⟩ := wt_u8 h1
  obtain ⟨c, rfl, hc⟩ := wt_u8 h2
  obtain ⟨l, rfl, hl, hk⟩ := wt_sl cAct (fun _ => wt_act) h3
  obtain ⟨A, rfl⟩ := Int.eq_ofNat_of_zero_le ha.1
  obtain ⟨B, rfl⟩ := Int.eq_ofNat_of_zero_le hb.1
  obtain ⟨D, rfl⟩ := Int.eq_ofNat_of_zero_le hc.1
  exact termSteps_all A B D (by omega) (by omega) (by omega) l hk hl
end
section
open Go.ChangeShapes Go.WideShapes Go.ChangeAt Go.RowKit Go.WideElems
def rowed (P : Program) (ts : List TypeId) : Bool := ts.all fun t => P.readableRec t && decide (t < P.types.size)
theorem trodAll_below {H : Type} {enc : TypeId × Value → H} {P : Program} (hl : laidOutB P = true) {W W' : World} (hb : Below W.heap.size W W') :
    ∀ {ts : List TypeId} {vs : List Value} {ds : List (DataW H)} {p : List MemPlace}, rowed P ts = true → (∀ x ∈ p, x.block < W.heap.size) →
      DataW.TrodAll enc P W 0 (fun _ => true) true ts vs ds p → DataW.TrodAll enc P W' 0 (fun b => decide (b < W.heap.size)) true ts vs ds p
  | [], _, _, _, _, _, h => by
    obtain ⟨rfl, rfl, rfl⟩ := trodAll_nil h
    exact trodAll_mk0
  | t :: ts, _, _, _, hr, hlt, h => by
    obtain ⟨v, vs1, d, ds1, a, b, rfl, rfl, rfl, h1, h2⟩ := trodAll_cons h
    simp only [rowed, List.all_cons, Bool.and_eq_true, decide_eq_true_eq] at hr
    refine trodAll_cons_mk (Below.trod hl hr.1.1 hr.1.2 h1 hb (fun x hx => hlt x (by simp [hx]))) ?_
    exact trodAll_below hl hb (by simpa [rowed] using hr.2) (fun x hx => hlt x (by simp [hx])) h2
theorem post_law {H : Type} {enc : TypeId × Value → H} {P : Program} {f : Func} {s : ChangeSpec} {W W' : World} {args : Array Value} {ds gs : List (DataW H)} {before : List MemPlace} {tb : TypeId}
    (hl : laidOutB P = true) (hps : rowed P f.params.toList = true) (hvs : varsRowed P s.vars = true) (hres : f.resultTypes = #[tb]) (htb : P.underlying tb = some .bool)
    (hW : DataW.Whole enc P f.params.toList s.vars false W args.toList ds gs before)
    (h1 : (s.fn H (ds ++ gs)).results = [.lit (.bool true)]) (h2 : (s.fn H (ds ++ gs)).args = ds) (h3 : (s.fn H (ds ++ gs)).vars = gs)
    (hb : Below W.heap.size W W') : s.post enc P f false true false false W args (.bool true) W' := by
  have hlt := hW.lt
  have hW' := hW
  obtain ⟨p, q, hA, hV, rfl, hfz, hnd⟩ := hW
  refine ⟨ds, gs, p ++ q, [], p, q, hW', ?_, ?_, ?_, hb.frame _, fun h => by cases h⟩
  · rw [h1, hres]
    exact trodAll_cons_mk (shut_bool htb true) trodAll_mk0
  · rw [h2]
    exact trodAll_below hl hb hps (fun x hx => hlt x (by simp [hx])) hA
  · rw [h3]
    exact Below.trodVars hl hb hvs hV
end
end Go.Proofs.YtjnomaiejmgedaaDoor
