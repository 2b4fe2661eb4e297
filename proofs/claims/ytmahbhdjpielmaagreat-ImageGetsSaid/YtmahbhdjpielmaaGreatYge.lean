/-
  The proof's lemmas, part 5.
-/
import Derived.Test.YtmahbhdjpielmaaGreatYgd
import Derived.PlainAid
import Derived.Test.YtmahbhdjpielmaaGreatBld
import Derived.WalkSpells
import Derived.WalkLawsBesides
import Derived.BigQuiet
import Derived.Deep.QuietTactic
import Derived.Lib.Hide
import Derived.Test.YtmahbhdjpielmaaGreatShelfI
import Derived.OpenVars
import Derived.Carry
namespace Go.Proofs.YtmahbhdjpielmaaGreat
set_option linter.unusedSimpArgs false
set_option linter.unusedVariables false
section
open Go.RowKit Go.Sort
set_option maxRecDepth 10000
def cropL (w h : Nat) (px : List Int) (X Y : Int) (rw rh : Nat) (out : Int) : List Int := (List.range (rw * rh)).map fun k => if inB' w h (X + (k % rw : Nat)) (Y + (k / rw : Nat)) = true then px[((Y + (k / rw : Nat)) * w + (X + (k % rw : Nat))).toNat]! else out
theorem cropL_len (w h : Nat) (px : List Int) (X Y : Int) (rw rh : Nat) (out : Int) : (cropL w h px X Y rw rh out).length = rw * rh := by unfold cropL; rw [List.length_map, List.length_range]
theorem cropL_at (w h : Nat) (px : List Int) (X Y : Int) (rw rh : Nat) (out : Int) {k : Nat} (hk : k < rw * rh) : (cropL w h px X Y rw rh out)[k]! = if inB' w h (X + (k % rw : Nat)) (Y + (k / rw : Nat)) = true then px[((Y + (k / rw : Nat)) * w + (X + (k % rw : Nat))).toNat]! else out := by
  rw [getElem!_pos (cropL w h px X Y rw rh out) k (by rw [cropL_len]; exact hk)]
  unfold cropL
  rw [List.getElem_map, List.getElem_range]
theorem cropL_bd {w h : Nat} {px : List Int} (hb : ∀ v ∈ px, 0 ≤ v ∧ v < 256) (X Y : Int) (rw rh : Nat) {out : Int} (ho : 0 ≤ out ∧ out < 256) : ∀ v ∈ cropL w h px X Y rw rh out, 0 ≤ v ∧ v < 256 := fun v hv => by
  unfold cropL at hv
  obtain ⟨i, -, rfl⟩ := List.mem_map.1 hv
  split
  · exact bang_bd hb _
  · exact ho
theorem coordG_p (n : Int) : CallP Tryz.prog 56 [I64 n] (BL (coordB n)) := by
  refine CallP.intro2 au_pu au_pu ?_
  refine CallT.intro tab_ok Tryz.func56 rfl (by kernel_rfl) (Nat.le_of_ble_eq_true rfl) ?_
  refine VC.reg tab_ok [] rfl ?_
  refine VX.meek rfl ?_
  refine VX.nil ?_
  refine VC.reg tab_ok [] rfl ?_
  iterate 3 refine VX.meek rfl ?_
  refine' VX.merge (d := 8) [_, _, _] rfl ?_ rfl ?_
  rotate_left
  · refine VX.guard rfl rfl (fun hb1_2 => ?_) (fun hb1_2 => ?_)
    · have ghb1_2 := hb1_2
      try simp only [au_std, Bool.not_true, Bool.not_false] at ghb1_2
      refine VX.meek rfl ?_
      refine VX.guardT rfl rfl hb1_2 ?_
      refine VX.meek rfl ?_
      refine VX.pickA rfl (fun _ => rfl) ?_
      exact VX.nil ⟨rfl, rfl⟩
    · refine VX.guardF rfl rfl hb1_2 ?_
      exact VX.pickA rfl (fun h => absurd (h.symm.trans hb1_2) (by decide)) (VX.nil ⟨rfl, rfl⟩)
  refine VX.meek rfl ?_
  refine VX.nil ?_
  refine VC.ret ?_
  exact ⟨trivial, _, rfl, Cv.eq (by first | rfl | (simp [*]; done)) rfl⟩
theorem ghas_n (w h : Nat) (px : List Int) (x y : Int) : CallP Tryz.prog 54 [gT w h px, I64 x, I64 y] (BL (inB' w h x y)) := ghas_p ⟨w, h, px⟩ x y
theorem crop_side (w h : Nat) (px : List Int) (r : Rect) (out : Int) (hs : sideB r.W = false ∨ sideB r.H = false) : CallP Tryz.prog 17 [gT w h px, rectT r, U8 out] (.tup [gT 0 0 [], I64 17]) := by
  refine CallP.intro2 au_pu au_pu ?_
  refine CallT.intro tab_ok Tryz.func17 rfl (by kernel_rfl) (Nat.le_of_ble_eq_true rfl) ?_
  refine VC.reg tab_ok [3, 4] rfl ?_
  refine VX.newI rfl rfl ?_
  refine VX.newI rfl rfl ?_
  refine VX.new rfl rfl ?_
  refine VX.meek rfl ?_
  refine VX.nil ?_
  refine VC.seq ?_
  refine VC.reg tab_ok [] rfl ?_
  refine VX.meek rfl ?_
  first | refine VX.meek rfl ?_ | refine VX.loadI rfl rfl au_l ?_ | refine VX.loadP rfl rfl rfl au_l ?_
  refine VX.callP0 rfl rfl rfl (side_p r.W) ?_
  iterate 2 refine VX.meek rfl ?_
  refine' VX.merge (d := 21) [_, _, _, _, _] rfl ?_ rfl ?_
  rotate_left
  · refine VX.guard rfl rfl (fun hb1_4 => ?_) (fun hb1_4 => ?_)
    · have ghb1_4 := hb1_4
      try simp only [au_std, Bool.not_true, Bool.not_false] at ghb1_4
      refine VX.meek rfl ?_
      refine VX.guardT rfl rfl hb1_4 ?_
      first | refine VX.meek rfl ?_ | refine VX.loadI rfl rfl au_l ?_ | refine VX.loadP rfl rfl rfl au_l ?_
      refine VX.guardT rfl rfl hb1_4 ?_
      refine VX.callP0 rfl rfl rfl (side_p r.H) ?_
      refine VX.guardT rfl rfl hb1_4 ?_
      refine VX.meek rfl ?_
      refine VX.pickO rfl (fun _ => rfl) ?_
      exact VX.nil ⟨rfl, rfl⟩
    · refine VX.guardF rfl rfl hb1_4 ?_
      refine VX.guardF rfl rfl hb1_4 ?_
      refine VX.guardF rfl rfl hb1_4 ?_
      exact VX.pickO rfl (fun h => absurd (h.symm.trans hb1_4) (by decide)) (VX.nil ⟨rfl, rfl⟩)
  refine VX.nil ?_
  refine VC.cond rfl (fun hc0 => ?_) (fun hc0 => ?_)
  · (try simp only [au_std] at hc0)
    refine VC.reg tab_ok [] rfl ?_
    refine VX.meek rfl ?_
    refine VX.store rfl rfl rfl rfl rfl au_sR rfl ?_
    refine VX.meek rfl ?_
    refine VX.nil ?_
    refine VC.ret ?_
    exact ⟨trivial, _, rfl, Cv.tup (CvL.cons (Cv.agg (CvL.cons (Cv.pure rfl) (CvL.cons (Cv.pure rfl) (CvL.cons (Cv.nil _ (.inl rfl)) CvL.nil)))) (CvL.cons (Cv.pure rfl) CvL.nil))⟩
  · exact absurd hc0 (by rcases hs with h | h <;> simp [h])
theorem crop_range (w h : Nat) (px : List Int) (r : Rect) (out : Int) (h1 : sideB r.W = true) (h2 : sideB r.H = true) (hs : coordB r.X = false ∨ coordB r.Y = false) : CallP Tryz.prog 17 [gT w h px, rectT r, U8 out] (.tup [gT 0 0 [], I64 1]) := by
  refine CallP.intro2 au_pu au_pu ?_
  refine CallT.intro tab_ok Tryz.func17 rfl (by kernel_rfl) (Nat.le_of_ble_eq_true rfl) ?_
  refine VC.reg tab_ok [3, 4] rfl ?_
  refine VX.newI rfl rfl ?_
  refine VX.newI rfl rfl ?_
  refine VX.new rfl rfl ?_
  refine VX.meek rfl ?_
  refine VX.nil ?_
  refine VC.seq ?_
  refine VC.reg tab_ok [] rfl ?_
  refine VX.meek rfl ?_
  first | refine VX.meek rfl ?_ | refine VX.loadI rfl rfl au_l ?_ | refine VX.loadP rfl rfl rfl au_l ?_
  refine VX.callP0 rfl rfl rfl (side_p r.W) ?_
  iterate 2 refine VX.meek rfl ?_
  refine' VX.merge (d := 21) [_, _, _, _, _] rfl ?_ rfl ?_
  rotate_left
  · refine VX.guard rfl rfl (fun hb1_4 => ?_) (fun hb1_4 => ?_)
    · have ghb1_4 := hb1_4
      try simp only [au_std, Bool.not_true, Bool.not_false] at ghb1_4
      refine VX.meek rfl ?_
      refine VX.guardT rfl rfl hb1_4 ?_
      first | refine VX.meek rfl ?_ | refine VX.loadI rfl rfl au_l ?_ | refine VX.loadP rfl rfl rfl au_l ?_
      refine VX.guardT rfl rfl hb1_4 ?_
      refine VX.callP0 rfl rfl rfl (side_p r.H) ?_
      refine VX.guardT rfl rfl hb1_4 ?_
      refine VX.meek rfl ?_
      refine VX.pickO rfl (fun _ => rfl) ?_
      exact VX.nil ⟨rfl, rfl⟩
    · refine VX.guardF rfl rfl hb1_4 ?_
      refine VX.guardF rfl rfl hb1_4 ?_
      refine VX.guardF rfl rfl hb1_4 ?_
      exact VX.pickO rfl (fun h => absurd (h.symm.trans hb1_4) (by decide)) (VX.nil ⟨rfl, rfl⟩)
  refine VX.nil ?_
  refine VC.cond rfl (fun hc0 => ?_) (fun hc0 => ?_)
  · exact absurd hc0 (by simp [h1, h2])
  · (try simp only [au_std] at hc0)
    refine VC.skip ?_
    refine VC.seq ?_
    refine VC.reg tab_ok [] rfl ?_
    refine VX.meek rfl ?_
    first | refine VX.meek rfl ?_ | refine VX.loadI rfl rfl au_l ?_ | refine VX.loadP rfl rfl rfl au_l ?_
    refine VX.callP0 rfl rfl rfl (coordG_p r.X) ?_
    iterate 2 refine VX.meek rfl ?_
    refine' VX.merge (d := 32) [_, _, _, _, _] rfl ?_ rfl ?_
    rotate_left
    · refine VX.guard rfl rfl (fun hb3_4 => ?_) (fun hb3_4 => ?_)
      · have ghb3_4 := hb3_4
        try simp only [au_std, Bool.not_true, Bool.not_false] at ghb3_4
        refine VX.meek rfl ?_
        refine VX.guardT rfl rfl hb3_4 ?_
        first | refine VX.meek rfl ?_ | refine VX.loadI rfl rfl au_l ?_ | refine VX.loadP rfl rfl rfl au_l ?_
        refine VX.guardT rfl rfl hb3_4 ?_
        refine VX.callP0 rfl rfl rfl (coordG_p r.Y) ?_
        refine VX.guardT rfl rfl hb3_4 ?_
        refine VX.meek rfl ?_
        refine VX.pickO rfl (fun _ => rfl) ?_
        exact VX.nil ⟨rfl, rfl⟩
      · refine VX.guardF rfl rfl hb3_4 ?_
        refine VX.guardF rfl rfl hb3_4 ?_
        refine VX.guardF rfl rfl hb3_4 ?_
        exact VX.pickO rfl (fun h => absurd (h.symm.trans hb3_4) (by decide)) (VX.nil ⟨rfl, rfl⟩)
    refine VX.nil ?_
    refine VC.cond rfl (fun hc1 => ?_) (fun hc1 => ?_)
    · (try simp only [au_std] at hc1)
      refine VC.reg tab_ok [] rfl ?_
      refine VX.meek rfl ?_
      refine VX.store rfl rfl rfl rfl rfl au_sR rfl ?_
      refine VX.meek rfl ?_
      refine VX.nil ?_
      refine VC.ret ?_
      exact ⟨trivial, _, rfl, Cv.tup (CvL.cons (Cv.agg (CvL.cons (Cv.pure rfl) (CvL.cons (Cv.pure rfl) (CvL.cons (Cv.nil _ (.inl rfl)) CvL.nil)))) (CvL.cons (Cv.pure rfl) CvL.nil))⟩
    · exact absurd hc1 (by rcases hs with h | h <;> simp [h])
theorem crop_p (w h : Nat) (px : List Int) (X Y : Int) (rw rh : Nat) (out : Int) (hw : w ≤ 128) (hh : h ≤ 128) (hl : px.length = w * h) (hb : ∀ v ∈ px, 0 ≤ v ∧ v < 256) (hrw : 1 ≤ rw ∧ rw ≤ 128) (hrh : 1 ≤ rh ∧ rh ≤ 128) (hx : -1048576 ≤ X ∧ X ≤ 1048576) (hy : -1048576 ≤ Y ∧ Y ≤ 1048576) :
    CallP Tryz.prog 17 [gT w h px, rectT ⟨X, Y, rw, rh⟩, U8 out] (.tup [gT rw rh (cropL w h px X Y rw rh out), I64 0]) := by
  have hs1 : sideB (rw : Int) = true := by unfold sideB; simp; omega
  have hs2 : sideB (rh : Int) = true := by unfold sideB; simp; omega
  have hc1' : coordB X = true := by unfold coordB; simp; omega
  have hc2' : coordB Y = true := by unfold coordB; simp; omega
  have hwh : rw * rh ≤ 128 * 128 := Nat.mul_le_mul hrw.2 hrh.2
  have hm : (rw : Int) * (rh : Int) = ((rw * rh : Nat) : Int) := (Int.natCast_mul rw rh).symm
  have hcl := cropL_len w h px X Y rw rh out
  have hca : ∀ (x y : Nat), x < rw → y < rh → y * rw + x < rw * rh ∧ (cropL w h px X Y rw rh out)[y * rw + x]! = if inB' w h (X + x) (Y + y) = true then px[((Y + y) * w + (X + x)).toNat]! else out := fun x y h1 h2 => by
    have h3 : (y + 1) * rw ≤ rh * rw := Nat.mul_le_mul_right rw h2
    rw [Nat.add_mul, Nat.one_mul] at h3
    have h4 : y * rw + x < rw * rh := by rw [Nat.mul_comm rw rh]; omega
    have e1 : (y * rw + x) % rw = x := by rw [Nat.mul_comm, Nat.mul_add_mod, Nat.mod_eq_of_lt h1]
    have e2 : (y * rw + x) / rw = y := by rw [Nat.mul_comm, Nat.mul_add_div (by omega), Nat.div_eq_of_lt h1, Nat.add_zero]
    exact ⟨h4, by rw [cropL_at _ _ _ _ _ _ _ _ h4, e1, e2]⟩
  generalize cropL w h px X Y rw rh out = C at *
  refine CallP.intro2 au_pu au_pu ?_
  refine CallT.intro tab_ok Tryz.func17 rfl (by kernel_rfl) (Nat.le_of_ble_eq_true rfl) ?_
  refine VC.reg tab_ok [3, 4] rfl ?_
  refine VX.newI rfl rfl ?_
  refine VX.newI rfl rfl ?_
  refine VX.new rfl rfl ?_
  refine VX.meek rfl ?_
  refine VX.nil ?_
  refine VC.seq ?_
  refine VC.reg tab_ok [] rfl ?_
  refine VX.meek rfl ?_
  first | refine VX.meek rfl ?_ | refine VX.loadI rfl rfl au_l ?_ | refine VX.loadP rfl rfl rfl au_l ?_
  refine VX.callP0 rfl rfl rfl (side_p rw) ?_
  iterate 2 refine VX.meek rfl ?_
  refine' VX.merge (d := 21) [_, _, _, _, _] rfl ?_ rfl ?_
  rotate_left
  · refine VX.guard rfl rfl (fun hb1_4 => ?_) (fun hb1_4 => ?_)
    · have ghb1_4 := hb1_4
      try simp only [au_std, Bool.not_true, Bool.not_false] at ghb1_4
      refine VX.meek rfl ?_
      refine VX.guardT rfl rfl hb1_4 ?_
      first | refine VX.meek rfl ?_ | refine VX.loadI rfl rfl au_l ?_ | refine VX.loadP rfl rfl rfl au_l ?_
      refine VX.guardT rfl rfl hb1_4 ?_
      refine VX.callP0 rfl rfl rfl (side_p rh) ?_
      refine VX.guardT rfl rfl hb1_4 ?_
      refine VX.meek rfl ?_
      refine VX.pickO rfl (fun _ => rfl) ?_
      exact VX.nil ⟨rfl, rfl⟩
    · refine VX.guardF rfl rfl hb1_4 ?_
      refine VX.guardF rfl rfl hb1_4 ?_
      refine VX.guardF rfl rfl hb1_4 ?_
      exact VX.pickO rfl (fun h => absurd (h.symm.trans hb1_4) (by decide)) (VX.nil ⟨rfl, rfl⟩)
  refine VX.nil ?_
  refine VC.cond rfl (fun hc0 => ?_) (fun hc0 => ?_)
  · exact absurd hc0 (by simp [hs1, hs2])
  · (try simp only [au_std] at hc0)
    refine VC.skip ?_
    refine VC.seq ?_
    refine VC.reg tab_ok [] rfl ?_
    refine VX.meek rfl ?_
    first | refine VX.meek rfl ?_ | refine VX.loadI rfl rfl au_l ?_ | refine VX.loadP rfl rfl rfl au_l ?_
    refine VX.callP0 rfl rfl rfl (coordG_p X) ?_
    iterate 2 refine VX.meek rfl ?_
    refine' VX.merge (d := 32) [_, _, _, _, _] rfl ?_ rfl ?_
    rotate_left
    · refine VX.guard rfl rfl (fun hb3_4 => ?_) (fun hb3_4 => ?_)
      · have ghb3_4 := hb3_4
        try simp only [au_std, Bool.not_true, Bool.not_false] at ghb3_4
        refine VX.meek rfl ?_
        refine VX.guardT rfl rfl hb3_4 ?_
        first | refine VX.meek rfl ?_ | refine VX.loadI rfl rfl au_l ?_ | refine VX.loadP rfl rfl rfl au_l ?_
        refine VX.guardT rfl rfl hb3_4 ?_
        refine VX.callP0 rfl rfl rfl (coordG_p Y) ?_
        refine VX.guardT rfl rfl hb3_4 ?_
        refine VX.meek rfl ?_
        refine VX.pickO rfl (fun _ => rfl) ?_
        exact VX.nil ⟨rfl, rfl⟩
      · refine VX.guardF rfl rfl hb3_4 ?_
        refine VX.guardF rfl rfl hb3_4 ?_
        refine VX.guardF rfl rfl hb3_4 ?_
        exact VX.pickO rfl (fun h => absurd (h.symm.trans hb3_4) (by decide)) (VX.nil ⟨rfl, rfl⟩)
    refine VX.nil ?_
    refine VC.cond rfl (fun hc1 => ?_) (fun hc1 => ?_)
    · exact absurd hc1 (by simp [hc1', hc2'])
    · (try simp only [au_std] at hc1)
      refine VC.skip ?_
      refine VC.reg tab_ok [] rfl ?_
      refine VX.meek rfl ?_
      first | refine VX.meek rfl ?_ | refine VX.loadI rfl rfl au_l ?_ | refine VX.loadP rfl rfl rfl au_l ?_
      refine VX.meek rfl ?_
      first | refine VX.meek rfl ?_ | refine VX.loadI rfl rfl au_l ?_ | refine VX.loadP rfl rfl rfl au_l ?_
      refine VX.mul rfl rfl (by dsimp only; rw [hm]; omega) ?_
      refine VX.mkS (a := 0) (b := rw * rh) rfl rfl rfl rfl rfl rfl rfl hm (by omega) (by omega) (by dsimp only; omega) ?_
      refine VX.meek rfl ?_
      refine VX.nil ?_
      refine VC.seq ?_
      refine VC.reg tab_ok [] rfl ?_
      refine VX.meek rfl ?_
      first | refine VX.meek rfl ?_ | refine VX.loadI rfl rfl au_l ?_ | refine VX.loadP rfl rfl rfl au_l ?_
      refine VX.meek rfl ?_
      refine VX.nil ?_
      refine VC.block ?_
      refine VC.loopS2 (σ1 := Nat) (σ2 := List T) (fun y _ => rh - y) (fun y tl => y ≤ rh ∧ T.pureL tl = true) (fun y _ => [(42, I64 y), (6, .ptr 0 0), (8, .slc 1 0 (y * rw) 1 none)]) (fun y tl => [.c [I64 0, I64 0, NIL], .c (encL cU (C.take (y * rw)) ++ tl)]) [2, 3, 4, 41] rfl (0) (zeros (rw * rh) [U8 0]) ?_ ?_ ?_
      · refine ⟨[some 0, some 1], rfl, by first | trivial | decide, rfl, ?_, ?_⟩ <;> (repeat' first | exact trivial | exact CvB_n | exact CvB_d | refine CvE_app ?_ ?_ | refine CvE_cons rfl ?_ ?_ | refine CvH_cons ?_ ?_ | refine CvB_c rfl ?_ | fail) <;> first | exact au_v | (first | exact Cv.slcE rfl (by simp) (.inr rfl) | (rw [Nat.zero_mul, List.take_zero]; exact CvL.pure (pureL_zeros rfl)) | exact CvL.pure rfl)
      · exact ⟨by omega, pureL_zeros rfl⟩
      rintro y tl ⟨hy', htl⟩
      refine VC.reg tab_ok [] rfl ?_
      refine VX.meek rfl ?_
      refine VX.nil ?_
      refine VC.seq ?_
      refine VC.cond rfl (fun hc2 => ?_) (fun hc2 => ?_)
      · (try simp only [au_std] at hc2); have hyl : y < rh := (by omega)
        refine VC.skip ?_
        refine VC.seq ?_
        refine VC.block ?_
        refine VC.reg tab_ok [] rfl ?_
        iterate 2 refine VX.meek rfl ?_
        refine VX.nil ?_
        refine VC.reg tab_ok [] rfl ?_
        refine VX.meek rfl ?_
        first | refine VX.meek rfl ?_ | refine VX.loadI rfl rfl au_l ?_ | refine VX.loadP rfl rfl rfl au_l ?_
        refine VX.meek rfl ?_
        refine VX.nil ?_
        refine VC.block ?_
        refine VC.loopS2 (σ1 := Nat) (σ2 := List T) (fun x _ => rw - x) (fun x tl => x ≤ rw ∧ T.pureL tl = true) (fun x _ => [(47, I64 x), (6, .ptr 0 0), (8, .slc 1 0 (y * rw + x) 1 none)]) (fun x tl => [.c [I64 0, I64 0, NIL], .c (encL cU (C.take (y * rw + x)) ++ tl)]) [2, 3, 4, 9, 41, 42, 46] rfl (0) (tl) ?_ ?_ ?_
        · refine ⟨[some 0, some 1], rfl, by first | trivial | decide, rfl, ?_, ?_⟩ <;> (repeat' first | exact trivial | exact CvB_n | exact CvB_d | refine CvE_app ?_ ?_ | refine CvE_cons rfl ?_ ?_ | refine CvH_cons ?_ ?_ | refine CvB_c rfl ?_ | fail) <;> first | exact au_v | (first | exact Cv.slcE rfl (by simp) (.inl rfl) | (rw [Nat.add_zero]; exact CvL.pure (pureL_append (encL_pure cU _) htl)) | exact CvL.pure rfl)
        · exact ⟨by omega, htl⟩
        rintro x tl2 ⟨hx', htl2⟩
        refine VC.reg tab_ok [] rfl ?_
        refine VX.meek rfl ?_
        refine VX.nil ?_
        refine VC.seq ?_
        refine VC.cond rfl (fun hc3 => ?_) (fun hc3 => ?_)
        · (try simp only [au_std] at hc3); have hxl : x < rw := (by omega); have hat := (hca x y hxl hyl).2; have hlt := (hca x y hxl hyl).1; have hsn := take_snoc (l := C) (k := y * rw + x) (by omega); have htk : (C.take (y * rw + x)).length = y * rw + x := (by rw [List.length_take]; omega)
          have hcl3 : (encL cU (C.take (y * rw + x)) ++ tl2).length = y * rw + x + tl2.length := (by rw [List.length_append, encL_len, cU_sz, htk, Nat.mul_one])
          refine VC.skip ?_
          refine VC.seq ?_
          refine VC.block ?_
          refine VC.reg tab_ok [] rfl ?_
          iterate 2 refine VX.meek rfl ?_
          refine VX.nil ?_
          refine VC.reg tab_ok [] rfl ?_
          iterate 2 refine VX.meek rfl ?_
          refine VX.nil ?_
          refine VC.seq ?_
          refine VC.reg tab_ok [] rfl ?_
          first | refine VX.meek rfl ?_ | refine VX.loadI rfl rfl au_l ?_ | refine VX.loadP rfl rfl rfl au_l ?_
          refine VX.meek rfl ?_
          first | refine VX.meek rfl ?_ | refine VX.loadI rfl rfl au_l ?_ | refine VX.loadP rfl rfl rfl au_l ?_
          refine VX.meek rfl ?_
          refine VX.add rfl rfl (by dsimp only; omega) ?_
          refine VX.meek rfl ?_
          first | refine VX.meek rfl ?_ | refine VX.loadI rfl rfl au_l ?_ | refine VX.loadP rfl rfl rfl au_l ?_
          refine VX.meek rfl ?_
          refine VX.add rfl rfl (by dsimp only; omega) ?_
          refine VX.callP0 rfl rfl rfl (ghas_n w h px (X + x) (Y + y)) ?_
          refine VX.nil ?_
          refine VC.cond rfl (fun hc4 => ?_) (fun hc4 => ?_)
          · have hv : C[y * rw + x]! = px[((Y + y) * w + (X + x)).toNat]! := hat.trans (if_pos hc4); have hag : atG w h px (X + x) (Y + y) = C[y * rw + x]! := (if_pos hc4).trans hv.symm
            refine VC.regN tab_ok [] rfl ?_
            first | refine VX.meek rfl ?_ | refine VX.loadI rfl rfl au_l ?_ | refine VX.loadP rfl rfl rfl au_l ?_
            refine VX.meek rfl ?_
            first | refine VX.meek rfl ?_ | refine VX.loadI rfl rfl au_l ?_ | refine VX.loadP rfl rfl rfl au_l ?_
            refine VX.meek rfl ?_
            refine VX.add rfl rfl (by dsimp only; omega) ?_
            refine VX.meek rfl ?_
            first | refine VX.meek rfl ?_ | refine VX.loadI rfl rfl au_l ?_ | refine VX.loadP rfl rfl rfl au_l ?_
            refine VX.meek rfl ?_
            refine VX.add rfl rfl (by dsimp only; omega) ?_
            refine VX.callP0 rfl rfl rfl (hag ▸ gat_p w h px (X + x) (Y + y) hw hh hl hb) ?_
            refine VX.meek rfl ?_
            refine VX.nil ?_
            refine VC.regN tab_ok [73] rfl ?_
            iterate 2 refine VX.meek rfl ?_
            refine VX.newI rfl rfl ?_
            refine VX.append rfl rfl rfl rfl rfl rfl rfl rfl (by rw [hcl3]; omega) (by dsimp only; omega) (by omega) rfl rfl ?_
            refine VX.meek rfl ?_
            refine VX.nil ?_
            refine VC.regN tab_ok [] rfl ?_
            first | refine VX.add rfl rfl (by omega) ?_ | refine VX.meek rfl ?_
            refine VX.meek rfl ?_
            refine VX.nil ?_
            refine ⟨x + 1, [], by (try dsimp only); omega, ?_, (by refine ⟨[some 0, some 2], rfl, by first | trivial | decide, rfl, ?_, ?_⟩ <;> (repeat' first | exact trivial | exact CvB_n | exact CvB_d | refine CvE_app ?_ ?_ | refine CvE_cons rfl ?_ ?_ | refine CvH_cons ?_ ?_ | refine CvB_c rfl ?_ | fail) <;> first | exact au_v | (first | exact Cv.slcE rfl (by omega) (.inl rfl) | exact CvL.pure rfl | (rw [show y * rw + (x + 1) = y * rw + x + 1 from rfl, hsn]; exact CvL.eq (app_one cU htk.symm rfl rfl) (by rw [List.append_nil]; exact encL_pure cU _))))⟩
            exact ⟨by omega, rfl⟩
          · have hv : C[y * rw + x]! = out := hat.trans (if_neg (by rw [hc4]; simp))
            refine VC.skip ?_
            refine VC.regN tab_ok [73] rfl ?_
            iterate 2 refine VX.meek rfl ?_
            refine VX.newI rfl rfl ?_
            refine VX.append rfl rfl rfl rfl rfl rfl rfl rfl (by rw [hcl3]; omega) (by dsimp only; omega) (by omega) rfl rfl ?_
            refine VX.meek rfl ?_
            refine VX.nil ?_
            refine VC.regN tab_ok [] rfl ?_
            first | refine VX.add rfl rfl (by omega) ?_ | refine VX.meek rfl ?_
            refine VX.meek rfl ?_
            refine VX.nil ?_
            refine ⟨x + 1, [], by (try dsimp only); omega, ?_, (by refine ⟨[some 0, some 2], rfl, by first | trivial | decide, rfl, ?_, ?_⟩ <;> (repeat' first | exact trivial | exact CvB_n | exact CvB_d | refine CvE_app ?_ ?_ | refine CvE_cons rfl ?_ ?_ | refine CvH_cons ?_ ?_ | refine CvB_c rfl ?_ | fail) <;> first | exact au_v | (first | exact Cv.slcE rfl (by omega) (.inl rfl) | exact CvL.pure rfl | (rw [show y * rw + (x + 1) = y * rw + x + 1 from rfl, hsn]; exact CvL.eq (app_one cU htk.symm (by rw [hv]; rfl) rfl) (by rw [List.append_nil]; exact encL_pure cU _))))⟩
            exact ⟨by omega, rfl⟩
        · (try simp only [au_std] at hc3); obtain rfl : x = rw := (by omega)
          refine VC.exit ?_
          refine VC.regN tab_ok [] rfl ?_
          first | refine VX.add rfl rfl (by omega) ?_ | refine VX.meek rfl ?_
          refine VX.meek rfl ?_
          refine VX.nil ?_
          refine ⟨y + 1, tl2, by (try dsimp only); omega, ?_, (by refine ⟨[some 0, some 1], rfl, by first | trivial | decide, rfl, ?_, ?_⟩ <;> (repeat' first | exact trivial | exact CvB_n | exact CvB_d | refine CvE_app ?_ ?_ | refine CvE_cons rfl ?_ ?_ | refine CvH_cons ?_ ?_ | refine CvB_c rfl ?_ | fail) <;> first | exact au_v | (first | exact Cv.slcE rfl (by rw [Nat.add_mul, Nat.one_mul]) (.inl rfl) | exact CvL.pure rfl | (rw [Nat.add_mul, Nat.one_mul]; exact CvL.pure (pureL_append (encL_pure cU _) htl2))))⟩
          exact ⟨by omega, htl2⟩
      · (try simp only [au_std] at hc2); obtain rfl : y = rh := (by omega); have hct : C.take (y * rw) = C := List.take_of_length_le (by rw [Nat.mul_comm]; omega); rw [hct]; have hgl : y * rw = C.length := (by rw [hcl, Nat.mul_comm]); rw [hgl]
        refine VC.exit ?_
        refine VC.reg tab_ok [] rfl ?_
        refine VX.meek rfl ?_
        first | refine VX.meek rfl ?_ | refine VX.loadI rfl rfl au_l ?_ | refine VX.loadP rfl rfl rfl au_l ?_
        refine VX.meek rfl ?_
        first | refine VX.meek rfl ?_ | refine VX.loadI rfl rfl au_l ?_ | refine VX.loadP rfl rfl rfl au_l ?_
        iterate 2 refine VX.meek rfl ?_
        refine VX.store rfl rfl rfl rfl rfl au_sR rfl ?_
        refine VX.meek rfl ?_
        refine VX.nil ?_
        refine VC.ret ?_
        exact ⟨trivial, _, rfl, Cv.tup (CvL.cons (Cv.agg (cv_g (Cv.fslcA ⟨rfl, by simp⟩ (CvL.pure (encL_pure cU _))))) (CvL.cons (Cv.pure rfl) CvL.nil))⟩
/- what is got -/
noncomputable def unseenR (seen : List Rect) (w h : Nat) (X Y : Int) : List Rect := shiftR (opL subB (bandOf [⟨0, 0, w, h⟩]) seen) (-X) (-Y)
noncomputable def getL (w h : Nat) (px : List Int) (seen : List Rect) (X Y : Int) (rw rh : Nat) (out : Int) : List Int := paintL rw (inL (unseenR seen w h X Y)) (flF out) (cropL w h px X Y rw rh out)
theorem get_bad (w h : Nat) (px : List Int) (seen : List Rect) (r : Rect) (out e : Int) (he : e ≠ 0) (hc : CallP Tryz.prog 17 [gT w h px, rectT r, U8 out] (.tup [gT 0 0 [], I64 e])) : CallP Tryz.prog 7 [gT w h px, regT seen, rectT r, U8 out] (.tup [gT 0 0 [], I64 e]) := by
  refine CallP.intro2 au_pu au_pu ?_
  refine CallT.intro tab_ok Tryz.func7 rfl (by kernel_rfl) (Nat.le_of_ble_eq_true rfl) ?_
  refine VC.reg tab_ok [4, 5, 6] rfl ?_
  refine VX.newI rfl rfl ?_
  refine VX.newI rfl rfl ?_
  refine VX.newI rfl rfl ?_
  refine VX.new rfl rfl ?_
  refine VX.meek rfl ?_
  refine VX.nil ?_
  refine VC.reg tab_ok [] rfl ?_
  first | refine VX.meek rfl ?_ | refine VX.loadI rfl rfl au_l ?_ | refine VX.loadP rfl rfl rfl au_l ?_
  first | refine VX.meek rfl ?_ | refine VX.loadI rfl rfl au_l ?_ | refine VX.loadP rfl rfl rfl au_l ?_
  refine VX.meek rfl ?_
  refine VX.callP0 rfl rfl rfl (hc) ?_
  iterate 3 refine VX.meek rfl ?_
  refine VX.new rfl rfl ?_
  refine VX.store rfl rfl rfl rfl rfl au_sR rfl ?_
  refine VX.meek rfl ?_
  refine VX.nil ?_
  refine VC.seq ?_
  refine VC.reg tab_ok [] rfl ?_
  iterate 2 refine VX.meek rfl ?_
  refine VX.nil ?_
  refine VC.cond rfl (fun hc0 => ?_) (fun hc0 => ?_)
  · (try simp only [au_std] at hc0)
    refine VC.reg tab_ok [] rfl ?_
    iterate 2 refine VX.meek rfl ?_
    refine VX.store rfl rfl rfl rfl rfl au_sR rfl ?_
    refine VX.meek rfl ?_
    refine VX.nil ?_
    refine VC.ret ?_
    exact ⟨trivial, _, rfl, Cv.tup (CvL.cons (Cv.agg (CvL.cons (Cv.pure rfl) (CvL.cons (Cv.pure rfl) (CvL.cons (Cv.nil _ (.inl rfl)) CvL.nil)))) (CvL.cons (Cv.pure rfl) CvL.nil))⟩
  · exact absurd hc0 (by simp [he])
theorem get_p {n : Nat} (w h : Nat) (px : List Int) (seen : List Rect) (X Y : Int) (rw rh : Nat) (out : Int) (hs : Reg n seen) (hn : n ≤ 400) (hw : w ≤ 128) (hh : h ≤ 128) (hl : px.length = w * h) (hb : ∀ v ∈ px, 0 ≤ v ∧ v < 256) (ho : 0 ≤ out ∧ out < 256) (hrw : 1 ≤ rw ∧ rw ≤ 128) (hrh : 1 ≤ rh ∧ rh ≤ 128) (hx : -1048576 ≤ X ∧ X ≤ 1048576) (hy : -1048576 ≤ Y ∧ Y ≤ 1048576) :
    CallP Tryz.prog 7 [gT w h px, regT seen, rectT ⟨X, Y, rw, rh⟩, U8 out] (.tup [gT rw rh (getL w h px seen X Y rw rh out), I64 0]) := by
  have hP : Reg 2 (bandOf [⟨0, 0, (w : Int), (h : Int)⟩]) := Reg.of [⟨0, 0, (w : Int), (h : Int)⟩]
  have hM := opL_reg (k := subB) rfl hP hs
  have hS := hM.shift (-X) (-Y)
  have hcl := cropL_len w h px X Y rw rh out
  have hcb := cropL_bd (h := h) (w := w) hb X Y rw rh ho
  have hcr := crop_p w h px X Y rw rh out hw hh hl hb hrw hrh hx hy
  have hfl := fill_p rw rh (cropL w h px X Y rw rh out) (unseenR seen w h X Y) out hrw.2 hrh.2 hcl hcb hS.ok (Nat.le_trans hS.len (Nat.le_trans (Nat.mul_le_mul (show 2 + n + 2 ≤ 404 by omega) (show 2 + n + 2 ≤ 404 by omega)) (by decide)))
  have hof := of_p [⟨0, 0, (w : Int), (h : Int)⟩] (by simp) (fun q hq => by rw [List.mem_singleton] at hq; subst hq; unfold i64; dsimp only; omega)
  have hmi := minus_p hP hs (by omega)
  have hsh := shiftR_p hM (by omega) (-X) (-Y)
  change CallP _ _ _ (regT (unseenR seen w h X Y)) at hsh
  have hgl : (getL w h px seen X Y rw rh out).length = rw * rh := by unfold getL; rw [paintL_len, hcl]
  change CallP _ _ _ (gT rw rh (getL w h px seen X Y rw rh out)) at hfl
  generalize getL w h px seen X Y rw rh out = G at *
  generalize cropL w h px X Y rw rh out = C at *
  generalize unseenR seen w h X Y = U at *
  generalize opL subB (bandOf [⟨0, 0, (w : Int), (h : Int)⟩]) seen = M at *
  refine CallP.intro2 au_pu au_pu ?_
  refine CallT.intro tab_ok Tryz.func7 rfl (by kernel_rfl) (Nat.le_of_ble_eq_true rfl) ?_
  refine VC.reg tab_ok [4, 5, 6] rfl ?_
  refine VX.newI rfl rfl ?_
  refine VX.newI rfl rfl ?_
  refine VX.newI rfl rfl ?_
  refine VX.new rfl rfl ?_
  refine VX.meek rfl ?_
  refine VX.nil ?_
  refine VC.reg tab_ok [] rfl ?_
  first | refine VX.meek rfl ?_ | refine VX.loadI rfl rfl au_l ?_ | refine VX.loadP rfl rfl rfl au_l ?_
  first | refine VX.meek rfl ?_ | refine VX.loadI rfl rfl au_l ?_ | refine VX.loadP rfl rfl rfl au_l ?_
  refine VX.meek rfl ?_
  refine VX.callP0 rfl rfl rfl (hcr) ?_
  iterate 3 refine VX.meek rfl ?_
  refine VX.new rfl rfl ?_
  refine VX.store rfl rfl rfl rfl rfl au_sR rfl ?_
  refine VX.meek rfl ?_
  refine VX.nil ?_
  refine VC.seq ?_
  refine VC.reg tab_ok [] rfl ?_
  iterate 2 refine VX.meek rfl ?_
  refine VX.nil ?_
  refine VC.cond rfl (fun hc0 => ?_) (fun hc0 => ?_)
  · exact absurd hc0 (by simp)
  · (try simp only [au_std] at hc0)
    refine VC.skip ?_
    refine VC.reg tab_ok [] rfl ?_
    first | refine VX.meek rfl ?_ | refine VX.loadI rfl rfl au_l ?_ | refine VX.loadP rfl rfl rfl au_l ?_
    refine VX.callP0 rfl rfl rfl ((show CallP Tryz.prog 18 [gT w h px] (.tup [I64 w, I64 h]) from size_p ⟨w, h, px⟩)) ?_
    iterate 5 refine VX.meek rfl ?_
    refine VX.nil ?_
    refine VC.drw tab_ok [34] [_, _, _, _, _, _, _, _] rfl (by kernel_rfl) (by kernel_rfl) ?_
    iterate 3 refine VX.meek rfl ?_
    refine VX.newI rfl rfl ?_
    refine VX.callP rfl rfl hof au_wk rfl ?_
    first | refine VX.meek rfl ?_ | refine VX.loadI rfl rfl au_l ?_ | refine VX.loadP rfl rfl rfl au_l ?_
    refine VX.callP0 rfl rfl rfl (hmi) ?_
    refine VX.new rfl rfl ?_
    refine VX.nil ?_
    refine VX.store rfl rfl rfl rfl rfl au_sR rfl ?_
    refine VX.nil ?_
    refine VC.drw tab_ok [] [_, _, _, _, _, _, _, _, _, _, _] rfl (by kernel_rfl) (by kernel_rfl) ?_
    first | refine VX.meek rfl ?_ | refine VX.loadI rfl rfl au_l ?_ | refine VX.loadP rfl rfl rfl au_l ?_
    first | refine VX.meek rfl ?_ | refine VX.loadI rfl rfl au_l ?_ | refine VX.loadP rfl rfl rfl au_l ?_
    refine VX.meek rfl ?_
    first | refine VX.meek rfl ?_ | refine VX.loadI rfl rfl au_l ?_ | refine VX.loadP rfl rfl rfl au_l ?_
    refine VX.meek (t := I64 (-X)) (by show some (T.v (.int .i64 (IntKind.i64.wrap (0 - X))), (none : Option (Nat × List T))) = _; rw [wrap_in (by omega), Int.zero_sub]) ?_
    refine VX.meek rfl ?_
    first | refine VX.meek rfl ?_ | refine VX.loadI rfl rfl au_l ?_ | refine VX.loadP rfl rfl rfl au_l ?_
    refine VX.meek (t := I64 (-Y)) (by show some (T.v (.int .i64 (IntKind.i64.wrap (0 - Y))), (none : Option (Nat × List T))) = _; rw [wrap_in (by omega), Int.zero_sub]) ?_
    refine VX.callP0 rfl rfl rfl (hsh) ?_
    refine VX.meek rfl ?_
    refine VX.callP0 rfl rfl rfl (hfl) ?_
    refine VX.nil ?_
    refine VX.store rfl rfl rfl rfl rfl au_sR rfl ?_
    refine VX.meek rfl ?_
    refine VX.nil ?_
    refine VC.ret ?_
    exact ⟨trivial, _, rfl, Cv.tup (CvL.cons (Cv.agg (cv_g (Cv.pure (encL_pure cU _)))) (CvL.cons (Cv.pure rfl) CvL.nil))⟩
end
section
def runGo (m : Nat) (l : List UInt8) : Nat → Nat → Nat
  | 0, k => k
  | f + 1, k => if k < m ∧ k < l.length ∧ l.getD k 0 = l.getD 0 0 then runGo m l f (k + 1) else k
def runBy (l : List UInt8) : Nat := runGo 130 l 130 1
theorem runGo_ge (m : Nat) (l : List UInt8) : ∀ f k, k ≤ runGo m l f k
  | 0, k => Nat.le_refl _
  | f + 1, k => by
    rw [runGo]
    split
    · have := runGo_ge m l f (k + 1); omega
    · exact Nat.le_refl _
theorem runGo_le (m : Nat) (l : List UInt8) : ∀ f k, k ≤ m → runGo m l f k ≤ m
  | 0, k, h => h
  | f + 1, k, h => by
    rw [runGo]
    split
    · rename_i hc; exact runGo_le m l f (k + 1) (by omega)
    · exact h
theorem runGo_len (m : Nat) (l : List UInt8) : ∀ f k, k ≤ l.length → runGo m l f k ≤ l.length
  | 0, k, h => h
  | f + 1, k, h => by
    rw [runGo]
    split
    · rename_i hc; exact runGo_len m l f (k + 1) (by omega)
    · exact h
theorem runL_bd (l : List UInt8) : 1 ≤ runBy l ∧ runBy l ≤ 130 := ⟨runGo_ge _ _ _ _, runGo_le _ _ _ _ (by omega)⟩
theorem runBy_len (l : List UInt8) (h : 1 ≤ l.length) : runBy l ≤ l.length := runGo_len _ _ _ _ h
def plainGo (l : List UInt8) : Nat → Nat → Nat
  | 0, k => k
  | f + 1, k => if k < l.length ∧ k < 128 ∧ runBy (l.drop k) < 3 then plainGo l f (k + 1) else k
def plainL (l : List UInt8) : Nat := plainGo l 128 1
theorem plainGo_ge (l : List UInt8) : ∀ f k, k ≤ plainGo l f k
  | 0, k => Nat.le_refl _
  | f + 1, k => by
    rw [plainGo]
    split
    · have := plainGo_ge l f (k + 1); omega
    · exact Nat.le_refl _
theorem plainGo_le (l : List UInt8) : ∀ f k, k ≤ 128 → k ≤ l.length → plainGo l f k ≤ 128 ∧ plainGo l f k ≤ l.length
  | 0, k, h, h' => ⟨h, h'⟩
  | f + 1, k, h, h' => by
    rw [plainGo]
    split
    · rename_i hc; exact plainGo_le l f (k + 1) (by omega) (by omega)
    · exact ⟨h, h'⟩
theorem plainL_bd (l : List UInt8) (h : 1 ≤ l.length) : 1 ≤ plainL l ∧ plainL l ≤ 128 ∧ plainL l ≤ l.length :=
  ⟨plainGo_ge _ _ _, plainGo_le _ _ _ (by omega) h⟩
def shortF : Nat → List UInt8 → List UInt8
  | 0, _ => []
  | _ + 1, [] => []
  | f + 1, x :: t =>
    if 3 ≤ runBy (x :: t) then UInt8.ofNat (125 + runBy (x :: t)) :: x :: shortF f ((x :: t).drop (runBy (x :: t)))
    else UInt8.ofNat (plainL (x :: t) - 1) :: ((x :: t).take (plainL (x :: t)) ++ shortF f ((x :: t).drop (plainL (x :: t))))
def short (l : List UInt8) : List UInt8 := shortF l.length l
theorem shortF_more : ∀ (f g : Nat) (l : List UInt8), l.length ≤ f → l.length ≤ g → shortF f l = shortF g l
  | 0, g, l, h, _ => by
    obtain rfl : l = [] := List.length_eq_zero_iff.1 (by omega)
    cases g <;> rfl
  | f + 1, 0, l, _, h => by
    obtain rfl : l = [] := List.length_eq_zero_iff.1 (by omega)
    rfl
  | f + 1, g + 1, [], _, _ => rfl
  | f + 1, g + 1, x :: t, h1, h2 => by
    have r1 := (runL_bd (x :: t)).1
    have p1 := (plainL_bd (x :: t) (by simp)).1
    simp only [List.length_cons] at h1 h2
    rw [shortF, shortF, shortF_more f g ((x :: t).drop (runBy (x :: t))) (by simp; omega) (by simp; omega), shortF_more f g ((x :: t).drop (plainL (x :: t))) (by simp; omega) (by simp; omega)]
theorem short_nil : short [] = [] := rfl
theorem short_run (l : List UInt8) (h0 : 1 ≤ l.length) (h : 3 ≤ runBy l) : short l = UInt8.ofNat (125 + runBy l) :: l.getD 0 0 :: short (l.drop (runBy l)) := by
  match l, h0 with
  | x :: t, _ =>
    have r1 := (runL_bd (x :: t)).1
    rw [short, List.length_cons, shortF, if_pos h, short, shortF_more t.length _ _ (by simp; omega) (Nat.le_refl _)]
    rfl
theorem short_plain (l : List UInt8) (h0 : 1 ≤ l.length) (h : ¬ 3 ≤ runBy l) : short l = UInt8.ofNat (plainL l - 1) :: (l.take (plainL l) ++ short (l.drop (plainL l))) := by
  match l, h0 with
  | x :: t, _ =>
    have p1 := (plainL_bd (x :: t) (by simp)).1
    rw [short, List.length_cons, shortF, if_neg h, short, shortF_more t.length _ _ (by simp; omega) (Nat.le_refl _)]
theorem plainGo_stop (l : List UInt8) : ∀ f k, 128 ≤ k + f → plainGo l f k < 128 → plainGo l f k < l.length → 3 ≤ runBy (l.drop (plainGo l f k))
  | 0, k, hf, h, _ => by simp only [plainGo] at h; omega
  | f + 1, k, hf, h, h' => by
    rw [plainGo] at h h' ⊢
    split
    · rename_i hc
      rw [if_pos hc] at h h'
      exact plainGo_stop l f (k + 1) (by omega) h h'
    · rename_i hc
      rw [if_neg hc] at h h'
      by_cases hr : 3 ≤ runBy (l.drop k)
      · exact hr
      · exact absurd ⟨h', h, by omega⟩ hc
theorem plain_stop (l : List UInt8) (h : plainL l < 128) (h' : plainL l < l.length) : 3 ≤ runBy (l.drop (plainL l)) := plainGo_stop l 128 1 (by omega) h h'
theorem short_len2 : ∀ (n : Nat) (l : List UInt8), l.length ≤ n →
    (short l).length ≤ l.length + (l.length + 127) / 128 ∧ (3 ≤ runBy l → 1 ≤ l.length → (short l).length + 1 ≤ l.length + (l.length + 127) / 128)
  | 0, l, h => by
    obtain rfl : l = [] := List.length_eq_zero_iff.1 (by omega)
    simp [short_nil]
  | n + 1, l, h => by
    by_cases hl : 1 ≤ l.length
    · by_cases hr : 3 ≤ runBy l
      · have r2 := runBy_len l hl
        have ih := (short_len2 n (l.drop (runBy l)) (by simp; omega)).1
        rw [short_run l hl hr]
        simp only [List.length_cons, List.length_drop] at ih ⊢
        omega
      · have p := plainL_bd l hl
        have ih := short_len2 n (l.drop (plainL l)) (by simp; omega)
        have hs := plain_stop l
        rw [short_plain l hl hr]
        simp only [List.length_cons, List.length_append, List.length_take, List.length_drop] at ih ⊢
        rw [Nat.min_eq_left p.2.2]
        refine ⟨?_, fun h => absurd h hr⟩
        by_cases h1 : plainL l = l.length
        · omega
        · by_cases h2 : plainL l = 128
          · omega
          · have := ih.2 (hs (by omega) (by omega)) (by omega)
            omega
    · obtain rfl : l = [] := List.length_eq_zero_iff.1 (by omega)
      simp [short_nil]
theorem short_len (l : List UInt8) : (short l).length ≤ l.length + (l.length + 127) / 128 := (short_len2 l.length l (Nat.le_refl _)).1

/- a run alone -/
def errShort : Nat := 3
def errLong : Nat := 4
def stepL (n : UInt8) (rest : List UInt8) : Option (List UInt8 × List UInt8) :=
  if n.toNat < 128 then (if rest.length < n.toNat + 1 then none else some (rest.take (n.toNat + 1), rest.drop (n.toNat + 1)))
  else if rest.length = 0 then none else some (List.replicate (n.toNat - 125) (rest.getD 0 0), rest.drop 1)
def longF : Nat → List UInt8 → List UInt8 → List UInt8 × Nat
  | 0, _, acc => (acc, 0)
  | _ + 1, [], acc => (acc, 0)
  | f + 1, n :: rest, acc => match stepL n rest with
    | none => ([], errShort)
    | some (part, more) => if 65536 < acc.length + part.length then ([], errLong) else longF f more (acc ++ part)
def long (s : List UInt8) : List UInt8 × Nat := if 131072 < s.length then ([], errLong) else longF s.length s []
theorem stepL_less {n : UInt8} {rest part more : List UInt8} (h : stepL n rest = some (part, more)) : more.length < rest.length + 1 ∧ part.length ≤ 130 := by
  unfold stepL at h
  have := n.toNat_lt
  split at h
  · split at h
    · cases h
    · simp only [Option.some.injEq, Prod.mk.injEq] at h
      obtain ⟨rfl, rfl⟩ := h
      rw [List.length_drop, List.length_take]; omega
  · split at h
    · cases h
    · simp only [Option.some.injEq, Prod.mk.injEq] at h
      obtain ⟨rfl, rfl⟩ := h
      rw [List.length_drop, List.length_replicate]; omega
theorem longF_more : ∀ (f g : Nat) (s acc : List UInt8), s.length ≤ f → s.length ≤ g → longF f s acc = longF g s acc
  | 0, g, s, acc, h, _ => by
    obtain rfl : s = [] := List.length_eq_zero_iff.1 (by omega)
    cases g <;> rfl
  | f + 1, 0, s, acc, _, h => by
    obtain rfl : s = [] := List.length_eq_zero_iff.1 (by omega)
    rfl
  | f + 1, g + 1, [], acc, _, _ => rfl
  | f + 1, g + 1, n :: rest, acc, h1, h2 => by
    simp only [List.length_cons] at h1 h2
    rw [longF, longF]
    split
    · rfl
    · rename_i part more he
      have := (stepL_less he).1
      rw [longF_more f g more (acc ++ part) (by omega) (by omega)]
def longR (s acc : List UInt8) : List UInt8 × Nat := longF s.length s acc
theorem longR_nil (acc : List UInt8) : longR [] acc = (acc, 0) := rfl
theorem longR_cons (n : UInt8) (rest acc : List UInt8) : longR (n :: rest) acc = match stepL n rest with
    | none => ([], errShort)
    | some (part, more) => if 65536 < acc.length + part.length then ([], errLong) else longR more (acc ++ part) := by
  unfold longR
  rw [List.length_cons, longF]
  split
  · rfl
  · rename_i part more he
    have := (stepL_less he).1
    rw [longF_more rest.length more.length more _ (by omega) (Nat.le_refl _)]
theorem long_eq (s : List UInt8) (h : s.length ≤ 131072) : long s = longR s [] := by rw [long, if_neg (by omega), longR]
end
section
open Go.RowKit
theorem below_next {a w w' : World} (h : Below a.heap.size a w) (h2 : Below w.heap.size w w') : Below a.heap.size a w' := h.trans (h2.mono h.size)
theorem runGo_yes {l : List UInt8} {k : Nat} (h1 : k < 130) (h2 : k < l.length) (h3 : l.getD k 0 = l.getD 0 0) : runGo 130 l (131 - k) k = runGo 130 l (131 - (k + 1)) (k + 1) := by
  rw [show 131 - k = (131 - (k + 1)) + 1 by omega, runGo, if_pos ⟨h1, h2, h3⟩]
theorem runGo_no {l : List UInt8} {k : Nat} (hk : k ≤ 130) (h : ¬ (k < 130 ∧ k < l.length ∧ l.getD k 0 = l.getD 0 0)) : runGo 130 l (131 - k) k = k := by
  rw [show 131 - k = (131 - (k + 1)) + 1 by omega, runGo, if_neg h]
def byteAt (s : ByteArray) (k : Nat) : Int := ((s.data.toList.getD k 0).toNat : Int)
theorem idx_str {P : Program} {t : TypeId} (h : P.underlying t = some .string) (s : ByteArray) (k : Nat) (n : Int) (hn : n = k) (hk : k < s.size) :
    ∀ w : World, (Instr.index t (.string s) (.int .i64 n)).run P w = .ok (.int .u8 (byteAt s k)) w := by
  intro w
  subst hn
  rw [run_index_string w t s .i64 k h, dif_pos ⟨by omega, by omega⟩]
  have hl : k < s.data.toList.length := by simpa using hk
  have e : (s[(k : Int).toNat]'(by simpa using hk)) = s.data.toList.getD k 0 := by
    rw [List.getD_eq_getElem?_getD, List.getElem?_eq_getElem hl]
    simp only [Int.toNat_natCast, Option.getD_some]
    rfl
  rw [e]
  rfl
set_option maxHeartbeats 400000 in
theorem run_any (s : ByteArray) (i : Nat) (w : World) (hs : s.size ≤ 65536) (hi : i < s.size) :
    Calls Tryz.prog 51 #[.string s, .int .i64 i] w fun e w' => e = .returned (.int .i64 (runBy (s.data.toList.drop i))) ∧ Below w.heap.size w w' := by
  go_enter Tryz.func51, Tryz.ntmps51
  go_wp2_with fail
  go_loopw [5] (fun n wr => ∃ k : Nat, 1 ≤ k ∧ k ≤ 130 ∧ n = .int .i64 k ∧ Hid (runGo 130 (s.data.toList.drop i) (131 - k) k = runBy (s.data.toList.drop i)) ∧ Below w.heap.size w wr) (fun n _ => 130 - (intOf n).toNat)
  case atStart => exact ⟨1, by omega, by omega, rfl, rfl, Below.refl _ _⟩
  case round =>
    obtain ⟨k, hk1, hk2, rfl, hinv, hb⟩ := hrel
    by_cases h1 : k < 130
    · have h1' : decide ((k : Int) < 130) = true := by simp; omega
      by_cases h2 : i + k < s.size
      · have h2' : decide ((i : Int) + (k : Int) < (s.size : Int)) = true := by simp; omega
        have hw1 : IntKind.i64.wrap ((i : Int) + (k : Int)) = (i : Int) + (k : Int) := IntWalk.i64_in _ (by omega)
        have hw2 : (0 : Int) ≤ (i : Int) + (k : Int) := by omega
        have hw3 : ((i : Int) + (k : Int)).toNat = i + k := by omega
        have hx1 := idx_str Tryz.underlying9 s (i + k) ((i : Int) + (k : Int)) (by omega) h2
        have hx2 := idx_str Tryz.underlying9 s i (i : Int) rfl hi
        have hl : k < (s.data.toList.drop i).length := by simp; omega
        have e1 : (s.data.toList.drop i).getD k 0 = s.data.toList.getD (i + k) 0 := by simp [List.getD]
        have e0 : (s.data.toList.drop i).getD 0 0 = s.data.toList.getD i 0 := by simp [List.getD]
        by_cases h3 : s.data.toList.getD (i + k) 0 = s.data.toList.getD i 0
        · have h3' : (byteAt s (i + k) == byteAt s i) = true := by rw [byteAt, byteAt, h3]; simp
          have hgo := Lib.hid (runGo_yes h1 hl (by rw [e1, e0, h3]))
          clear e1 e0 h3
          go_wp2_with fail
          go_quiet (fail)
          clear hw1 hw2 hw3
          go_wp2_with fail
          go_roundw
          case rel => exact ⟨k + 1, by omega, by omega, by go_num, hgo.out.symm.trans hinv.out, below_drewN hb _⟩
          case measure => simp [intOf]; omega
        · have h3' : (byteAt s (i + k) == byteAt s i) = false := by
            simp only [byteAt, beq_eq_false_iff_ne, ne_eq]
            intro h
            exact h3 (UInt8.toNat_inj.1 (by omega))
          have hgo := Lib.hid (runGo_no (l := s.data.toList.drop i) hk2 (fun h => h3 (by rw [← e1, ← e0]; exact h.2.2)))
          clear e1 e0 h3
          go_wp2_with fail
          go_quiet (fail)
          clear hw1 hw2 hw3
          go_wp2_with fail
          go_ret
          exact ⟨by rw [← hinv.out, hgo.out]; rfl, below_drewN hb _⟩
      · have h2' : decide ((i : Int) + (k : Int) < (s.size : Int)) = false := by simp; omega
        have hw1 : IntKind.i64.wrap ((i : Int) + (k : Int)) = (i : Int) + (k : Int) := IntWalk.i64_in _ (by omega)
        have hgo := Lib.hid (runGo_no (l := s.data.toList.drop i) hk2 (fun h => h2 (by have := h.2.1; simp at this; omega)))
        go_wp2_with fail
        go_quiet (fail)
        clear hw1
        go_wp2_with fail
        go_ret
        exact ⟨by rw [← hinv.out, hgo.out]; rfl, below_drewN hb _⟩
    · have h1' : decide ((k : Int) < 130) = false := by simp; omega
      have hgo := Lib.hid (runGo_no (l := s.data.toList.drop i) hk2 (fun h => h1 h.1))
      go_wp2_with fail
      go_quiet (fail)
      go_wp2_with fail
      go_ret
      exact ⟨by rw [← hinv.out, hgo.out]; rfl, below_drewN hb _⟩
end
section
open Go.RowKit
theorem plainGo_yes {l : List UInt8} {k : Nat} (h1 : k < l.length) (h2 : k < 128) (h3 : runBy (l.drop k) < 3) : plainGo l (129 - k) k = plainGo l (129 - (k + 1)) (k + 1) := by
  rw [show 129 - k = (129 - (k + 1)) + 1 by omega, plainGo, if_pos ⟨h1, h2, h3⟩]
theorem plainGo_no {l : List UInt8} {k : Nat} (hk : k ≤ 128) (h : ¬ (k < l.length ∧ k < 128 ∧ runBy (l.drop k) < 3)) : plainGo l (129 - k) k = k := by
  rw [show 129 - k = (129 - (k + 1)) + 1 by omega, plainGo, if_neg h]
theorem runBy_at (s : ByteArray) (i : Nat) (n : Int) (hn : n = i) (r : Nat) (hr : runBy (s.data.toList.drop i) = r) (w : World) (hs : s.size ≤ 65536) (hi : i < s.size) :
    Calls Tryz.prog 51 #[.string s, .int .i64 n] w fun e w' => e = .returned (.int .i64 r) ∧ Below w.heap.size w w' := by
  subst hn; subst hr; exact run_any s i w hs hi
theorem extract_list (s : ByteArray) (i t : Nat) (_ht : t ≤ s.size) : (s.extract i t).data.toList = (s.data.toList.drop i).take (t - i) := by
  rw [ByteArray.data_extract, Array.toList_extract, List.extract_eq_take_drop]
theorem extract_size (s : ByteArray) (i t : Nat) (ht : t ≤ s.size) : (s.extract i t).size = t - i := by
  have h := congrArg List.length (extract_list s i t ht)
  simp at h
  simp
  omega
theorem acc_len {acc m l : List UInt8} (h : acc ++ m = short l) (hl : l.length ≤ 65536) : acc.length ≤ 70000 := by
  have h1 := short_len l
  have h2 : acc.length ≤ (short l).length := by rw [← h]; simp
  omega
set_option maxRecDepth 100000 in
set_option maxHeartbeats 1000000 in
theorem short_walk (s : ByteArray) (w : World) (hs : s.size ≤ 65536) :
    Calls Tryz.prog 14 #[.string s] w fun e w' => e = .returned (.string ⟨(short s.data.toList).toArray⟩) ∧ Below w.heap.size w w' := by
  have hsl : s.data.toList.length = s.size := by simp
  have HSL := Lib.hid hsl; clear hsl
  have hd0 : decide ((65536 : Int) < (s.size : Int)) = false := by simp; omega
  go_enter Tryz.func14, Tryz.ntmps14
  go_wp2_with fail
  go_loopw [4, 5, 6] (fun iv _ _ wr => ∃ (i : Nat) (acc : List UInt8), i ≤ s.size ∧ iv = .int .i64 i ∧ Tryz.Bd wr w.heap.size w.heap.size acc ∧ Hid (acc ++ short (s.data.toList.drop i) = short s.data.toList) ∧ Below w.heap.size w wr) (fun iv _ _ _ => s.size - (intOf iv).toNat)
  case atStart => exact ⟨0, [], Nat.zero_le _, rfl, Tryz.Bd.new w, rfl, (Below.refl _ _).alloc (Nat.le_refl _) _⟩
  case round =>
    obtain ⟨i, acc, hi, rfl, hbd, hinv, hb⟩ := hrel
    have hal := acc_len hinv.out (by rw [HSL.out]; exact hs)
    by_cases hlt : i < s.size
    · have hlen : 1 ≤ (s.data.toList.drop i).length := by rw [List.length_drop, HSL.out]; omega
      have hr1 := runL_bd (s.data.toList.drop i)
      have hr2 := runBy_len (s.data.toList.drop i) hlen
      rw [List.length_drop, HSL.out] at hr2
      have hx := idx_str Tryz.underlying9 s i (i : Int) rfl hlt
      generalize hr : runBy (s.data.toList.drop i) = r at hr1 hr2
      have HR := Lib.hid hr; clear hr
      obtain ⟨hr0, hr130⟩ := hr1
      go_wp2_with fail
      refine (runBy_at s i _ rfl r HR.out _ hs hlt).mono ?_
      rintro e w1 ⟨rfl, h1⟩
      have hbd1 := hbd.next h1
      have hb1 := below_next hb h1
      clear hbd hb h1
      by_cases h3 : 3 ≤ r
      · have hsh := Lib.hid (short_run (s.data.toList.drop i) hlen (by rw [HR.out]; exact h3))
        go_wp2_with fail
        refine (Tryz.bWriteByteI _ _ acc _ (UInt8.ofNat (125 + r)) ?_ _ hbd1 (by omega) hb1.size).mono ?_
        · rw [UInt8.toNat_ofNat']; omega
        rintro e w2 ⟨rfl, hbd2, h2⟩
        have hb2 := hb1.trans h2
        clear hbd1 hb1 h2
        go_wp2_with fail
        refine (Tryz.bWriteByteI _ _ _ _ (s.data.toList.getD i 0) rfl _ hbd2 (by simp; omega) hb2.size).mono ?_
        rintro e w3 ⟨rfl, hbd3, h3'⟩
        have hb3 := hb2.trans h3'
        clear hbd2 hb2 h3'
        go_wp2_with fail
        go_roundw
        case rel =>
          refine ⟨i + r, _, by omega, by go_num, hbd3, ?_, hb3⟩
          show _ = _
          rw [← hinv.out, hsh.out, HR.out]
          simp [List.drop_drop, List.getD]
        case measure => simp [intOf]; omega
      · have hsh := Lib.hid (short_plain (s.data.toList.drop i) hlen (by rw [HR.out]; exact h3))
        have h3' : decide ((3 : Int) ≤ (r : Int)) = false := by simp; omega
        have hp := plainL_bd (s.data.toList.drop i) hlen
        rw [List.length_drop, HSL.out] at hp
        generalize hpl : plainL (s.data.toList.drop i) = p at hp hsh
        have HP := Lib.hid hpl; clear hpl
        obtain ⟨hp1, hp128, hpl⟩ := hp
        go_wp2_with fail
        obtain ⟨wo, rfl⟩ : ∃ wo : World, wo = w1 := ⟨_, rfl⟩
        go_loopw [6] (fun tv wr => ∃ (t : Nat), i + 1 ≤ t ∧ t ≤ i + 128 ∧ t ≤ s.size ∧ tv = .int .i64 t ∧ Hid (plainGo (s.data.toList.drop i) (129 - (t - i)) (t - i) = p) ∧ Tryz.Bd wr w.heap.size w.heap.size acc ∧ Below w.heap.size w wr) (fun tv _ => s.size - (intOf tv).toNat)
        case atStart => exact ⟨i + 1, by omega, by omega, by omega, by go_num, by show _ = _; rw [show i + 1 - i = 1 by omega]; exact HP.out, hbd1, hb1⟩
        case round =>
          clear hbd1 hb1
          obtain ⟨t, ht1, ht2, ht3, rfl, hgo, hbd1, hb1⟩ := hrel
          have hdd : Hid ((s.data.toList.drop i).drop (t - i) = s.data.toList.drop t) := by show _ = _; rw [List.drop_drop]; congr 1; omega
          have hdl : Hid ((s.data.toList.drop i).length = s.size - i) := by show _ = _; rw [List.length_drop, HSL.out]
          by_cases ht4 : t < s.size
          · by_cases ht5 : t < i + 128
            · generalize hr' : runBy (s.data.toList.drop t) = q
              have HQ := Lib.hid hr'; clear hr'
              go_wp2_with fail
              refine (runBy_at s t _ rfl q HQ.out _ hs ht4).mono ?_
              rintro e w2 ⟨rfl, h2⟩
              have hbd2 := hbd1.next h2
              have hb2 := below_next hb1 h2
              clear hbd1 hb1 h2
              by_cases hq : q < 3
              · go_wp2_with fail
                go_roundw
                case rel =>
                  refine ⟨t + 1, by omega, by omega, by omega, by go_num, ?_, hbd2, hb2⟩
                  show _ = _
                  rw [← hgo.out, show t + 1 - i = (t - i) + 1 by omega]
                  exact (plainGo_yes (by rw [hdl.out]; omega) (by omega) (by rw [hdd.out, HQ.out]; exact hq)).symm
                case measure => simp [intOf]; omega
              · have hend : Hid (t - i = p) := by
                  show _ = _
                  rw [← hgo.out]
                  exact (plainGo_no (by omega) (fun h => hq (by have := h.2.2; rw [hdd.out, HQ.out] at this; exact this))).symm
                go_wp2_with fail
                refine (Tryz.bWriteByteI _ _ acc _ (UInt8.ofNat (p - 1)) ?_ _ hbd2 (by omega) hb2.size).mono ?_
                · have := hend.out; rw [UInt8.toNat_ofNat']; omega
                rintro e w3 ⟨rfl, hbd3, h3''⟩
                have hb3 := hb2.trans h3''
                clear hbd2 hb2 h3''
                go_wp2_with fail
                refine (Tryz.bWriteString _ _ _ (s.extract i t) _ hbd3 (by have := extract_size s i t ht3; simp; omega) hb3.size).mono ?_
                rintro e w4 ⟨rfl, hbd4, h4⟩
                have hb4 := hb3.trans h4
                clear hbd3 hb3 h4
                go_wp2_with fail
                go_roundw
                case rel =>
                  refine ⟨t, _, by omega, rfl, hbd4, ?_, hb4⟩
                  show _ = _
                  rw [← hinv.out, hsh.out, extract_list s i t ht3, hend.out, ← hdd.out, hend.out]
                  simp
                case measure => simp [intOf]; omega
            · have hend : Hid (t - i = p) := by
                show _ = _
                rw [← hgo.out]
                exact (plainGo_no (by omega) (fun h => ht5 (by have := h.2.1; omega))).symm
              go_wp2_with fail
              refine (Tryz.bWriteByteI _ _ acc _ (UInt8.ofNat (p - 1)) ?_ _ hbd1 (by omega) hb1.size).mono ?_
              · have := hend.out; rw [UInt8.toNat_ofNat']; omega
              rintro e w3 ⟨rfl, hbd3, h3''⟩
              have hb3 := hb1.trans h3''
              clear hbd1 hb1 h3''
              go_wp2_with fail
              refine (Tryz.bWriteString _ _ _ (s.extract i t) _ hbd3 (by have := extract_size s i t ht3; simp; omega) hb3.size).mono ?_
              rintro e w4 ⟨rfl, hbd4, h4⟩
              have hb4 := hb3.trans h4
              clear hbd3 hb3 h4
              go_wp2_with fail
              go_roundw
              case rel =>
                refine ⟨t, _, by omega, rfl, hbd4, ?_, hb4⟩
                show _ = _
                rw [← hinv.out, hsh.out, extract_list s i t ht3, hend.out, ← hdd.out, hend.out]
                simp
              case measure => simp [intOf]; omega
          · have hend : Hid (t - i = p) := by
              show _ = _
              rw [← hgo.out]
              exact (plainGo_no (by omega) (fun h => ht4 (by have := h.1; rw [hdl.out] at this; omega))).symm
            go_wp2_with fail
            refine (Tryz.bWriteByteI _ _ acc _ (UInt8.ofNat (p - 1)) ?_ _ hbd1 (by omega) hb1.size).mono ?_
            · have := hend.out; rw [UInt8.toNat_ofNat']; omega
            rintro e w3 ⟨rfl, hbd3, h3''⟩
            have hb3 := hb1.trans h3''
            clear hbd1 hb1 h3''
            go_wp2_with fail
            refine (Tryz.bWriteString _ _ _ (s.extract i t) _ hbd3 (by have := extract_size s i t ht3; simp; omega) hb3.size).mono ?_
            rintro e w4 ⟨rfl, hbd4, h4⟩
            have hb4 := hb3.trans h4
            clear hbd3 hb3 h4
            go_wp2_with fail
            go_roundw
            case rel =>
              refine ⟨t, _, by omega, rfl, hbd4, ?_, hb4⟩
              show _ = _
              rw [← hinv.out, hsh.out, extract_list s i t ht3, hend.out, ← hdd.out, hend.out]
              simp
            case measure => simp [intOf]; omega
    · obtain rfl : i = s.size := by omega
      have hfin : Hid (acc = short s.data.toList) := by
        show _ = _
        rw [← hinv.out, List.drop_of_length_le (by rw [HSL.out]; exact Nat.le_refl _), short_nil, List.append_nil]
      go_wp2_with fail
      refine (Tryz.bString _ _ acc _ hbd hb.size).mono ?_
      rintro e w1 ⟨rfl, h1⟩
      go_wp2_with fail
      go_ret
      exact ⟨by rw [← hfin.out]; rfl, hb.trans h1⟩
end
section
open Go.RowKit
theorem repeat_one (x : UInt8) : ∀ c : Nat, Lib.repeatL [x] c = List.replicate c x
  | 0 => rfl
  | c + 1 => by rw [Lib.repeatL, repeat_one x c, List.replicate_succ]; rfl
theorem repeat_at (s : ByteArray) (x : UInt8) (hs : s.data.toList = [x]) (c : Nat) (n : Int) (hn : n = c) (hc : c ≤ 200) (w : World) :
    Calls Tryz.prog 47 #[.string s, .int .i64 n] w fun e w' => e = .returned (.string ⟨(List.replicate c x).toArray⟩) ∧ Below w.heap.size w w' := by
  subst hn
  have hsz : s.size = 1 := by have := congrArg List.length hs; simpa using this
  have := Tryz.strings_Repeat s c w (by omega) (by rw [hsz]; omega)
  rw [hs, repeat_one] at this
  exact this
theorem stepL_plain_no {n : UInt8} {rest : List UInt8} (h1 : n.toNat < 128) (h2 : rest.length < n.toNat + 1) : stepL n rest = none := by unfold stepL; rw [if_pos h1, if_pos h2]
theorem stepL_plain {n : UInt8} {rest : List UInt8} (h1 : n.toNat < 128) (h2 : ¬ rest.length < n.toNat + 1) : stepL n rest = some (rest.take (n.toNat + 1), rest.drop (n.toNat + 1)) := by unfold stepL; rw [if_pos h1, if_neg h2]
theorem stepL_run_no {n : UInt8} {rest : List UInt8} (h1 : ¬ n.toNat < 128) (h2 : rest.length = 0) : stepL n rest = none := by unfold stepL; rw [if_neg h1, if_pos h2]
theorem stepL_run {n : UInt8} {rest : List UInt8} (h1 : ¬ n.toNat < 128) (h2 : ¬ rest.length = 0) : stepL n rest = some (List.replicate (n.toNat - 125) (rest.getD 0 0), rest.drop 1) := by unfold stepL; rw [if_neg h1, if_neg h2]
theorem long_walk_long (s : ByteArray) (w : World) (hs : s.size ≤ maxLen) (h : 131072 < s.size) :
    Calls Tryz.prog 13 #[.string s] w fun e w' => e = .returned (.tuple #[.string ⟨(long s.data.toList).1.toArray⟩, .int .i64 (long s.data.toList).2]) ∧ Below w.heap.size w w' := by
  have e : long s.data.toList = ([], errLong) := by unfold long; rw [if_pos (by simpa using h)]
  rw [e]
  unfold maxLen at hs
  clear e
  go_enter Tryz.func13, Tryz.ntmps13
  go_wp2
  go_ret2
  exact ⟨rfl, Below.refl _ _⟩
set_option maxRecDepth 100000 in
set_option maxHeartbeats 1000000 in
theorem long_walk (s : ByteArray) (w : World) (hs : s.size ≤ 131072) :
    Calls Tryz.prog 13 #[.string s] w fun e w' => e = .returned (.tuple #[.string ⟨(long s.data.toList).1.toArray⟩, .int .i64 (long s.data.toList).2]) ∧ Below w.heap.size w w' := by
  have hsl : s.data.toList.length = s.size := by simp
  rw [long_eq _ (by rw [hsl]; exact hs)]
  generalize hR : longR s.data.toList [] = R
  obtain ⟨out, code⟩ := R
  have HR := Lib.hid hR; clear hR
  have HSL := Lib.hid hsl; clear hsl
  have hd0 : decide ((131072 : Int) < (s.size : Int)) = false := by simp; omega
  go_enter Tryz.func13, Tryz.ntmps13
  go_wp2_with fail
  go_loopw [5, 6, 7] (fun iv _ _ wr => ∃ (i : Nat) (acc : List UInt8), i ≤ s.size ∧ iv = .int .i64 i ∧ acc.length ≤ 65536 ∧ Tryz.Bd wr w.heap.size w.heap.size acc ∧ Hid (longR (s.data.toList.drop i) acc = (out, code)) ∧ Below w.heap.size w wr) (fun iv _ _ _ => s.size - (intOf iv).toNat)
  case atStart => exact ⟨0, [], Nat.zero_le _, rfl, by simp, Tryz.Bd.new w, HR.out, (Below.refl _ _).alloc (Nat.le_refl _) _⟩
  case round =>
    obtain ⟨i, acc, hi, rfl, hal, hbd, hinv, hb⟩ := hrel
    by_cases hlt : i < s.size
    · have hx := idx_str Tryz.underlying9 s i (i : Int) rfl hlt
      have hdr : s.data.toList.drop i = s.data.toList.getD i 0 :: s.data.toList.drop (i + 1) := by
        have hl : i < s.data.toList.length := by rw [HSL.out]; exact hlt
        rw [List.drop_eq_getElem_cons hl]
        congr 1
        simp [List.getD, List.getElem?_eq_getElem hl]
      have hc := longR_cons (s.data.toList.getD i 0) (s.data.toList.drop (i + 1)) acc
      rw [← hdr, hinv.out] at hc
      have hlr : (s.data.toList.drop (i + 1)).length = s.size - (i + 1) := by rw [List.length_drop, HSL.out]
      have hbt := (s.data.toList.getD i 0).toNat_lt
      generalize hB : s.data.toList.getD i 0 = b at hc hbt
      have hx2 : byteAt s i = (b.toNat : Int) := by unfold byteAt; rw [hB]
      rw [hx2] at hx
      generalize hn : b.toNat = n at hx hbt
      have HN := Lib.hid hn; have HC := Lib.hid hc; have HLR := Lib.hid hlr
      clear hn hc hlr hdr hB hx2 hinv
      by_cases h128 : n < 128
      · by_cases hsh : s.size - (i + 1) < n + 1
        · have hfin : Hid ((out, code) = ([], errShort)) := by
            show _ = _
            rw [HC.out, stepL_plain_no (by rw [HN.out]; exact h128) (by rw [HLR.out, HN.out]; exact hsh)]
          go_wp2_with fail
          go_ret2
          have hf := hfin.out
          simp only [Prod.mk.injEq] at hf
          exact ⟨by rw [hf.1, hf.2]; rfl, hb⟩
        · have hstep := Lib.hid (stepL_plain (n := b) (rest := s.data.toList.drop (i + 1)) (by rw [HN.out]; exact h128) (by rw [HLR.out, HN.out]; exact hsh))
          have hpl : Hid ((s.extract (i + 1) (i + 1 + n + 1)).data.toList = (s.data.toList.drop (i + 1)).take (b.toNat + 1)) := by
            show _ = _
            rw [extract_list s _ _ (by omega), HN.out]; congr 1; omega
          have hps := extract_size s (i + 1) (i + 1 + n + 1) (by omega)
          have HPS := Lib.hid hps; clear hps
          have hps1 : (s.extract (i + 1) (i + 1 + n + 1)).size ≤ n + 1 := by rw [HPS.out]; omega
          have hps2 : n + 1 ≤ (s.extract (i + 1) (i + 1 + n + 1)).size := by rw [HPS.out]; omega
          by_cases hov : 65536 < acc.length + (n + 1)
          · have hfin : Hid ((out, code) = ([], errLong)) := by
              show _ = _
              rw [HC.out, hstep.out]
              simp only
              rw [if_pos (by rw [List.length_take, HLR.out, HN.out]; omega)]
            go_wp2_with fail
            refine (Tryz.bLen _ _ acc _ hbd).mono ?_
            rintro e w1 ⟨rfl, rfl⟩
            go_wp2_with fail
            go_ret2
            have hf := hfin.out
            simp only [Prod.mk.injEq] at hf
            exact ⟨by rw [hf.1, hf.2]; rfl, hb⟩
          · have hfin : Hid (longR (s.data.toList.drop (i + n + 2)) (acc ++ (s.extract (i + 1) (i + 1 + n + 1)).data.toList) = (out, code)) := by
              show _ = _
              rw [HC.out, hstep.out]
              simp only
              rw [if_neg (by rw [List.length_take, HLR.out, HN.out]; omega), hpl.out, List.drop_drop, HN.out]
              congr 2; omega
            go_wp2_with fail
            refine (Tryz.bLen _ _ acc _ hbd).mono ?_
            rintro e w1 ⟨rfl, rfl⟩
            go_wp2_with fail
            refine (Tryz.bWriteString _ _ acc (s.extract (i + 1) (i + 1 + n + 1)) _ hbd (by omega) hb.size).mono ?_
            rintro e w2 ⟨rfl, hbd2, h2⟩
            have hb2 := hb.trans h2
            clear hbd hb h2
            go_wp2_with fail
            go_roundw
            case rel =>
              refine ⟨i + n + 2, _, by omega, by go_num, ?_, hbd2, hfin.out, hb2⟩
              have := HPS.out
              have e := hpl.out
              rw [List.length_append, e, List.length_take, HLR.out, HN.out]; omega
            case measure => simp [intOf]; omega
      · by_cases hsh : i + 1 = s.size
        · have hfin : Hid ((out, code) = ([], errShort)) := by
            show _ = _
            rw [HC.out, stepL_run_no (by rw [HN.out]; exact h128) (by rw [HLR.out]; omega)]
          have hq : (((i : Int) + 1) == (s.size : Int)) = true := by simp; omega
          have HSH := Lib.hid hsh; clear hsh
          go_wp2_with fail
          go_ret2
          have hf := hfin.out
          simp only [Prod.mk.injEq] at hf
          exact ⟨by rw [hf.1, hf.2]; rfl, hb⟩
        · have hq : (((i : Int) + 1) == (s.size : Int)) = false := by simp; omega
          have hstep := Lib.hid (stepL_run (n := b) (rest := s.data.toList.drop (i + 1)) (by rw [HN.out]; exact h128) (by rw [HLR.out]; omega))
          have hx1 : Hid ((s.extract (i + 1) (i + 1 + 1)).data.toList = [(s.data.toList.drop (i + 1)).getD 0 0]) := by
            show _ = _
            rw [extract_list s _ _ (by omega), show i + 1 + 1 - (i + 1) = 1 by omega]
            have hl : 0 < (s.data.toList.drop (i + 1)).length := by rw [HLR.out]; omega
            match s.data.toList.drop (i + 1), hl with
            | y :: t, _ => rfl
          generalize hy : (s.data.toList.drop (i + 1)).getD 0 0 = y at hstep hx1
          clear hy
          go_wp2_with fail
          refine (repeat_at _ y hx1.out (n - 125) _ (by omega) (by omega) _).mono ?_
          rintro e w1 ⟨rfl, h1⟩
          have hbd1 := hbd.next h1
          have hb1 := below_next hb h1
          clear hbd hb h1
          have hsz : (⟨(List.replicate (n - 125) y).toArray⟩ : ByteArray).size = n - 125 := by simp [ByteArray.size]
          have hdl : (⟨(List.replicate (n - 125) y).toArray⟩ : ByteArray).data.toList = List.replicate (n - 125) y := by simp
          generalize (⟨(List.replicate (n - 125) y).toArray⟩ : ByteArray) = ps at hsz hdl
          have HSZ := Lib.hid hsz; have HDL := Lib.hid hdl
          have hps1 : ps.size ≤ n - 125 := by rw [hsz]; exact Nat.le_refl _
          have hps2 : n - 125 ≤ ps.size := by rw [hsz]; exact Nat.le_refl _
          clear hsz hdl
          by_cases hov : 65536 < acc.length + (n - 125)
          · have hfin : Hid ((out, code) = ([], errLong)) := by
              show _ = _
              rw [HC.out, hstep.out]
              simp only
              rw [if_pos (by rw [List.length_replicate, HN.out]; omega)]
            go_wp2_with fail
            refine (Tryz.bLen _ _ acc _ hbd1).mono ?_
            rintro e w2 ⟨rfl, rfl⟩
            go_wp2_with fail
            go_ret2
            have hf := hfin.out
            simp only [Prod.mk.injEq] at hf
            exact ⟨by rw [hf.1, hf.2]; rfl, hb1⟩
          · have hfin : Hid (longR (s.data.toList.drop (i + 2)) (acc ++ ps.data.toList) = (out, code)) := by
              show _ = _
              rw [HC.out, hstep.out]
              simp only
              rw [if_neg (by rw [List.length_replicate, HN.out]; omega), HDL.out, List.drop_drop, HN.out]
            go_wp2_with fail
            refine (Tryz.bLen _ _ acc _ hbd1).mono ?_
            rintro e w2 ⟨rfl, rfl⟩
            go_wp2_with fail
            refine (Tryz.bWriteString _ _ acc ps _ hbd1 (by omega) hb1.size).mono ?_
            rintro e w3 ⟨rfl, hbd2, h2⟩
            have hb2 := hb1.trans h2
            clear hbd1 hb1 h2
            go_wp2_with fail
            go_roundw
            case rel =>
              refine ⟨i + 2, _, by omega, by go_num, ?_, hbd2, hfin.out, hb2⟩
              rw [List.length_append, HDL.out, List.length_replicate]; omega
            case measure => simp [intOf]; omega
    · obtain rfl : i = s.size := by omega
      have hfin : Hid ((out, code) = (acc, 0)) := by
        show _ = _
        rw [← hinv.out, List.drop_of_length_le (by rw [HSL.out]; exact Nat.le_refl _), longR_nil]
      go_wp2_with fail
      refine (Tryz.bString _ _ acc _ hbd hb.size).mono ?_
      rintro e w1 ⟨rfl, h1⟩
      have hf := hfin.out
      simp only [Prod.mk.injEq] at hf
      have HF1 := Lib.hid hf.1; have HF2 := Lib.hid hf.2; clear hf
      go_wp2_with fail
      go_ret2
      exact ⟨by rw [HF1.out, HF2.out]; rfl, hb.trans h1⟩
end
section
open Go.RowKit
def Law (w : World) (e : Ending) (w' : World) : Prop := e = .returned (.bool true) ∧ Below w.heap.size w w'
theorem str_of {s : ByteArray} {l : List UInt8} (h : s.data.toList = l) : s = ⟨l.toArray⟩ := by
  subst h; cases s; simp
theorem short_at (s r : ByteArray) (h : r.data.toList = short s.data.toList) (w : World) (hs : s.size ≤ 65536) :
    Calls Tryz.prog 14 #[.string s] w fun e w' => e = .returned (.string r) ∧ Below w.heap.size w w' := by
  rw [str_of h]; exact short_walk s w hs
theorem long_at (s r : ByteArray) (c : Nat) (h : long s.data.toList = (r.data.toList, c)) (w : World) (hs : s.size ≤ maxLen) :
    Calls Tryz.prog 13 #[.string s] w fun e w' => e = .returned (.tuple #[.string r, .int .i64 c]) ∧ Below w.heap.size w w' := by
  have e : r = ⟨(long s.data.toList).1.toArray⟩ := by rw [h]
  have e2 : c = (long s.data.toList).2 := by rw [h]
  rw [e, e2]
  by_cases hl : s.size ≤ 131072
  · exact long_walk s w hl
  · exact long_walk_long s w hs (by omega)
theorem ex1 : short [7, 7, 7, 7, 1, 2] = [129, 7, 1, 1, 2] := by decide +kernel
theorem ex2 : long [0, 9, 128, 5] = ([9, 5, 5, 5], 0) := by decide +kernel
theorem ex3 : ((⟨#[129, 7, 1, 1, 2]⟩ : ByteArray).toList == [129, 7, 1, 1, 2]) = true := by decide +kernel
theorem ex4 : ((⟨#[9, 5, 5, 5]⟩ : ByteArray).toList == [9, 5, 5, 5]) = true := by decide +kernel
theorem awake_any (w : World) : Calls Tryz.prog 5 #[] w (Law w) := by
  have h3 := ex3
  have h4 := ex4
  go_enter Tryz.func5, Tryz.ntmps5
  go_wp2_with fail
  refine (long_at ⟨#[0, 9, 128, 5]⟩ ⟨#[9, 5, 5, 5]⟩ 0 ex2 _ (by decide)).mono ?_
  rintro e w1 ⟨rfl, h1⟩
  go_wp2_with fail
  refine (short_at ⟨#[7, 7, 7, 7, 1, 2]⟩ ⟨#[129, 7, 1, 1, 2]⟩ ex1.symm _ (by decide)).mono ?_
  rintro e w2 ⟨rfl, h2⟩
  go_wp2_with fail
  go_ret
  exact ⟨rfl, below_next h1 h2⟩
end
section
open Go.RowKit Go.Sort
set_option maxRecDepth 10000
set_option maxHeartbeats 1000000
theorem awake25_p : CallP Tryz.prog 5 [] (BL true) := CallP.of_calls (by kernel_rfl) fun w => (awake_any w).mono fun e w' h => h
abbrev shGrid : Sh := .st [shU, shU, .str]
theorem wt_grid {ts : List T} (h : shGrid.wt ts) : ∃ (W H : Nat) (B : ByteArray), ts = gridL W H B ∧ W < 256 ∧ H < 256 := by
  obtain ⟨a, b, rfl, h1, c, d, rfl, h2, e, f, rfl, h3, rfl⟩ := h
  obtain ⟨x, rfl, hx⟩ := wt_u8 h1
  obtain ⟨y, rfl, hy⟩ := wt_u8 h2
  obtain ⟨s, rfl, hs⟩ := h3
  refine ⟨x.toNat, y.toNat, s, ?_, by omega, by omega⟩
  show _ = [U8 (x.toNat : Nat), U8 (y.toNat : Nat), .v (.string s)]
  rw [Int.toNat_of_nonneg hx.1, Int.toNat_of_nonneg hy.1]
  rfl
def okS (s : Rect) : Prop := -1000 ≤ s.X ∧ s.X ≤ 1000 ∧ -1000 ≤ s.Y ∧ s.Y ≤ 1000 ∧ 0 ≤ s.W ∧ s.W ≤ 1000 ∧ 0 ≤ s.H ∧ s.H ≤ 1000
theorem okS_in {l : List Rect} (h : ∀ s ∈ l, okS s) (x y : Int) : inL (bandOf l) x y ↔ inL l x y := by
  rw [bandOf_in]
  constructor
  · rintro ⟨r, h1, h2⟩
    exact ⟨r, (List.mem_filter.1 h1).1, h2⟩
  · rintro ⟨r, h1, h2⟩
    refine ⟨r, List.mem_filter.2 ⟨h1, ?_⟩, h2⟩
    have := h r h1
    unfold okS at this
    unfold Rect.has at h2
    unfold countsB fitsB
    simp
    omega
theorem get_want {seen : List Rect} (hs : ∀ s ∈ seen, okS s) (w h : Nat) (px : List Int) (X Y : Int) (rw rh : Nat) (out : Int) (hw : w ≤ 128) (hh : h ≤ 128) (hrw : 1 ≤ rw ∧ rw ≤ 128) (hrh : rh ≤ 128) (hX : -1048576 ≤ X ∧ X ≤ 1048576) (hY : -1048576 ≤ Y ∧ Y ≤ 1048576) {i : Nat} (hi : i < rw * rh) :
    (getL w h px (bandOf seen) X Y rw rh out)[i]! = if inB' w h (X + (i % rw : Nat)) (Y + (i / rw : Nat)) = true ∧ inL seen (X + (i % rw : Nat)) (Y + (i / rw : Nat)) then px[((Y + (i / rw : Nat)) * w + (X + (i % rw : Nat))).toNat]! else out := by
  have hP : Reg 2 (bandOf [⟨0, 0, (w : Int), (h : Int)⟩]) := Reg.of [⟨0, 0, (w : Int), (h : Int)⟩]
  have hS := Reg.of seen
  have hM := opL_reg (k := subB) rfl hP hS
  have h1 : i % rw < rw := Nat.mod_lt _ (by omega)
  have h2 : i / rw < rh := Nat.div_lt_of_lt_mul hi
  unfold getL
  rw [paintL_get (by rw [cropL_len]; exact hi), cropL_at _ _ _ _ _ _ _ _ hi]
  have hU : inL (unseenR (bandOf seen) w h X Y) (i % rw : Nat) (i / rw : Nat) ↔ inB' w h (X + (i % rw : Nat)) (Y + (i / rw : Nat)) = true ∧ ¬ inL seen (X + (i % rw : Nat)) (Y + (i / rw : Nat)) := by
    unfold unseenR
    rw [shift_in hM.ok, opL_sub hP hS, in_plane0 hw hh, okS_in hs, inB_iff, show ((i % rw : Nat) : Int) - -X = X + (i % rw : Nat) from by omega, show ((i / rw : Nat) : Int) - -Y = Y + (i / rw : Nat) from by omega]
    unfold inQ
    constructor
    · rintro ⟨k, -⟩; exact k
    · intro k; exact ⟨k, by omega⟩
  by_cases hin : inB' w h (X + (i % rw : Nat)) (Y + (i / rw : Nat)) = true
  · by_cases hse : inL seen (X + (i % rw : Nat)) (Y + (i / rw : Nat))
    · rw [if_neg (fun k => (hU.1 k).2 hse), if_pos hin, if_pos ⟨hin, hse⟩]
    · rw [if_pos (hU.2 ⟨hin, hse⟩), if_neg (show ¬ (inB' w h (X + (i % rw : Nat)) (Y + (i / rw : Nat)) = true ∧ inL seen (X + (i % rw : Nat)) (Y + (i / rw : Nat))) from fun k => hse k.2)]; rfl
  · rw [if_neg (fun k => hin (hU.1 k).1), if_neg hin, if_neg (fun k => hin k.1)]
theorem getL_bd {w h : Nat} {px : List Int} (hb : ∀ v ∈ px, 0 ≤ v ∧ v < 256) (seen : List Rect) (X Y : Int) (rw rh : Nat) {out : Int} (ho : 0 ≤ out ∧ out < 256) : ∀ v ∈ getL w h px seen X Y rw rh out, 0 ≤ v ∧ v < 256 :=
  paintL_bd (cropL_bd hb X Y rw rh ho) (fun _ _ _ _ => ho)
theorem getL_len (w h : Nat) (px : List Int) (seen : List Rect) (X Y : Int) (rw rh : Nat) (out : Int) : (getL w h px seen X Y rw rh out).length = rw * rh := by unfold getL; rw [paintL_len, cropL_len]
theorem set_set (l : List Int) (i : Nat) (a b : Int) : (l.set i a).set i b = l.set i b := List.set_set ..
theorem imageGets_all {t0 t1 t2 t3 : List T} (h0 : shGrid.wt t0) (h1 : (Sh.sl shR).wt t1) (h2 : shR.wt t2) (h3 : shU.wt t3) : CallP Tryz.prog 3 [shGrid.tree t0, (Sh.sl shR).tree t1, shR.tree t2, shU.tree t3] (BL true) := by
  obtain ⟨gw, gh, B, rfl, hgw, hgh⟩ := wt_grid h0
  obtain ⟨seen, rfl, hsl, hsi⟩ := wt_rects h1
  obtain ⟨⟨X, Y, W, H⟩, rfl, hX, hY, hW, hH⟩ := wt_rect h2
  obtain ⟨out, rfl, ho⟩ := wt_u8 h3
  clear h0 h1 h2 h3
  unfold i64 at hX hY hW hH
  dsimp only at hX hY hW hH
  show CallP Tryz.prog 3 [.agg (gridL gw gh B), .islc (encL cR seen) seen.length none, rectT ⟨X, Y, W, H⟩, U8 out] (BL true)
  have hmk := made_p gw gh B hgw hgh
  have hpl := padL_len (strL B) ((gw % 24 + 1) * (gh % 24 + 1))
  have hpb := padL_bd (strL_bd B) ((gw % 24 + 1) * (gh % 24 + 1))
  generalize padL (strL B) ((gw % 24 + 1) * (gh % 24 + 1)) = px at *
  have hwh : (gw % 24 + 1) * (gh % 24 + 1) ≤ 24 * 24 := Nat.mul_le_mul (by omega) (by omega)
  have hw1 : 1 ≤ gw % 24 + 1 ∧ gw % 24 + 1 ≤ 24 := by omega
  have hh1 : 1 ≤ gh % 24 + 1 ∧ gh % 24 + 1 ≤ 24 := by omega
  generalize gw % 24 + 1 = w at hmk hpl hpb hwh hw1
  generalize gh % 24 + 1 = h at hmk hpl hpb hwh hh1
  obtain ⟨rw', rh', G, e, hget, hA, hB, hC⟩ : ∃ (rw' rh' : Nat) (G : List Int) (e : Int), (seen.length ≤ 20 → CallP Tryz.prog 7 [gT w h px, regT (bandOf seen), rectT ⟨X, Y, W, H⟩, U8 out] (.tup [gT rw' rh' G, I64 e])) ∧
      ((W < 1 ∨ 128 < W ∨ H < 1 ∨ 128 < H) → e = 17) ∧ (1 ≤ W → W ≤ 128 → 1 ≤ H → H ≤ 128 → (X < -1048576 ∨ 1048576 < X ∨ Y < -1048576 ∨ 1048576 < Y) → e = 1) ∧
      (1 ≤ W → W ≤ 128 → 1 ≤ H → H ≤ 128 → -1048576 ≤ X → X ≤ 1048576 → -1048576 ≤ Y → Y ≤ 1048576 → e = 0 ∧ (rw' : Int) = W ∧ (rh' : Int) = H ∧ G = getL w h px (bandOf seen) X Y rw' rh' out) := by
    by_cases hA : W < 1 ∨ 128 < W ∨ H < 1 ∨ 128 < H
    · exact ⟨0, 0, [], 17, fun _ => get_bad w h px _ _ out 17 (by decide) (crop_side w h px _ out (by unfold sideB; simp; omega)), fun _ => rfl, fun _ _ _ _ => by omega, fun _ _ _ _ => by omega⟩
    · obtain ⟨a, rfl⟩ := Int.eq_ofNat_of_zero_le (show 0 ≤ W by omega)
      obtain ⟨b, rfl⟩ := Int.eq_ofNat_of_zero_le (show 0 ≤ H by omega)
      by_cases hB : X < -1048576 ∨ 1048576 < X ∨ Y < -1048576 ∨ 1048576 < Y
      · exact ⟨0, 0, [], 1, fun _ => get_bad w h px _ _ out 1 (by decide) (crop_range w h px _ out (by unfold sideB; simp; omega) (by unfold sideB; simp; omega) (by unfold coordB; simp; omega)), fun k => absurd k hA, fun _ _ _ _ _ => rfl, fun _ _ _ _ => by omega⟩
      · exact ⟨a, b, getL w h px (bandOf seen) X Y a b out, 0, fun hn => get_p w h px _ X Y a b out ((Reg.of seen).mono (m := 40) (by omega)) (by omega) (by omega) (by omega) hpl hpb ho (by omega) (by omega) (by omega) (by omega), fun k => absurd k hA, fun _ _ _ _ k => absurd k hB, fun _ _ _ _ _ _ _ _ => ⟨rfl, rfl, rfl, rfl⟩⟩
  have hsR : ∀ k, k < seen.length → rI seen[k]! := fun k hk => hsi _ (List.mem_iff_getElem?.2 ⟨k, getE hk⟩)
  refine CallP.intro2 au_pu au_pu ?_
  refine CallT.intro tab_ok Tryz.func3 rfl (by kernel_rfl) (Nat.le_of_ble_eq_true rfl) ?_
  refine VC.reg tab_ok [4, 6] rfl ?_
  refine VX.newI rfl rfl ?_
  refine VX.newI rfl rfl ?_
  refine VX.meek rfl ?_
  refine VX.nil ?_
  refine VC.seq ?_
  refine VC.reg tab_ok [] rfl ?_
  iterate 3 refine VX.meek rfl ?_
  refine VX.nil ?_
  refine VC.cond rfl (fun hc0 => ?_) (fun hc0 => ?_)
  · (try simp only [au_std] at hc0)
    refine VC.reg tab_ok [] rfl ?_
    refine VX.callP0 rfl rfl rfl (awake25_p) ?_
    refine VX.meek rfl ?_
    refine VX.nil ?_
    refine VC.ret ?_
    exact ⟨trivial, _, rfl, Cv.eq rfl rfl⟩
  · (try simp only [au_std] at hc0); have hn20 : seen.length ≤ 20 := (by omega); replace hget := hget hn20
    refine VC.skip ?_
    refine VC.seq ?_
    refine VC.reg tab_ok [] rfl ?_
    iterate 3 refine VX.meek rfl ?_
    refine VX.nil ?_
    refine VC.block ?_
    refine VC.loopS (σ := Nat) (fun k => seen.length - k) (fun k => k ≤ seen.length ∧ ∀ s ∈ seen.take k, okS s) (fun k => [(31, I64 k)]) (fun _ => []) [1, 3, 4, 6, 29, 30] rfl (0) ?_ ?_ ?_
    · refine ⟨[], rfl, by first | trivial | decide, rfl, ?_, ?_⟩ <;> (repeat' first | exact trivial | exact CvB_n | exact CvB_d | refine CvE_app ?_ ?_ | refine CvE_cons rfl ?_ ?_ | refine CvH_cons ?_ ?_ | refine CvB_c rfl ?_ | fail) <;> first | exact au_v | (skip)
    · exact ⟨by omega, by simp⟩
    rintro k ⟨hk, hok⟩
    refine VC.reg tab_ok [] rfl ?_
    refine VX.meek rfl ?_
    refine VX.nil ?_
    refine VC.seq ?_
    refine VC.cond rfl (fun hc1 => ?_) (fun hc1 => ?_)
    · (try simp only [au_std] at hc1); have hkl : k < seen.length := (by omega)
      refine VC.skip ?_
      refine VC.seq ?_
      refine VC.block ?_
      refine VC.reg tab_ok [] rfl ?_
      first | refine VX.idxI rfl rfl rfl rfl rfl rfl (by omega) ?_ | refine VX.idxO0 rfl rfl rfl rfl rfl rfl rfl (by omega) ?_ | refine VX.idxO0 rfl rfl rfl rfl rfl rfl au_z (by omega) ?_ | refine VX.idxO rfl rfl rfl rfl rfl rfl rfl (by omega) ?_ | refine VX.idxI rfl rfl rfl rfl rfl au_z (by omega) ?_ | refine VX.idxO rfl rfl rfl rfl rfl rfl au_z (by omega) ?_ | refine VX.meek rfl ?_
      first | refine VX.meek rfl ?_ | refine VX.loadI rfl rfl au_l ?_ | refine VX.loadP rfl rfl rfl au_l ?_
      refine VX.new rfl rfl ?_
      refine VX.store rfl rfl rfl rfl rfl au_sR rfl ?_
      refine VX.nil ?_
      refine VC.reg tab_ok [] rfl ?_
      refine VX.meek rfl ?_
      first | refine VX.meek rfl ?_ | refine VX.loadI rfl rfl au_l ?_ | refine VX.loadP rfl rfl rfl au_l ?_
      iterate 2 refine VX.meek rfl ?_
      refine' VX.merge (d := 42) [_, _, _, _] rfl ?_ rfl ?_
      rotate_left
      · refine VX.guard rfl rfl (fun hb6_3 => ?_) (fun hb6_3 => ?_)
        · have ghb6_3 := hb6_3
          try simp only [au_std, Bool.not_true, Bool.not_false] at ghb6_3
          refine VX.meek rfl ?_
          refine VX.guardT rfl rfl hb6_3 ?_
          first | refine VX.meek rfl ?_ | refine VX.loadI rfl rfl au_l ?_ | refine VX.loadP rfl rfl rfl au_l ?_
          refine VX.guardT rfl rfl hb6_3 ?_
          refine VX.meek rfl ?_
          refine VX.pickO rfl (fun _ => rfl) ?_
          exact VX.nil ⟨rfl, rfl⟩
        · refine VX.guardF rfl rfl hb6_3 ?_
          refine VX.guardF rfl rfl hb6_3 ?_
          exact VX.pickO rfl (fun h => absurd (h.symm.trans hb6_3) (by decide)) (VX.nil ⟨rfl, rfl⟩)
      refine VX.meek rfl ?_
      refine' VX.merge (d := 47) [_, _, _, _] rfl ?_ rfl ?_
      rotate_left
      · refine VX.guard rfl rfl (fun hb6_8 => ?_) (fun hb6_8 => ?_)
        · have ghb6_8 := hb6_8
          try simp only [au_std, Bool.not_true, Bool.not_false] at ghb6_8
          refine VX.meek rfl ?_
          refine VX.guardT rfl rfl hb6_8 ?_
          first | refine VX.meek rfl ?_ | refine VX.loadI rfl rfl au_l ?_ | refine VX.loadP rfl rfl rfl au_l ?_
          refine VX.guardT rfl rfl hb6_8 ?_
          refine VX.meek rfl ?_
          refine VX.pickO rfl (fun _ => rfl) ?_
          exact VX.nil ⟨rfl, rfl⟩
        · refine VX.guardF rfl rfl hb6_8 ?_
          refine VX.guardF rfl rfl hb6_8 ?_
          exact VX.pickO rfl (fun h => absurd (h.symm.trans hb6_8) (by decide)) (VX.nil ⟨rfl, rfl⟩)
      refine VX.meek rfl ?_
      refine' VX.merge (d := 52) [_, _, _, _] rfl ?_ rfl ?_
      rotate_left
      · refine VX.guard rfl rfl (fun hb6_13 => ?_) (fun hb6_13 => ?_)
        · have ghb6_13 := hb6_13
          try simp only [au_std, Bool.not_true, Bool.not_false] at ghb6_13
          refine VX.meek rfl ?_
          refine VX.guardT rfl rfl hb6_13 ?_
          first | refine VX.meek rfl ?_ | refine VX.loadI rfl rfl au_l ?_ | refine VX.loadP rfl rfl rfl au_l ?_
          refine VX.guardT rfl rfl hb6_13 ?_
          refine VX.meek rfl ?_
          refine VX.pickO rfl (fun _ => rfl) ?_
          exact VX.nil ⟨rfl, rfl⟩
        · refine VX.guardF rfl rfl hb6_13 ?_
          refine VX.guardF rfl rfl hb6_13 ?_
          exact VX.pickO rfl (fun h => absurd (h.symm.trans hb6_13) (by decide)) (VX.nil ⟨rfl, rfl⟩)
      refine VX.meek rfl ?_
      refine' VX.merge (d := 57) [_, _, _, _] rfl ?_ rfl ?_
      rotate_left
      · refine VX.guard rfl rfl (fun hb6_18 => ?_) (fun hb6_18 => ?_)
        · have ghb6_18 := hb6_18
          try simp only [au_std, Bool.not_true, Bool.not_false] at ghb6_18
          refine VX.meek rfl ?_
          refine VX.guardT rfl rfl hb6_18 ?_
          first | refine VX.meek rfl ?_ | refine VX.loadI rfl rfl au_l ?_ | refine VX.loadP rfl rfl rfl au_l ?_
          refine VX.guardT rfl rfl hb6_18 ?_
          refine VX.meek rfl ?_
          refine VX.pickO rfl (fun _ => rfl) ?_
          exact VX.nil ⟨rfl, rfl⟩
        · refine VX.guardF rfl rfl hb6_18 ?_
          refine VX.guardF rfl rfl hb6_18 ?_
          exact VX.pickO rfl (fun h => absurd (h.symm.trans hb6_18) (by decide)) (VX.nil ⟨rfl, rfl⟩)
      refine VX.meek rfl ?_
      refine' VX.merge (d := 62) [_, _, _, _] rfl ?_ rfl ?_
      rotate_left
      · refine VX.guard rfl rfl (fun hb6_23 => ?_) (fun hb6_23 => ?_)
        · have ghb6_23 := hb6_23
          try simp only [au_std, Bool.not_true, Bool.not_false] at ghb6_23
          refine VX.meek rfl ?_
          refine VX.guardT rfl rfl hb6_23 ?_
          first | refine VX.meek rfl ?_ | refine VX.loadI rfl rfl au_l ?_ | refine VX.loadP rfl rfl rfl au_l ?_
          refine VX.guardT rfl rfl hb6_23 ?_
          refine VX.meek rfl ?_
          refine VX.pickO rfl (fun _ => rfl) ?_
          exact VX.nil ⟨rfl, rfl⟩
        · refine VX.guardF rfl rfl hb6_23 ?_
          refine VX.guardF rfl rfl hb6_23 ?_
          exact VX.pickO rfl (fun h => absurd (h.symm.trans hb6_23) (by decide)) (VX.nil ⟨rfl, rfl⟩)
      refine VX.meek rfl ?_
      refine' VX.merge (d := 67) [_, _, _, _] rfl ?_ rfl ?_
      rotate_left
      · refine VX.guard rfl rfl (fun hb6_28 => ?_) (fun hb6_28 => ?_)
        · have ghb6_28 := hb6_28
          try simp only [au_std, Bool.not_true, Bool.not_false] at ghb6_28
          refine VX.meek rfl ?_
          refine VX.guardT rfl rfl hb6_28 ?_
          first | refine VX.meek rfl ?_ | refine VX.loadI rfl rfl au_l ?_ | refine VX.loadP rfl rfl rfl au_l ?_
          refine VX.guardT rfl rfl hb6_28 ?_
          refine VX.meek rfl ?_
          refine VX.pickO rfl (fun _ => rfl) ?_
          exact VX.nil ⟨rfl, rfl⟩
        · refine VX.guardF rfl rfl hb6_28 ?_
          refine VX.guardF rfl rfl hb6_28 ?_
          exact VX.pickO rfl (fun h => absurd (h.symm.trans hb6_28) (by decide)) (VX.nil ⟨rfl, rfl⟩)
      refine VX.meek rfl ?_
      refine' VX.merge (d := 72) [_, _, _, _] rfl ?_ rfl ?_
      rotate_left
      · refine VX.guard rfl rfl (fun hb6_33 => ?_) (fun hb6_33 => ?_)
        · have ghb6_33 := hb6_33
          try simp only [au_std, Bool.not_true, Bool.not_false] at ghb6_33
          refine VX.meek rfl ?_
          refine VX.guardT rfl rfl hb6_33 ?_
          first | refine VX.meek rfl ?_ | refine VX.loadI rfl rfl au_l ?_ | refine VX.loadP rfl rfl rfl au_l ?_
          refine VX.guardT rfl rfl hb6_33 ?_
          refine VX.meek rfl ?_
          refine VX.pickO rfl (fun _ => rfl) ?_
          exact VX.nil ⟨rfl, rfl⟩
        · refine VX.guardF rfl rfl hb6_33 ?_
          refine VX.guardF rfl rfl hb6_33 ?_
          exact VX.pickO rfl (fun h => absurd (h.symm.trans hb6_33) (by decide)) (VX.nil ⟨rfl, rfl⟩)
      refine VX.nil ?_
      refine VC.cond rfl (fun hc2 => ?_) (fun hc2 => ?_)
      · (try simp only [au_std] at hc2)
        refine VC.reg tab_ok [] rfl ?_
        refine VX.callP0 rfl rfl rfl (awake25_p) ?_
        refine VX.meek rfl ?_
        refine VX.nil ?_
        refine VC.ret ?_
        exact ⟨trivial, _, rfl, Cv.eq rfl rfl⟩
      · (try simp only [au_std] at hc2); have hks : okS seen[k]! := (by unfold okS; omega)
        refine VC.skip ?_
        refine VC.regN tab_ok [] rfl ?_
        first | refine VX.add rfl rfl (by omega) ?_ | refine VX.meek rfl ?_
        refine VX.meek rfl ?_
        refine VX.nil ?_
        refine ⟨k + 1, by (try dsimp only); omega, ?_, (by refine ⟨[], rfl, by first | trivial | decide, rfl, ?_, ?_⟩ <;> (repeat' first | exact trivial | exact CvB_n | exact CvB_d | refine CvE_app ?_ ?_ | refine CvE_cons rfl ?_ ?_ | refine CvH_cons ?_ ?_ | refine CvB_c rfl ?_ | fail) <;> first | exact au_v | (fail))⟩
        refine ⟨by omega, fun s hs => ?_⟩; rw [take_snoc hkl] at hs; rcases List.mem_append.1 hs with hs | hs; exact hok s hs; rw [List.mem_singleton] at hs; subst hs; exact hks
    · (try simp only [au_std] at hc1); obtain rfl : k = seen.length := (by omega); rw [List.take_length] at hok
      refine VC.exit ?_
      refine VC.reg tab_ok [] rfl ?_
      first | refine VX.meek rfl ?_ | refine VX.loadI rfl rfl au_l ?_ | refine VX.loadP rfl rfl rfl au_l ?_
      refine VX.callP0 rfl rfl rfl (hmk) ?_
      iterate 5 refine VX.meek rfl ?_
      refine VX.new rfl rfl ?_
      refine VX.store rfl rfl rfl rfl rfl au_sR rfl ?_
      iterate 3 refine VX.meek rfl ?_
      refine VX.nil ?_
      refine VC.drwS tab_ok [] [_, _, _, _, _, _, _, _, _, _, _] (_) rfl (by kernel_rfl) (by kernel_rfl) (by kernel_rfl) (seen_refl _) ?_
      refine VS.seg (l1 := [_, _, _, _, _, _, _, _, _]) rfl ?_
      first | refine VX.meek rfl ?_ | refine VX.loadI rfl rfl au_l ?_ | refine VX.loadP rfl rfl rfl au_l ?_
      refine VX.meek rfl ?_
      refine VX.callP0 rfl rfl rfl (of_p seen (by omega) (fun r hr => ⟨(hsi r hr).1, (hsi r hr).2.1⟩)) ?_
      first | refine VX.meek rfl ?_ | refine VX.loadI rfl rfl au_l ?_ | refine VX.loadP rfl rfl rfl au_l ?_
      refine VX.meek rfl ?_
      refine VX.callP0 rfl rfl rfl (hget) ?_
      iterate 3 refine VX.meek rfl ?_
      refine VX.nil ?_
      refine VS.hid rfl ?_
      refine VS.sto rfl rfl rfl rfl ?_
      refine VS.nil (⟨rfl, Nat.le_of_ble_eq_true rfl, rfl, trivial⟩) ?_
      refine VX.meek rfl ?_
      refine VX.nil ?_
      refine VC.view ([(11, .iptr [I64 w, I64 h, .islc (encL cU px) px.length none] 0), (15, .iptr [I64 rw', I64 rh', .islc (encL cU G) G.length none] 0)]) ([]) [1, 3, 6, 12, 13, 14, 16] rfl (by refine ⟨[], rfl, by first | trivial | decide, rfl, ?_, ?_⟩ <;> (repeat' first | exact trivial | exact CvB_n | exact CvB_d | refine CvE_app ?_ ?_ | refine CvE_cons rfl ?_ ?_ | refine CvH_cons ?_ ?_ | refine CvB_c rfl ?_ | fail) <;> first | exact au_v | ((refine Cv.fptr ⟨rfl, by simp⟩ ?_; exact CvL.eq rfl (by simp only [T.pureL, T.pure, encL_pure]; rfl)))) ?_
      refine VC.seq ?_
      refine VC.reg tab_ok [] rfl ?_
      refine VX.meek rfl ?_
      first | refine VX.meek rfl ?_ | refine VX.loadI rfl rfl au_l ?_ | refine VX.loadP rfl rfl rfl au_l ?_
      iterate 2 refine VX.meek rfl ?_
      refine' VX.merge (d := 98) [_, _, _, _] rfl ?_ rfl ?_
      rotate_left
      · refine VX.guard rfl rfl (fun hb11_3 => ?_) (fun hb11_3 => ?_)
        · have ghb11_3 := hb11_3
          try simp only [au_std, Bool.not_true, Bool.not_false] at ghb11_3
          refine VX.meek rfl ?_
          refine VX.guardT rfl rfl hb11_3 ?_
          first | refine VX.meek rfl ?_ | refine VX.loadI rfl rfl au_l ?_ | refine VX.loadP rfl rfl rfl au_l ?_
          refine VX.guardT rfl rfl hb11_3 ?_
          refine VX.meek rfl ?_
          refine VX.pickO rfl (fun _ => rfl) ?_
          exact VX.nil ⟨rfl, rfl⟩
        · refine VX.guardF rfl rfl hb11_3 ?_
          refine VX.guardF rfl rfl hb11_3 ?_
          exact VX.pickO rfl (fun h => absurd (h.symm.trans hb11_3) (by decide)) (VX.nil ⟨rfl, rfl⟩)
      refine VX.meek rfl ?_
      refine' VX.merge (d := 103) [_, _, _, _] rfl ?_ rfl ?_
      rotate_left
      · refine VX.guard rfl rfl (fun hb11_8 => ?_) (fun hb11_8 => ?_)
        · have ghb11_8 := hb11_8
          try simp only [au_std, Bool.not_true, Bool.not_false] at ghb11_8
          refine VX.meek rfl ?_
          refine VX.guardT rfl rfl hb11_8 ?_
          first | refine VX.meek rfl ?_ | refine VX.loadI rfl rfl au_l ?_ | refine VX.loadP rfl rfl rfl au_l ?_
          refine VX.guardT rfl rfl hb11_8 ?_
          refine VX.meek rfl ?_
          refine VX.pickO rfl (fun _ => rfl) ?_
          exact VX.nil ⟨rfl, rfl⟩
        · refine VX.guardF rfl rfl hb11_8 ?_
          refine VX.guardF rfl rfl hb11_8 ?_
          exact VX.pickO rfl (fun h => absurd (h.symm.trans hb11_8) (by decide)) (VX.nil ⟨rfl, rfl⟩)
      refine VX.meek rfl ?_
      refine' VX.merge (d := 108) [_, _, _, _] rfl ?_ rfl ?_
      rotate_left
      · refine VX.guard rfl rfl (fun hb11_13 => ?_) (fun hb11_13 => ?_)
        · have ghb11_13 := hb11_13
          try simp only [au_std, Bool.not_true, Bool.not_false] at ghb11_13
          refine VX.meek rfl ?_
          refine VX.guardT rfl rfl hb11_13 ?_
          first | refine VX.meek rfl ?_ | refine VX.loadI rfl rfl au_l ?_ | refine VX.loadP rfl rfl rfl au_l ?_
          refine VX.guardT rfl rfl hb11_13 ?_
          refine VX.meek rfl ?_
          refine VX.pickO rfl (fun _ => rfl) ?_
          exact VX.nil ⟨rfl, rfl⟩
        · refine VX.guardF rfl rfl hb11_13 ?_
          refine VX.guardF rfl rfl hb11_13 ?_
          exact VX.pickO rfl (fun h => absurd (h.symm.trans hb11_13) (by decide)) (VX.nil ⟨rfl, rfl⟩)
      refine VX.nil ?_
      refine VC.cond rfl (fun hc3 => ?_) (fun hc3 => ?_)
      · (try simp only [au_std] at hc3); have he17 := hA (by omega); subst he17
        refine VC.reg tab_ok [] rfl ?_
        refine VX.callP0 rfl rfl rfl (awake25_p) ?_
        refine VX.meek rfl ?_
        refine' VX.merge (d := 113) [_, _, _] rfl ?_ rfl ?_
        rotate_left
        · refine VX.guard rfl rfl (fun hb12_1 => ?_) (fun hb12_1 => ?_)
          · have ghb12_1 := hb12_1
            try simp only [au_std, Bool.not_true, Bool.not_false] at ghb12_1
            refine VX.meek rfl ?_
            refine VX.guardT rfl rfl hb12_1 ?_
            refine VX.meek rfl ?_
            refine VX.pickA rfl (fun _ => rfl) ?_
            exact VX.nil ⟨rfl, rfl⟩
          · refine VX.guardF rfl rfl hb12_1 ?_
            exact VX.pickA rfl (fun h => absurd (h.symm.trans hb12_1) (by decide)) (VX.nil ⟨rfl, rfl⟩)
        refine VX.meek rfl ?_
        refine VX.nil ?_
        refine VC.ret ?_
        exact ⟨trivial, _, rfl, Cv.eq rfl rfl⟩
      · (try simp only [au_std] at hc3); skip
        refine VC.skip ?_
        refine VC.seq ?_
        refine VC.reg tab_ok [] rfl ?_
        refine VX.meek rfl ?_
        first | refine VX.meek rfl ?_ | refine VX.loadI rfl rfl au_l ?_ | refine VX.loadP rfl rfl rfl au_l ?_
        iterate 2 refine VX.meek rfl ?_
        refine' VX.merge (d := 121) [_, _, _, _] rfl ?_ rfl ?_
        rotate_left
        · refine VX.guard rfl rfl (fun hb13_3 => ?_) (fun hb13_3 => ?_)
          · have ghb13_3 := hb13_3
            try simp only [au_std, Bool.not_true, Bool.not_false] at ghb13_3
            refine VX.meek rfl ?_
            refine VX.guardT rfl rfl hb13_3 ?_
            first | refine VX.meek rfl ?_ | refine VX.loadI rfl rfl au_l ?_ | refine VX.loadP rfl rfl rfl au_l ?_
            refine VX.guardT rfl rfl hb13_3 ?_
            refine VX.meek rfl ?_
            refine VX.pickO rfl (fun _ => rfl) ?_
            exact VX.nil ⟨rfl, rfl⟩
          · refine VX.guardF rfl rfl hb13_3 ?_
            refine VX.guardF rfl rfl hb13_3 ?_
            exact VX.pickO rfl (fun h => absurd (h.symm.trans hb13_3) (by decide)) (VX.nil ⟨rfl, rfl⟩)
        refine VX.meek rfl ?_
        refine' VX.merge (d := 126) [_, _, _, _] rfl ?_ rfl ?_
        rotate_left
        · refine VX.guard rfl rfl (fun hb13_8 => ?_) (fun hb13_8 => ?_)
          · have ghb13_8 := hb13_8
            try simp only [au_std, Bool.not_true, Bool.not_false] at ghb13_8
            refine VX.meek rfl ?_
            refine VX.guardT rfl rfl hb13_8 ?_
            first | refine VX.meek rfl ?_ | refine VX.loadI rfl rfl au_l ?_ | refine VX.loadP rfl rfl rfl au_l ?_
            refine VX.guardT rfl rfl hb13_8 ?_
            refine VX.meek rfl ?_
            refine VX.pickO rfl (fun _ => rfl) ?_
            exact VX.nil ⟨rfl, rfl⟩
          · refine VX.guardF rfl rfl hb13_8 ?_
            refine VX.guardF rfl rfl hb13_8 ?_
            exact VX.pickO rfl (fun h => absurd (h.symm.trans hb13_8) (by decide)) (VX.nil ⟨rfl, rfl⟩)
        refine VX.meek rfl ?_
        refine' VX.merge (d := 131) [_, _, _, _] rfl ?_ rfl ?_
        rotate_left
        · refine VX.guard rfl rfl (fun hb13_13 => ?_) (fun hb13_13 => ?_)
          · have ghb13_13 := hb13_13
            try simp only [au_std, Bool.not_true, Bool.not_false] at ghb13_13
            refine VX.meek rfl ?_
            refine VX.guardT rfl rfl hb13_13 ?_
            first | refine VX.meek rfl ?_ | refine VX.loadI rfl rfl au_l ?_ | refine VX.loadP rfl rfl rfl au_l ?_
            refine VX.guardT rfl rfl hb13_13 ?_
            refine VX.meek rfl ?_
            refine VX.pickO rfl (fun _ => rfl) ?_
            exact VX.nil ⟨rfl, rfl⟩
          · refine VX.guardF rfl rfl hb13_13 ?_
            refine VX.guardF rfl rfl hb13_13 ?_
            exact VX.pickO rfl (fun h => absurd (h.symm.trans hb13_13) (by decide)) (VX.nil ⟨rfl, rfl⟩)
        refine VX.nil ?_
        refine VC.cond rfl (fun hc4 => ?_) (fun hc4 => ?_)
        · (try simp only [au_std] at hc4); have he1 := hB (by omega) (by omega) (by omega) (by omega) (by omega); subst he1
          refine VC.reg tab_ok [] rfl ?_
          refine VX.callP0 rfl rfl rfl (awake25_p) ?_
          refine VX.meek rfl ?_
          refine' VX.merge (d := 136) [_, _, _] rfl ?_ rfl ?_
          rotate_left
          · refine VX.guard rfl rfl (fun hb14_1 => ?_) (fun hb14_1 => ?_)
            · have ghb14_1 := hb14_1
              try simp only [au_std, Bool.not_true, Bool.not_false] at ghb14_1
              refine VX.meek rfl ?_
              refine VX.guardT rfl rfl hb14_1 ?_
              refine VX.meek rfl ?_
              refine VX.pickA rfl (fun _ => rfl) ?_
              exact VX.nil ⟨rfl, rfl⟩
            · refine VX.guardF rfl rfl hb14_1 ?_
              exact VX.pickA rfl (fun h => absurd (h.symm.trans hb14_1) (by decide)) (VX.nil ⟨rfl, rfl⟩)
          refine VX.meek rfl ?_
          refine VX.nil ?_
          refine VC.ret ?_
          exact ⟨trivial, _, rfl, Cv.eq rfl rfl⟩
        · (try simp only [au_std] at hc4); obtain ⟨rfl, rfl, rfl, hG⟩ := hC (by omega) (by omega) (by omega) (by omega) (by omega) (by omega) (by omega) (by omega)
          have hm : (rw' : Int) * (rh' : Int) = ((rw' * rh' : Nat) : Int) := (Int.natCast_mul rw' rh').symm
          have hrr : rw' * rh' ≤ 128 * 128 := Nat.mul_le_mul (by omega) (by omega)
          have hGl : G.length = rw' * rh' := (by rw [hG, getL_len])
          have hGb : ∀ v ∈ G, 0 ≤ v ∧ v < 256 := (by rw [hG]; exact getL_bd hpb _ _ _ _ _ ho)
          have hGa : ∀ i, i < rw' * rh' → G[i]! = if inB' w h (X + (i % rw' : Nat)) (Y + (i / rw' : Nat)) = true ∧ inL seen (X + (i % rw' : Nat)) (Y + (i / rw' : Nat)) then px[((Y + (i / rw' : Nat)) * w + (X + (i % rw' : Nat))).toNat]! else out := fun i hi => (by rw [hG]; exact get_want hok w h px X Y rw' rh' out (by omega) (by omega) (by omega) (by omega) (by omega) (by omega) hi)
          clear hG
          refine VC.skip ?_
          refine VC.reg tab_ok [] rfl ?_
          refine VX.meek rfl ?_
          first | refine VX.meek rfl ?_ | refine VX.loadI rfl rfl au_l ?_ | refine VX.loadP rfl rfl rfl au_l ?_
          refine VX.meek rfl ?_
          first | refine VX.meek rfl ?_ | refine VX.loadI rfl rfl au_l ?_ | refine VX.loadP rfl rfl rfl au_l ?_
          refine VX.mul rfl rfl (by dsimp only; rw [hm]; omega) ?_
          refine VX.mkS (a := rw' * rh') (b := rw' * rh') rfl rfl rfl rfl rfl rfl hm hm (by omega) (by omega) (by dsimp only; omega) ?_
          refine VX.meek rfl ?_
          refine VX.nil ?_
          refine VC.seq ?_
          refine VC.reg tab_ok [] rfl ?_
          iterate 3 refine VX.meek rfl ?_
          refine VX.nil ?_
          refine VC.block ?_
          refine VC.loopS (σ := Nat) (fun i => rw' * rh' - i) (fun i => i ≤ rw' * rh') (fun i => [(145, I64 i), (17, .slc 0 0 (rw' * rh') 1 none)]) (fun i => [.c (encL cU (padL (G.take i) (rw' * rh')))]) [1, 3, 6, 12, 13, 14, 15, 16, 144] rfl (0) ?_ ?_ ?_
          · refine ⟨[some 0], rfl, by first | trivial | decide, rfl, ?_, ?_⟩ <;> (repeat' first | exact trivial | exact CvB_n | exact CvB_d | refine CvE_app ?_ ?_ | refine CvE_cons rfl ?_ ?_ | refine CvH_cons ?_ ?_ | refine CvB_c rfl ?_ | fail) <;> first | exact au_v | (first | exact Cv.slcE rfl rfl (.inr rfl) | (rw [List.take_zero, padL_nil, ← zerosU]; exact CvL.pure (pureL_zeros rfl)))
          · (try dsimp only); omega
          rintro i hi
          refine VC.reg tab_ok [] rfl ?_
          refine VX.meek rfl ?_
          refine VX.nil ?_
          refine VC.seq ?_
          refine VC.cond rfl (fun hc5 => ?_) (fun hc5 => ?_)
          · (try simp only [au_std] at hc5); have hil : i < rw' * rh' := (by omega); have hgi := hGa i hil; have hplen := padL_len (G.take i) (rw' * rh')
            have hxm : (i : Int) % (rw' : Int) = ((i % rw' : Nat) : Int) := (Int.natCast_emod i rw').symm
            have hyd : (i : Int) / (rw' : Int) = ((i / rw' : Nat) : Int) := (Int.natCast_ediv i rw').symm
            have hx1 : i % rw' < rw' := Nat.mod_lt _ (by omega)
            have hy1 : i / rw' < rh' := Nat.div_lt_of_lt_mul hil
            have hst := padL_set (P := G) (n := rw' * rh') hil (by omega)
            generalize i % rw' = a at hxm hx1 hgi
            generalize i / rw' = b at hyd hy1 hgi
            refine VC.skip ?_
            refine VC.seq ?_
            refine VC.block ?_
            refine VC.reg tab_ok [] rfl ?_
            iterate 2 refine VX.meek rfl ?_
            refine VX.nil ?_
            refine VC.drw tab_ok [] [_, _, _, _, _, _, _, _, _, _, _, _, _, _, _, _] rfl (by kernel_rfl) (by kernel_rfl) ?_
            refine VX.meek rfl ?_
            first | refine VX.meek rfl ?_ | refine VX.loadI rfl rfl au_l ?_ | refine VX.loadP rfl rfl rfl au_l ?_
            iterate 2 refine VX.meek rfl ?_
            first | refine VX.meek rfl ?_ | refine VX.loadI rfl rfl au_l ?_ | refine VX.loadP rfl rfl rfl au_l ?_
            refine VX.rem rfl rfl (by omega) (by dsimp only; omega) ?_; rw [show (i : Int) % (Rect.mk X Y (rw' : Int) (rh' : Int)).W = (a : Int) from hxm]
            refine VX.add rfl rfl (by dsimp only; omega) ?_
            refine VX.meek rfl ?_
            first | refine VX.meek rfl ?_ | refine VX.loadI rfl rfl au_l ?_ | refine VX.loadP rfl rfl rfl au_l ?_
            iterate 2 refine VX.meek rfl ?_
            first | refine VX.meek rfl ?_ | refine VX.loadI rfl rfl au_l ?_ | refine VX.loadP rfl rfl rfl au_l ?_
            refine VX.quo rfl rfl (by omega) (by omega) (by dsimp only; omega) ?_; rw [show (i : Int) / (Rect.mk X Y (rw' : Int) (rh' : Int)).W = (b : Int) from hyd]
            refine VX.add rfl rfl (by dsimp only; omega) ?_
            iterate 2 refine VX.meek rfl ?_
            refine VX.nil ?_
            refine VX.nil ?_
            dsimp only; generalize hxx : X + (a : Int) = xx at *; generalize hyy : Y + (b : Int) = yy at *
            refine VC.reg tab_ok [] rfl ?_
            iterate 3 refine VX.meek rfl ?_
            refine' VX.merge (d := 168) [_, _, _, _] rfl ?_ rfl ?_
            rotate_left
            · refine VX.guard rfl rfl (fun hb20_2 => ?_) (fun hb20_2 => ?_)
              · have ghb20_2 := hb20_2
                try simp only [au_std, Bool.not_true, Bool.not_false] at ghb20_2
                refine VX.meek rfl ?_
                refine VX.guardT rfl rfl hb20_2 ?_
                refine VX.meek rfl ?_
                refine VX.guardT rfl rfl hb20_2 ?_
                refine VX.meek rfl ?_
                refine VX.pickA rfl (fun _ => rfl) ?_
                exact VX.nil ⟨rfl, rfl⟩
              · refine VX.guardF rfl rfl hb20_2 ?_
                refine VX.guardF rfl rfl hb20_2 ?_
                exact VX.pickA rfl (fun h => absurd (h.symm.trans hb20_2) (by decide)) (VX.nil ⟨rfl, rfl⟩)
            refine VX.meek rfl ?_
            refine' VX.merge (d := 172) [_, _, _] rfl ?_ rfl ?_
            rotate_left
            · refine VX.guard rfl rfl (fun hb20_7 => ?_) (fun hb20_7 => ?_)
              · have ghb20_7 := hb20_7
                try simp only [au_std, Bool.not_true, Bool.not_false] at ghb20_7
                refine VX.meek rfl ?_
                refine VX.guardT rfl rfl hb20_7 ?_
                refine VX.meek rfl ?_
                refine VX.pickA rfl (fun _ => rfl) ?_
                exact VX.nil ⟨rfl, rfl⟩
              · refine VX.guardF rfl rfl hb20_7 ?_
                exact VX.pickA rfl (fun h => absurd (h.symm.trans hb20_7) (by decide)) (VX.nil ⟨rfl, rfl⟩)
            refine VX.meek rfl ?_
            refine' VX.merge (d := 177) [_, _, _, _] rfl ?_ rfl ?_
            rotate_left
            · refine VX.guard rfl rfl (fun hb20_11 => ?_) (fun hb20_11 => ?_)
              · have ghb20_11 := hb20_11
                try simp only [au_std, Bool.not_true, Bool.not_false] at ghb20_11
                refine VX.meek rfl ?_
                refine VX.guardT rfl rfl hb20_11 ?_
                refine VX.meek rfl ?_
                refine VX.guardT rfl rfl hb20_11 ?_
                refine VX.meek rfl ?_
                refine VX.pickA rfl (fun _ => rfl) ?_
                exact VX.nil ⟨rfl, rfl⟩
              · refine VX.guardF rfl rfl hb20_11 ?_
                refine VX.guardF rfl rfl hb20_11 ?_
                exact VX.pickA rfl (fun h => absurd (h.symm.trans hb20_11) (by decide)) (VX.nil ⟨rfl, rfl⟩)
            refine VX.meek rfl ?_
            refine VX.nil ?_
            refine VC.reg tab_ok [] rfl ?_
            refine VX.meek rfl ?_
            refine VX.nil ?_
            refine VC.seq ?_
            refine VC.reg tab_ok [] rfl ?_
            iterate 3 refine VX.meek rfl ?_
            refine VX.nil ?_
            refine VC.block ?_
            refine VC.loopS (σ := Nat) (fun k => seen.length - k) (fun k => k ≤ seen.length) (fun k => [(180, I64 k), (22, BL (decide (inL (seen.take k) xx yy))), (17, .slc 0 0 (rw' * rh') 1 none)]) (fun k => [.c (encL cU (padL (G.take i) (rw' * rh')))]) [1, 3, 6, 12, 13, 14, 15, 16, 18, 19, 20, 21, 144, 145, 178, 179] rfl (0) ?_ ?_ ?_
            · refine ⟨[some 0], rfl, by first | trivial | decide, rfl, ?_, ?_⟩ <;> (repeat' first | exact trivial | exact CvB_n | exact CvB_d | refine CvE_app ?_ ?_ | refine CvE_cons rfl ?_ ?_ | refine CvH_cons ?_ ?_ | refine CvB_c rfl ?_ | fail) <;> first | exact au_v | (first | exact Cv.slc rfl (.inl rfl) | exact CvL.pure (encL_pure cU _) | exact Cv.eq (congrArg BL (by simp [inL])) rfl)
            · (try dsimp only); omega
            rintro k hk
            refine VC.reg tab_ok [] rfl ?_
            refine VX.meek rfl ?_
            refine VX.nil ?_
            refine VC.seq ?_
            refine VC.cond rfl (fun hc6 => ?_) (fun hc6 => ?_)
            · (try simp only [au_std] at hc6); have hkl : k < seen.length := (by omega); have hks := hok seen[k]! (List.mem_iff_getElem?.2 ⟨k, getE hkl⟩); unfold okS at hks
              refine VC.skip ?_
              refine VC.seq ?_
              refine VC.block ?_
              refine VC.reg tab_ok [] rfl ?_
              first | refine VX.idxI rfl rfl rfl rfl rfl rfl (by omega) ?_ | refine VX.idxO0 rfl rfl rfl rfl rfl rfl rfl (by omega) ?_ | refine VX.idxO0 rfl rfl rfl rfl rfl rfl au_z (by omega) ?_ | refine VX.idxO rfl rfl rfl rfl rfl rfl rfl (by omega) ?_ | refine VX.idxI rfl rfl rfl rfl rfl au_z (by omega) ?_ | refine VX.idxO rfl rfl rfl rfl rfl rfl au_z (by omega) ?_ | refine VX.meek rfl ?_
              first | refine VX.meek rfl ?_ | refine VX.loadI rfl rfl au_l ?_ | refine VX.loadP rfl rfl rfl au_l ?_
              refine VX.new rfl rfl ?_
              refine VX.store rfl rfl rfl rfl rfl au_sR rfl ?_
              refine VX.nil ?_
              refine VC.regN tab_ok [] rfl ?_
              iterate 2 refine VX.meek rfl ?_
              refine' VX.merge (d := 214) [_, _, _, _, _, _, _, _, _, _, _, _, _, _, _, _, _, _, _, _, _, _, _, _, _, _, _, _, _] rfl ?_ rfl ?_
              rotate_left
              · refine VX.guard rfl rfl (fun hb25_1 => ?_) (fun hb25_1 => ?_)
                · have ghb25_1 := hb25_1
                  try simp only [au_std, Bool.not_true, Bool.not_false] at ghb25_1
                  refine VX.meek rfl ?_
                  refine VX.guardT rfl rfl hb25_1 ?_
                  refine VX.meek rfl ?_
                  refine VX.guardT rfl rfl hb25_1 ?_
                  first | refine VX.meek rfl ?_ | refine VX.loadI rfl rfl au_l ?_ | refine VX.loadP rfl rfl rfl au_l ?_
                  refine VX.guardT rfl rfl hb25_1 ?_
                  refine VX.meek rfl ?_
                  refine VX.guardT rfl rfl hb25_1 ?_
                  refine VX.meek rfl ?_
                  refine' VX.merge (d := 198) [_, _, _, _, _, _, _, _] rfl ?_ rfl ?_
                  rotate_left
                  · refine VX.guard rfl rfl (fun hb25_6 => ?_) (fun hb25_6 => ?_)
                    · have ghb25_6 := hb25_6
                      try simp only [au_std, Bool.not_true, Bool.not_false] at ghb25_6
                      refine VX.meek rfl ?_
                      refine VX.guardT rfl rfl hb25_6 ?_
                      refine VX.meek rfl ?_
                      refine VX.guardT rfl rfl hb25_6 ?_
                      first | refine VX.meek rfl ?_ | refine VX.loadI rfl rfl au_l ?_ | refine VX.loadP rfl rfl rfl au_l ?_
                      refine VX.guardT rfl rfl hb25_6 ?_
                      refine VX.meek rfl ?_
                      refine VX.guardT rfl rfl hb25_6 ?_
                      first | refine VX.meek rfl ?_ | refine VX.loadI rfl rfl au_l ?_ | refine VX.loadP rfl rfl rfl au_l ?_
                      refine VX.guardT rfl rfl hb25_6 ?_
                      first | refine VX.add rfl rfl (by omega) ?_ | refine VX.meek rfl ?_
                      refine VX.guardT rfl rfl hb25_6 ?_
                      refine VX.meek rfl ?_
                      refine VX.guardT rfl rfl hb25_1 ?_
                      refine VX.pickA rfl (fun _ => rfl) ?_
                      exact VX.nil ⟨rfl, rfl⟩
                    · refine VX.guardF rfl rfl hb25_6 ?_
                      refine VX.guardF rfl rfl hb25_6 ?_
                      refine VX.guardF rfl rfl hb25_6 ?_
                      refine VX.guardF rfl rfl hb25_6 ?_
                      refine VX.guardF rfl rfl hb25_6 ?_
                      refine VX.guardF rfl rfl hb25_6 ?_
                      refine VX.guardT rfl rfl hb25_1 ?_
                      exact VX.pickA rfl (fun h => absurd (h.symm.trans hb25_6) (by decide)) (VX.nil ⟨rfl, rfl⟩)
                  refine VX.guardT rfl rfl hb25_1 ?_
                  refine VX.meek rfl ?_
                  refine' VX.merge (d := 204) [_, _, _, _, _] rfl ?_ rfl ?_
                  rotate_left
                  · refine VX.guard rfl rfl (fun hb25_15 => ?_) (fun hb25_15 => ?_)
                    · have ghb25_15 := hb25_15
                      try simp only [au_std, Bool.not_true, Bool.not_false] at ghb25_15
                      refine VX.meek rfl ?_
                      refine VX.guardT rfl rfl hb25_15 ?_
                      refine VX.meek rfl ?_
                      refine VX.guardT rfl rfl hb25_15 ?_
                      first | refine VX.meek rfl ?_ | refine VX.loadI rfl rfl au_l ?_ | refine VX.loadP rfl rfl rfl au_l ?_
                      refine VX.guardT rfl rfl hb25_15 ?_
                      refine VX.meek rfl ?_
                      refine VX.guardT rfl rfl hb25_1 ?_
                      refine VX.pickA rfl (fun _ => rfl) ?_
                      exact VX.nil ⟨rfl, rfl⟩
                    · refine VX.guardF rfl rfl hb25_15 ?_
                      refine VX.guardF rfl rfl hb25_15 ?_
                      refine VX.guardF rfl rfl hb25_15 ?_
                      refine VX.guardT rfl rfl hb25_1 ?_
                      exact VX.pickA rfl (fun h => absurd (h.symm.trans hb25_15) (by decide)) (VX.nil ⟨rfl, rfl⟩)
                  refine VX.guardT rfl rfl hb25_1 ?_
                  refine VX.meek rfl ?_
                  refine' VX.merge (d := 213) [_, _, _, _, _, _, _, _] rfl ?_ rfl ?_
                  rotate_left
                  · refine VX.guard rfl rfl (fun hb25_21 => ?_) (fun hb25_21 => ?_)
                    · have ghb25_21 := hb25_21
                      try simp only [au_std, Bool.not_true, Bool.not_false] at ghb25_21
                      refine VX.meek rfl ?_
                      refine VX.guardT rfl rfl hb25_21 ?_
                      refine VX.meek rfl ?_
                      refine VX.guardT rfl rfl hb25_21 ?_
                      first | refine VX.meek rfl ?_ | refine VX.loadI rfl rfl au_l ?_ | refine VX.loadP rfl rfl rfl au_l ?_
                      refine VX.guardT rfl rfl hb25_21 ?_
                      refine VX.meek rfl ?_
                      refine VX.guardT rfl rfl hb25_21 ?_
                      first | refine VX.meek rfl ?_ | refine VX.loadI rfl rfl au_l ?_ | refine VX.loadP rfl rfl rfl au_l ?_
                      refine VX.guardT rfl rfl hb25_21 ?_
                      first | refine VX.add rfl rfl (by omega) ?_ | refine VX.meek rfl ?_
                      refine VX.guardT rfl rfl hb25_21 ?_
                      refine VX.meek rfl ?_
                      refine VX.guardT rfl rfl hb25_1 ?_
                      refine VX.pickA rfl (fun _ => rfl) ?_
                      exact VX.nil ⟨rfl, rfl⟩
                    · refine VX.guardF rfl rfl hb25_21 ?_
                      refine VX.guardF rfl rfl hb25_21 ?_
                      refine VX.guardF rfl rfl hb25_21 ?_
                      refine VX.guardF rfl rfl hb25_21 ?_
                      refine VX.guardF rfl rfl hb25_21 ?_
                      refine VX.guardF rfl rfl hb25_21 ?_
                      refine VX.guardT rfl rfl hb25_1 ?_
                      exact VX.pickA rfl (fun h => absurd (h.symm.trans hb25_21) (by decide)) (VX.nil ⟨rfl, rfl⟩)
                  refine VX.pickO rfl (fun _ => rfl) ?_
                  exact VX.nil ⟨rfl, rfl⟩
                · refine VX.guardF rfl rfl hb25_1 ?_
                  refine VX.guardF rfl rfl hb25_1 ?_
                  refine VX.guardF rfl rfl hb25_1 ?_
                  refine VX.guardF rfl rfl hb25_1 ?_
                  refine VX.guardU rfl rfl ?_
                  refine VX.guardU rfl rfl ?_
                  refine VX.guardU rfl rfl ?_
                  refine VX.guardU rfl rfl ?_
                  refine VX.guardU rfl rfl ?_
                  refine VX.guardU rfl rfl ?_
                  refine VX.guardU rfl rfl ?_
                  refine VX.guardF rfl rfl hb25_1 ?_
                  refine VX.guardF rfl rfl hb25_1 ?_
                  refine VX.guardU rfl rfl ?_
                  refine VX.guardU rfl rfl ?_
                  refine VX.guardU rfl rfl ?_
                  refine VX.guardU rfl rfl ?_
                  refine VX.guardF rfl rfl hb25_1 ?_
                  refine VX.guardF rfl rfl hb25_1 ?_
                  refine VX.guardU rfl rfl ?_
                  refine VX.guardU rfl rfl ?_
                  refine VX.guardU rfl rfl ?_
                  refine VX.guardU rfl rfl ?_
                  refine VX.guardU rfl rfl ?_
                  refine VX.guardU rfl rfl ?_
                  refine VX.guardU rfl rfl ?_
                  refine VX.guardF rfl rfl hb25_1 ?_
                  exact VX.pickO rfl (fun h => absurd (h.symm.trans hb25_1) (by decide)) (VX.nil ⟨rfl, rfl⟩)
              refine VX.meek rfl ?_
              refine VX.nil ?_
              refine VC.regN tab_ok [] rfl ?_
              first | refine VX.add rfl rfl (by omega) ?_ | refine VX.meek rfl ?_
              refine VX.meek rfl ?_
              refine VX.nil ?_
              refine ⟨k + 1, by (try dsimp only); omega, ?_, (by refine ⟨[some 0], rfl, by first | trivial | decide, rfl, ?_, ?_⟩ <;> (repeat' first | exact trivial | exact CvB_n | exact CvB_d | refine CvE_app ?_ ?_ | refine CvE_cons rfl ?_ ?_ | refine CvH_cons ?_ ?_ | refine CvB_c rfl ?_ | fail) <;> first | exact au_v | (first | exact Cv.slc rfl (.inl rfl) | exact CvL.pure (encL_pure cU _) | exact Cv.eq (congrArg BL (by rw [Bool.eq_iff_iff]; simp only [Bool.or_eq_true, Bool.and_eq_true, decide_eq_true_eq, inL_take hkl]; unfold Rect.has; constructor; (rintro (k | k); exact .inl k; right; omega); (rintro (k | k); exact .inl k; right; omega))) rfl))⟩
              (try dsimp only); omega
            · (try simp only [au_std] at hc6); obtain rfl : k = seen.length := (by omega); rw [List.take_length]
              refine VC.exit ?_
              refine VC.reg tab_ok [] rfl ?_
              iterate 3 refine VX.meek rfl ?_
              first | refine VX.idxI rfl rfl rfl rfl rfl rfl (by omega) ?_ | refine VX.idxO0 rfl rfl rfl rfl rfl rfl rfl (by omega) ?_ | refine VX.idxO0 rfl rfl rfl rfl rfl rfl au_z (by omega) ?_ | refine VX.idxO rfl rfl rfl rfl rfl rfl rfl (by omega) ?_ | refine VX.idxI rfl rfl rfl rfl rfl au_z (by omega) ?_ | refine VX.idxO rfl rfl rfl rfl rfl rfl au_z (by omega) ?_ | refine VX.meek rfl ?_
              refine VX.store rfl rfl rfl rfl rfl (by rw [encL_len, cU_sz]; dsimp only; omega) rfl ?_
              refine VX.nil ?_
              rw [show putL (encL cU (padL (G.take i) (rw' * rh'))) (i * 1) (flat (U8 out)) = encL cU ((padL (G.take i) (rw' * rh')).set i out) from cells_put (by omega)]
              refine VC.reg tab_ok [] rfl ?_
              iterate 2 refine VX.meek rfl ?_
              refine' VX.merge (d := 223) [_, _] rfl ?_ rfl ?_
              rotate_left
              · refine VX.guard rfl rfl (fun hb28_1 => ?_) (fun hb28_1 => ?_)
                · have ghb28_1 := hb28_1
                  try simp only [au_std, Bool.not_true, Bool.not_false] at ghb28_1
                  refine VX.meek rfl ?_
                  refine VX.pickA rfl (fun _ => rfl) ?_
                  exact VX.nil ⟨rfl, rfl⟩
                · exact VX.pickA rfl (fun h => absurd (h.symm.trans hb28_1) (by decide)) (VX.nil ⟨rfl, rfl⟩)
              refine VX.nil ?_
              refine VC.cond rfl (fun hc7 => ?_) (fun hc7 => ?_)
              · (try simp only [au_std] at hc7); have hcc : inB' w h xx yy = true ∧ inL seen xx yy := (by rw [inB_iff]; refine ⟨by omega, by first | exact hc7.2 | exact (by simpa using hc7)⟩); have hgv := hgi.trans (if_pos hcc); have hin := inB_iff.1 hcc.1; have hpi := place_lt hin.1 hin.2.1 hin.2.2.1 hin.2.2.2
                refine VC.regN tab_ok [] rfl ?_
                iterate 5 refine VX.meek rfl ?_
                refine VX.mul rfl rfl (by omega) ?_
                refine VX.meek rfl ?_
                first | refine VX.add rfl rfl (by omega) ?_ | refine VX.meek rfl ?_
                first | refine VX.idxI rfl rfl rfl rfl rfl rfl (by omega) ?_ | refine VX.idxO0 rfl rfl rfl rfl rfl rfl rfl (by omega) ?_ | refine VX.idxO0 rfl rfl rfl rfl rfl rfl au_z (by omega) ?_ | refine VX.idxO rfl rfl rfl rfl rfl rfl rfl (by omega) ?_ | refine VX.idxI rfl rfl rfl rfl rfl au_z (by omega) ?_ | refine VX.idxO rfl rfl rfl rfl rfl rfl au_z (by omega) ?_ | refine VX.meek rfl ?_
                first | refine VX.meek rfl ?_ | refine VX.loadI rfl rfl au_l ?_ | refine VX.loadP rfl rfl rfl au_l ?_
                first | refine VX.idxI rfl rfl rfl rfl rfl rfl (by omega) ?_ | refine VX.idxO0 rfl rfl rfl rfl rfl rfl rfl (by omega) ?_ | refine VX.idxO0 rfl rfl rfl rfl rfl rfl au_z (by omega) ?_ | refine VX.idxO rfl rfl rfl rfl rfl rfl rfl (by omega) ?_ | refine VX.idxI rfl rfl rfl rfl rfl au_z (by omega) ?_ | refine VX.idxO rfl rfl rfl rfl rfl rfl au_z (by omega) ?_ | refine VX.meek rfl ?_
                refine VX.store rfl rfl rfl rfl rfl (by rw [encL_len, cU_sz, List.length_set]; dsimp only; omega) rfl ?_
                refine VX.nil ?_
                refine VC.regN tab_ok [] rfl ?_
                first | refine VX.add rfl rfl (by omega) ?_ | refine VX.meek rfl ?_
                refine VX.meek rfl ?_
                refine VX.nil ?_
                refine ⟨i + 1, by (try dsimp only); omega, ?_, (by refine ⟨[some 0], rfl, by first | trivial | decide, rfl, ?_, ?_⟩ <;> (repeat' first | exact trivial | exact CvB_n | exact CvB_d | refine CvE_app ?_ ?_ | refine CvE_cons rfl ?_ ?_ | refine CvH_cons ?_ ?_ | refine CvB_c rfl ?_ | fail) <;> first | exact au_v | (first | exact Cv.slc rfl (.inl rfl) | (rw [← hst, hgv]; exact CvL.eq ((cells_put (by rw [List.length_set]; omega)).trans (by rw [set_set])) (encL_pure cU _))))⟩
                (try dsimp only); omega
              · (try simp only [au_std] at hc7); have hgv : G[i]! = out := hgi.trans (if_neg (fun kk => hc7 (by have := inB_iff.1 kk.1; omega) kk.2))
                refine VC.skip ?_
                refine VC.regN tab_ok [] rfl ?_
                first | refine VX.add rfl rfl (by omega) ?_ | refine VX.meek rfl ?_
                refine VX.meek rfl ?_
                refine VX.nil ?_
                refine ⟨i + 1, by (try dsimp only); omega, ?_, (by refine ⟨[some 0], rfl, by first | trivial | decide, rfl, ?_, ?_⟩ <;> (repeat' first | exact trivial | exact CvB_n | exact CvB_d | refine CvE_app ?_ ?_ | refine CvE_cons rfl ?_ ?_ | refine CvH_cons ?_ ?_ | refine CvB_c rfl ?_ | fail) <;> first | exact au_v | (first | exact Cv.slc rfl (.inl rfl) | (rw [← hst, hgv]; exact CvL.pure (encL_pure cU _))))⟩
                (try dsimp only); omega
          · (try simp only [au_std] at hc5); obtain rfl : i = rw' * rh' := (by omega)
            have hfin : padL (G.take (rw' * rh')) (rw' * rh') = G := listI_ext (by rw [padL_len, hGl]) fun j hj => by
              rw [padL_len] at hj
              rw [padL_bang, List.take_of_length_le (by omega), if_pos ⟨hj, by omega⟩]
            rw [hfin]
            have hgp : T.pureL [I64 rw', I64 rh', .islc (encL cU G) G.length none] = true := by simp only [T.pureL, T.pure, encL_pure]; rfl
            refine VC.exit ?_
            refine VC.reg tab_ok [] rfl ?_
            refine VX.callP0 rfl rfl rfl (awake25_p) ?_
            refine VX.meek rfl ?_
            refine' VX.merge (d := 240) [_, _, _] rfl ?_ rfl ?_
            rotate_left
            · refine VX.guard rfl rfl (fun hb31_1 => ?_) (fun hb31_1 => ?_)
              · have ghb31_1 := hb31_1
                try simp only [au_std, Bool.not_true, Bool.not_false] at ghb31_1
                refine VX.meek rfl ?_
                refine VX.guardT rfl rfl hb31_1 ?_
                refine VX.meek rfl ?_
                refine VX.pickA rfl (fun _ => rfl) ?_
                exact VX.nil ⟨rfl, rfl⟩
              · refine VX.guardF rfl rfl hb31_1 ?_
                exact VX.pickA rfl (fun h => absurd (h.symm.trans hb31_1) (by decide)) (VX.nil ⟨rfl, rfl⟩)
            refine VX.meek rfl ?_
            refine' VX.merge (d := 249) [_, _, _, _, _, _, _, _] rfl ?_ rfl ?_
            rotate_left
            · refine VX.guard rfl rfl (fun hb31_5 => ?_) (fun hb31_5 => ?_)
              · have ghb31_5 := hb31_5
                try simp only [au_std, Bool.not_true, Bool.not_false] at ghb31_5
                first | refine VX.meek rfl ?_ | refine VX.loadI rfl rfl au_l ?_ | refine VX.loadP rfl rfl rfl au_l ?_
                refine VX.guardT rfl rfl hb31_5 ?_
                refine VX.meek rfl ?_
                refine VX.guardT rfl rfl hb31_5 ?_
                first | refine VX.meek rfl ?_ | refine VX.loadI rfl rfl au_l ?_ | refine VX.loadP rfl rfl rfl au_l ?_
                refine VX.guardT rfl rfl hb31_5 ?_
                refine VX.meek rfl ?_
                refine VX.guardT rfl rfl hb31_5 ?_
                first | refine VX.meek rfl ?_ | refine VX.loadI rfl rfl au_l ?_ | refine VX.loadP rfl rfl rfl au_l ?_
                refine VX.guardT rfl rfl hb31_5 ?_
                refine VX.meek rfl ?_
                refine VX.guardT rfl rfl hb31_5 ?_
                refine VX.callB rfl rfl (is_p rw' rh' G ⟨by omega, by omega⟩ ⟨by omega, by omega⟩ hGl hGb) rfl (CvL.cons (Cv.eq rfl hgp) (CvL.cons (Cv.pure rfl) (CvL.cons (Cv.pure rfl) (CvL.cons (by rw [← hGl]; exact Cv.fslc0 ⟨rfl, by simp⟩ (CvL.pure (encL_pure cU _))) CvL.nil)))) ?_
                refine VX.pickA rfl (fun _ => rfl) ?_
                exact VX.nil ⟨rfl, rfl⟩
              · refine VX.guardF rfl rfl hb31_5 ?_
                refine VX.guardF rfl rfl hb31_5 ?_
                refine VX.guardF rfl rfl hb31_5 ?_
                refine VX.guardF rfl rfl hb31_5 ?_
                refine VX.guardF rfl rfl hb31_5 ?_
                refine VX.guardF rfl rfl hb31_5 ?_
                exact VX.pickA rfl (fun h => absurd (h.symm.trans hb31_5) (by decide)) (VX.nil ⟨rfl, rfl⟩)
            refine VX.meek rfl ?_
            refine VX.nil ?_
            refine VC.ret ?_
            exact ⟨trivial, _, rfl, Cv.eq rfl rfl⟩
end
section
open Go.ChangeShapes Go.WideShapes Go.ChangeAt Go.RowKit Go.WideElems
def rowed (P : Program) (ts : List TypeId) : Bool := ts.all fun t => P.readableRec t && decide (t < P.types.size)
theorem trodAll_below {H : Type} {enc : TypeId × Value → H} {P : Program} (hl : laidOutB P = true) {W W' : World} (hb : Below W.heap.size W W') :
    ∀ {ts : List TypeId} {vs : List Value} {ds : List (DataW H)} {p : List MemPlace}, rowed P ts = true → (∀ x ∈ p, x.block < W.heap.size) →
      DataW.TrodAll enc P W 0 (fun _ => true) true ts vs ds p → DataW.TrodAll enc P W' 0 (fun b => decide (b < W.heap.size)) true ts vs ds p
  | [], _, _, _, _, _, h => by
    obtain ⟨rfl, rfl, rfl⟩ := trodAll_nil h
    exact trodAll_mk0
  | t :: ts, _, _, _, hr, hlt, h => by
    obtain ⟨v, vs1, d, ds1, a, b, rfl, rfl, rfl, h1, h2⟩ := trodAll_cons h
    simp only [rowed, List.all_cons, Bool.and_eq_true, decide_eq_true_eq] at hr
    refine trodAll_cons_mk (Below.trod hl hr.1.1 hr.1.2 h1 hb (fun x hx => hlt x (by simp [hx]))) ?_
    exact trodAll_below hl hb (by simpa [rowed] using hr.2) (fun x hx => hlt x (by simp [hx])) h2
theorem post_law {H : Type} {enc : TypeId × Value → H} {P : Program} {f : Func} {s : ChangeSpec} {W W' : World} {args : Array Value} {ds gs : List (DataW H)} {before : List MemPlace} {tb : TypeId}
    (hl : laidOutB P = true) (hps : rowed P f.params.toList = true) (hvs : varsRowed P s.vars = true) (hres : f.resultTypes = #[tb]) (htb : P.underlying tb = some .bool)
    (hW : DataW.Whole enc P f.params.toList s.vars false W args.toList ds gs before)
    (h1 : (s.fn H (ds ++ gs)).results = [.lit (.bool true)]) (h2 : (s.fn H (ds ++ gs)).args = ds) (h3 : (s.fn H (ds ++ gs)).vars = gs)
    (hb : Below W.heap.size W W') : s.post enc P f false true false false W args (.bool true) W' := by
  have hlt := hW.lt
  have hW' := hW
  obtain ⟨p, q, hA, hV, rfl, hfz, hnd⟩ := hW
  refine ⟨ds, gs, p ++ q, [], p, q, hW', ?_, ?_, ?_, hb.frame _, fun h => by cases h⟩
  · rw [h1, hres]
    exact trodAll_cons_mk (shut_bool htb true) trodAll_mk0
  · rw [h2]
    exact trodAll_below hl hb hps (fun x hx => hlt x (by simp [hx])) hA
  · rw [h3]
    exact Below.trodVars hl hb hvs hV
end
end Go.Proofs.YtmahbhdjpielmaaGreat
