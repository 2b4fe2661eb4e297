/-
  The proof's lemmas, part 7.
-/
import Derived.Test.YtelhkfdpkjkpjaaGreatZlf
import Derived.OpenVars
import Derived.Carry
namespace Go.Proofs.YtelhkfdpkjkpjaaGreat
set_option linter.unusedSimpArgs false
set_option linter.unusedVariables false
section
open Go.RowKit Go.Sort
set_option maxRecDepth 10000
theorem gnew_p (w h : Nat) (p : Int) (hw : 1 ≤ w ∧ w ≤ 128) (hh : 1 ≤ h ∧ h ≤ 128) : CallP Tryz.prog 62 [I64 w, I64 h, U8 p] (.tup [gT w h (List.replicate (w * h) p), I64 0]) := new_yes w h p hw hh
theorem gset_n (w h : Nat) (px : List Int) (n : Nat) (hn : px.length = n) (x y p : Int) (hw : w ≤ 128) (hh : h ≤ 128) (hl : px.length = w * h) (hb : ∀ v ∈ px, 0 ≤ v ∧ v < 256) (hx : 0 ≤ x ∧ x < w) (hy : 0 ≤ y ∧ y < h) :
    CallP Tryz.prog 63 [.agg [I64 w, I64 h, .islc (encL cU px) n none], I64 x, I64 y, U8 p] (.agg [I64 w, I64 h, .islc (encL cU (px.set (y * w + x).toNat p)) n none]) := by
  have k := gset_p ⟨w, h, px⟩ ⟨hw, hh, hl, hb⟩ x y p
  have e : Pic.set ⟨w, h, px⟩ x y p = ⟨w, h, px.set (y * w + x).toNat p⟩ := if_pos (show inB' w h x y = true from inB_iff.2 ⟨hx.1, hx.2, hy.1, hy.2⟩)
  rw [e] at k
  subst hn
  have k2 : CallP Tryz.prog 63 [gT w h px, I64 x, I64 y, U8 p] (gT w h (px.set (y * w + x).toNat p)) := k
  simp only [gT, List.length_set] at k2
  exact k2
theorem gat_p (w h : Nat) (px : List Int) (x y : Int) (hw : w ≤ 128) (hh : h ≤ 128) (hl : px.length = w * h) (hb : ∀ v ∈ px, 0 ≤ v ∧ v < 256) : CallP Tryz.prog 48 [gT w h px, I64 x, I64 y] (U8 (atG w h px x y)) := at_p ⟨w, h, px⟩ ⟨hw, hh, hl, hb⟩ x y
def putF (w : Nat) (px : List Int) : Int → Int → Int → Int := fun a b _ => px[(b * w + a).toNat]!
theorem repl_bd (n : Nat) : ∀ v ∈ List.replicate n (0 : Int), 0 ≤ v ∧ v < 256 := fun v hv => by rw [List.eq_of_mem_replicate hv]; omega
theorem repl_at (n i : Nat) : (List.replicate n (0 : Int))[i]! = 0 := by
  rw [List.getElem!_eq_getElem?_getD, List.getElem?_replicate]; split <;> rfl
theorem of23_p (w h : Nat) (px : List Int) (hw : 1 ≤ w ∧ w ≤ 128) (hh : 1 ≤ h ∧ h ≤ 128) (hl : px.length = w * h) (hb : ∀ v ∈ px, 0 ≤ v ∧ v < 256) : CallP Tryz.prog 19 [gT w h px] (gT w h px) := by
  have hpf : ∀ x y o, 0 ≤ o ∧ o < 256 → 0 ≤ putF w px x y o ∧ putF w px x y o < 256 := fun x y o _ => bang_bd hb _
  have hz : (List.replicate (w * h) (0 : Int)).length = w * h := List.length_replicate
  have hlen : ∀ y x, (paintL w (visV (fun _ _ => True) y x) (putF w px) (List.replicate (w * h) 0)).length = w * h := fun y x => by rw [paintL_len, hz]
  refine CallP.intro2 au_pu au_pu ?_
  refine CallT.intro tab_ok Tryz.func19 rfl (by kernel_rfl) (Nat.le_of_ble_eq_true rfl) ?_
  refine VC.reg tab_ok [1] rfl ?_
  refine VX.newI rfl rfl ?_
  refine VX.new rfl rfl ?_
  refine VX.nil ?_
  refine VC.reg tab_ok [] rfl ?_
  refine VX.meek rfl ?_
  first | refine VX.meek rfl ?_ | refine VX.loadI rfl rfl au_l ?_ | refine VX.loadP rfl rfl rfl au_l ?_
  refine VX.meek rfl ?_
  first | refine VX.meek rfl ?_ | refine VX.loadI rfl rfl au_l ?_ | refine VX.loadP rfl rfl rfl au_l ?_
  refine VX.callP0 rfl rfl rfl (gnew_p w h 0 hw hh) ?_
  iterate 3 refine VX.meek rfl ?_
  refine VX.new rfl rfl ?_
  refine VX.store rfl rfl rfl rfl rfl au_sR rfl ?_
  refine VX.meek rfl ?_
  refine VX.nil ?_
  refine VC.seq ?_
  refine VC.reg tab_ok [] rfl ?_
  refine VX.meek rfl ?_
  refine VX.nil ?_
  refine VC.block ?_
  refine VC.loopS (σ := Nat) (fun y => h - y) (fun y => y ≤ h) (fun y => [(5, I64 y), (2, .ptr 0 0), (3, .ptr 1 0)]) (fun y => [.c [I64 0, I64 0, NIL], .c [I64 w, I64 h, .islc (encL cU (paintL w (visV (fun _ _ => True) y 0) (putF w px) (List.replicate (w * h) 0))) (w * h) none]]) [1] rfl (0) ?_ ?_ ?_
  · refine ⟨[some 0, some 1], rfl, by first | trivial | decide, rfl, ?_, ?_⟩ <;> (repeat' first | exact trivial | exact CvB_n | exact CvB_d | refine CvE_app ?_ ?_ | refine CvE_cons rfl ?_ ?_ | refine CvH_cons ?_ ?_ | refine CvB_c rfl ?_ | fail) <;> first | exact au_v | (first | exact CvL.pure rfl | (refine cv_g (Cv.eq ?_ (encL_pure cU _)); rw [paint_none (h := h) hz (fun a b _ _ _ _ hh => by unfold visV at hh; omega), hz]))
  · (try dsimp only); omega
  rintro y hy
  refine VC.seq ?_
  refine VC.reg tab_ok [] rfl ?_
  iterate 2 refine VX.meek rfl ?_
  first | refine VX.meek rfl ?_ | refine VX.loadI rfl rfl au_l ?_ | refine VX.loadP rfl rfl rfl au_l ?_
  refine VX.meek rfl ?_
  refine VX.nil ?_
  refine VC.cond rfl (fun hc0 => ?_) (fun hc0 => ?_)
  · (try simp only [au_std] at hc0); have hyl : y < h := (by omega)
    refine VC.skip ?_
    refine VC.seq ?_
    refine VC.block ?_
    refine VC.reg tab_ok [] rfl ?_
    refine VX.meek rfl ?_
    refine VX.nil ?_
    refine VC.block ?_
    refine VC.loopS (σ := Nat) (fun x => w - x) (fun x => x ≤ w) (fun x => [(6, I64 x), (2, .ptr 0 0), (3, .ptr 1 0)]) (fun x => [.c [I64 0, I64 0, NIL], .c [I64 w, I64 h, .islc (encL cU (paintL w (visV (fun _ _ => True) y x) (putF w px) (List.replicate (w * h) 0))) (w * h) none]]) [1, 5] rfl (0) ?_ ?_ ?_
    · refine ⟨[some 0, some 1], rfl, by first | trivial | decide, rfl, ?_, ?_⟩ <;> (repeat' first | exact trivial | exact CvB_n | exact CvB_d | refine CvE_app ?_ ?_ | refine CvE_cons rfl ?_ ?_ | refine CvH_cons ?_ ?_ | refine CvB_c rfl ?_ | fail) <;> first | exact au_v | (first | exact CvL.pure rfl | exact cv_g (Cv.pure (encL_pure cU _)))
    · (try dsimp only); omega
    rintro x hx
    refine VC.seq ?_
    refine VC.reg tab_ok [] rfl ?_
    iterate 2 refine VX.meek rfl ?_
    first | refine VX.meek rfl ?_ | refine VX.loadI rfl rfl au_l ?_ | refine VX.loadP rfl rfl rfl au_l ?_
    refine VX.meek rfl ?_
    refine VX.nil ?_
    refine VC.cond rfl (fun hc1 => ?_) (fun hc1 => ?_)
    · (try simp only [au_std] at hc1); have hxl : x < w := (by omega); have hpi := place_lt (x := (x : Int)) (y := (y : Int)) (by omega) (by omega) (by omega) (show (y : Int) < h by omega)
      have hat : atG w h px x y = px[((y : Int) * w + x).toNat]! := if_pos (inB_iff.2 ⟨by omega, by omega, by omega, by omega⟩)
      have hvv : ∀ a b : Int, visV (fun _ _ => True) y (x + 1 : Nat) a b ↔ visV (fun _ _ => True) y x a b ∨ (a = x ∧ b = y) := (fun a b => by unfold visV; simp only [true_and]; omega)
      have hst : (paintL w (visV (fun _ _ => True) y x) (putF w px) (List.replicate (w * h) 0)).set ((y : Int) * w + x).toNat px[((y : Int) * w + x).toNat]! = paintL w (visV (fun _ _ => True) y (x + 1 : Nat)) (putF w px) (List.replicate (w * h) 0) := paint_put hz (by omega) (by omega) (by omega) (show (y : Int) < h by omega) rfl (fun a b _ _ _ _ => hvv a b)
      have hls := hlen y x
      refine VC.skip ?_
      refine VC.seq ?_
      refine VC.block ?_
      refine VC.reg tab_ok [] rfl ?_
      first | refine VX.meek rfl ?_ | refine VX.loadI rfl rfl au_l ?_ | refine VX.loadP rfl rfl rfl au_l ?_
      iterate 2 refine VX.meek rfl ?_
      refine VX.callP0 rfl rfl rfl ((show CallP Tryz.prog 75 [gT w h px, I64 x, I64 y] (U8 px[((y : Int) * w + x).toNat]!) from hat ▸ at23_p w h px x y hw.2 hh.2 hl)) ?_
      refine VX.meek rfl ?_
      refine VX.nil ?_
      refine VC.reg tab_ok [] rfl ?_
      iterate 2 refine VX.meek rfl ?_
      refine VX.nil ?_
      refine VC.cond rfl (fun hc2 => ?_) (fun hc2 => ?_)
      · (try simp only [au_std] at hc2)
        refine VC.regN tab_ok [] rfl ?_
        first | refine VX.meek rfl ?_ | refine VX.loadI rfl rfl au_l ?_ | refine VX.loadP rfl rfl rfl au_l ?_
        iterate 3 refine VX.meek rfl ?_
        refine VX.callP0 rfl rfl rfl (gset_n w h (paintL w (visV (fun _ _ => True) y x) (putF w px) (List.replicate (w * h) 0)) (w * h) hls x y px[((y : Int) * w + x).toNat]! hw.2 hh.2 hls (paintL_bd (repl_bd _) hpf) ⟨by omega, by omega⟩ ⟨by omega, by omega⟩) ?_
        refine VX.store rfl rfl rfl rfl rfl au_sR rfl ?_
        refine VX.nil ?_
        refine VC.regN tab_ok [] rfl ?_
        refine VX.meek rfl ?_
        first | refine VX.add rfl rfl (by omega) ?_ | refine VX.meek rfl ?_
        refine VX.meek rfl ?_
        refine VX.nil ?_
        refine ⟨x + 1, by (try dsimp only); omega, ?_, (by refine ⟨[some 0, some 1], rfl, by first | trivial | decide, rfl, ?_, ?_⟩ <;> (repeat' first | exact trivial | exact CvB_n | exact CvB_d | refine CvE_app ?_ ?_ | refine CvE_cons rfl ?_ ?_ | refine CvH_cons ?_ ?_ | refine CvB_c rfl ?_ | fail) <;> first | exact au_v | (first | exact CvL.pure rfl | (rw [← hst]; exact cv_g (Cv.pure (encL_pure cU _)))))⟩
        (try dsimp only); omega
      · (try simp only [au_std] at hc2); have hst2 : paintL w (visV (fun _ _ => True) y x) (putF w px) (List.replicate (w * h) 0) = paintL w (visV (fun _ _ => True) y (x + 1 : Nat)) (putF w px) (List.replicate (w * h) 0) := (by
          rw [← hst, hc2]
          refine listI_ext (by rw [List.length_set]) fun i hi => ?_
          rw [bang_set]
          split
          · rename_i hh
            rw [← hh.1, paintL_not ⟨by omega, by omega⟩ (by omega) (by rw [hz]; omega) (by unfold visV; simp only [true_and]; omega), repl_at]
          · rfl)
        refine VC.skip ?_
        refine VC.regN tab_ok [] rfl ?_
        refine VX.meek rfl ?_
        first | refine VX.add rfl rfl (by omega) ?_ | refine VX.meek rfl ?_
        refine VX.meek rfl ?_
        refine VX.nil ?_
        refine ⟨x + 1, by (try dsimp only); omega, ?_, (by refine ⟨[some 0, some 1], rfl, by first | trivial | decide, rfl, ?_, ?_⟩ <;> (repeat' first | exact trivial | exact CvB_n | exact CvB_d | refine CvE_app ?_ ?_ | refine CvE_cons rfl ?_ ?_ | refine CvH_cons ?_ ?_ | refine CvB_c rfl ?_ | fail) <;> first | exact au_v | (first | exact CvL.pure rfl | (rw [← hst2]; exact cv_g (Cv.pure (encL_pure cU _)))))⟩
        (try dsimp only); omega
    · (try simp only [au_std] at hc1); have hxw : (x : Int) = w := (by omega)
      refine VC.exit ?_
      refine VC.regN tab_ok [] rfl ?_
      refine VX.meek rfl ?_
      first | refine VX.add rfl rfl (by omega) ?_ | refine VX.meek rfl ?_
      refine VX.meek rfl ?_
      refine VX.nil ?_
      refine ⟨y + 1, by (try dsimp only); omega, ?_, (by refine ⟨[some 0, some 1], rfl, by first | trivial | decide, rfl, ?_, ?_⟩ <;> (repeat' first | exact trivial | exact CvB_n | exact CvB_d | refine CvE_app ?_ ?_ | refine CvE_cons rfl ?_ ?_ | refine CvH_cons ?_ ?_ | refine CvB_c rfl ?_ | fail) <;> first | exact au_v | (first | exact CvL.pure rfl | (refine cv_g (Cv.eq ?_ (encL_pure cU _)); rw [paint_congr (V := visV (fun _ _ => True) y x) (V' := visV (fun _ _ => True) (y + 1 : Nat) 0) (f := putF w px) (g := putF w px) hz (fun a b h1 h2 h3 h4 => by unfold visV; simp only [true_and]; omega) (fun _ _ _ _ _ _ _ => rfl)])))⟩
      (try dsimp only); omega
  · (try simp only [au_std] at hc0); obtain rfl : h = y := (by omega); have hfin : paintL w (visV (fun _ _ => True) h 0) (putF w px) (List.replicate (w * h) 0) = px := px_ext (h := h) (by rw [paintL_len, hz]) hl (fun a b h1 h2 h3 h4 => by
      have := (place_lt h1 h2 h3 h4).1
      rw [paintL_yes ⟨h1, h2⟩ h3 (by rw [hz]; omega) (by unfold visV; simp only [true_and]; omega)]; rfl)
    rw [hfin]
    refine VC.exit ?_
    refine VC.reg tab_ok [] rfl ?_
    first | refine VX.meek rfl ?_ | refine VX.loadI rfl rfl au_l ?_ | refine VX.loadP rfl rfl rfl au_l ?_
    refine VX.store rfl rfl rfl rfl rfl au_sR rfl ?_
    refine VX.nil ?_
    refine VC.ret ?_
    refine ⟨trivial, _, rfl, Cv.agg (cv_g ?_)⟩; rw [hl]; exact Cv.pure (encL_pure cU _)
theorem same23_p (w h : Nat) (a : List Int) (hw : w ≤ 128) (hh : h ≤ 128) (hl : a.length = w * h) (hb : ∀ v ∈ a, 0 ≤ v ∧ v < 256) : CallP Tryz.prog 21 [gT w h a, gT w h a] (BL true) := by
  refine CallP.intro2 au_pu au_pu ?_
  refine CallT.intro tab_ok Tryz.func21 rfl (by kernel_rfl) (Nat.le_of_ble_eq_true rfl) ?_
  refine VC.reg tab_ok [2, 3] rfl ?_
  refine VX.newI rfl rfl ?_
  refine VX.newI rfl rfl ?_
  refine VX.meek rfl ?_
  refine VX.nil ?_
  refine VC.reg tab_ok [] rfl ?_
  first | refine VX.meek rfl ?_ | refine VX.loadI rfl rfl au_l ?_ | refine VX.loadP rfl rfl rfl au_l ?_
  refine VX.callP0 rfl rfl rfl ((show CallP Tryz.prog 54 [gT w h a] (.tup [I64 w, I64 h]) from size_p ⟨w, h, a⟩)) ?_
  iterate 5 refine VX.meek rfl ?_
  refine VX.nil ?_
  refine VC.seq ?_
  refine VC.reg tab_ok [] rfl ?_
  iterate 2 refine VX.meek rfl ?_
  first | refine VX.meek rfl ?_ | refine VX.loadI rfl rfl au_l ?_ | refine VX.loadP rfl rfl rfl au_l ?_
  iterate 2 refine VX.meek rfl ?_
  refine' VX.merge (d := 23) [_, _, _, _, _] rfl ?_ rfl ?_
  rotate_left
  · refine VX.guard rfl rfl (fun hb2_4 => ?_) (fun hb2_4 => ?_)
    · have ghb2_4 := hb2_4
      try simp only [au_std, Bool.not_true, Bool.not_false] at ghb2_4
      refine VX.meek rfl ?_
      refine VX.guardT rfl rfl hb2_4 ?_
      refine VX.meek rfl ?_
      refine VX.guardT rfl rfl hb2_4 ?_
      first | refine VX.meek rfl ?_ | refine VX.loadI rfl rfl au_l ?_ | refine VX.loadP rfl rfl rfl au_l ?_
      refine VX.guardT rfl rfl hb2_4 ?_
      refine VX.meek rfl ?_
      refine VX.pickO rfl (fun _ => rfl) ?_
      exact VX.nil ⟨rfl, rfl⟩
    · refine VX.guardF rfl rfl hb2_4 ?_
      refine VX.guardF rfl rfl hb2_4 ?_
      refine VX.guardF rfl rfl hb2_4 ?_
      exact VX.pickO rfl (fun h => absurd (h.symm.trans hb2_4) (by decide)) (VX.nil ⟨rfl, rfl⟩)
  refine VX.nil ?_
  refine VC.cond rfl (fun hc0 => ?_) (fun hc0 => ?_)
  · exact absurd hc0 (by simp)
  · (try simp only [au_std] at hc0)
    refine VC.skip ?_
    refine VC.seq ?_
    refine VC.reg tab_ok [] rfl ?_
    refine VX.meek rfl ?_
    refine VX.nil ?_
    refine VC.block ?_
    refine VC.loopS (σ := Nat) (fun y => h - y) (fun y => y ≤ h) (fun y => [(7, I64 y)]) (fun _ => []) [2, 3, 5, 6] rfl (0) ?_ ?_ ?_
    · refine ⟨[], rfl, by first | trivial | decide, rfl, ?_, ?_⟩ <;> (repeat' first | exact trivial | exact CvB_n | exact CvB_d | refine CvE_app ?_ ?_ | refine CvE_cons rfl ?_ ?_ | refine CvH_cons ?_ ?_ | refine CvB_c rfl ?_ | fail) <;> first | exact au_v | (skip)
    · (try dsimp only); omega
    rintro y hy
    refine VC.seq ?_
    refine VC.reg tab_ok [] rfl ?_
    iterate 3 refine VX.meek rfl ?_
    refine VX.nil ?_
    refine VC.cond rfl (fun hc1 => ?_) (fun hc1 => ?_)
    · (try simp only [au_std] at hc1)
      refine VC.skip ?_
      refine VC.seq ?_
      refine VC.block ?_
      refine VC.reg tab_ok [] rfl ?_
      refine VX.meek rfl ?_
      refine VX.nil ?_
      refine VC.block ?_
      refine VC.loopS (σ := Nat) (fun x => w - x) (fun x => x ≤ w) (fun x => [(8, I64 x)]) (fun _ => []) [2, 3, 5, 6, 7] rfl (0) ?_ ?_ ?_
      · refine ⟨[], rfl, by first | trivial | decide, rfl, ?_, ?_⟩ <;> (repeat' first | exact trivial | exact CvB_n | exact CvB_d | refine CvE_app ?_ ?_ | refine CvE_cons rfl ?_ ?_ | refine CvH_cons ?_ ?_ | refine CvB_c rfl ?_ | fail) <;> first | exact au_v | (skip)
      · (try dsimp only); omega
      rintro x hx
      refine VC.seq ?_
      refine VC.reg tab_ok [] rfl ?_
      iterate 3 refine VX.meek rfl ?_
      refine VX.nil ?_
      refine VC.cond rfl (fun hc2 => ?_) (fun hc2 => ?_)
      · (try simp only [au_std] at hc2)
        refine VC.skip ?_
        refine VC.seq ?_
        refine VC.block ?_
        refine VC.drw tab_ok [] [_, _, _, _, _, _, _, _, _] rfl (by kernel_rfl) (by kernel_rfl) ?_
        first | refine VX.meek rfl ?_ | refine VX.loadI rfl rfl au_l ?_ | refine VX.loadP rfl rfl rfl au_l ?_
        iterate 2 refine VX.meek rfl ?_
        refine VX.callP0 rfl rfl rfl (gat_p w h a x y hw hh hl hb) ?_
        first | refine VX.meek rfl ?_ | refine VX.loadI rfl rfl au_l ?_ | refine VX.loadP rfl rfl rfl au_l ?_
        iterate 2 refine VX.meek rfl ?_
        refine VX.callP0 rfl rfl rfl (at23_p w h a x y hw hh hl) ?_
        refine VX.meek rfl ?_
        refine VX.nil ?_
        refine VX.nil ?_
        refine VC.cond rfl (fun hc3 => ?_) (fun hc3 => ?_)
        · exact absurd hc3 (by simp)
        · (try simp only [au_std] at hc3)
          refine VC.skip ?_
          refine VC.regN tab_ok [] rfl ?_
          refine VX.meek rfl ?_
          first | refine VX.add rfl rfl (by omega) ?_ | refine VX.meek rfl ?_
          refine VX.meek rfl ?_
          refine VX.nil ?_
          refine ⟨x + 1, by (try dsimp only); omega, ?_, (by refine ⟨[], rfl, by first | trivial | decide, rfl, ?_, ?_⟩ <;> (repeat' first | exact trivial | exact CvB_n | exact CvB_d | refine CvE_app ?_ ?_ | refine CvE_cons rfl ?_ ?_ | refine CvH_cons ?_ ?_ | refine CvB_c rfl ?_ | fail) <;> first | exact au_v | (fail))⟩
          (try dsimp only); omega
      · (try simp only [au_std] at hc2)
        refine VC.exit ?_
        refine VC.regN tab_ok [] rfl ?_
        refine VX.meek rfl ?_
        first | refine VX.add rfl rfl (by omega) ?_ | refine VX.meek rfl ?_
        refine VX.meek rfl ?_
        refine VX.nil ?_
        refine ⟨y + 1, by (try dsimp only); omega, ?_, (by refine ⟨[], rfl, by first | trivial | decide, rfl, ?_, ?_⟩ <;> (repeat' first | exact trivial | exact CvB_n | exact CvB_d | refine CvE_app ?_ ?_ | refine CvE_cons rfl ?_ ?_ | refine CvH_cons ?_ ?_ | refine CvB_c rfl ?_ | fail) <;> first | exact au_v | (fail))⟩
        (try dsimp only); omega
    · (try simp only [au_std] at hc1)
      refine VC.exit ?_
      refine VC.reg tab_ok [] rfl ?_
      refine VX.meek rfl ?_
      refine VX.nil ?_
      refine VC.ret ?_
      exact ⟨trivial, _, rfl, Cv.eq (by first | rfl | (simp [*]; done)) rfl⟩
end
section
open Go.RowKit Go.Sort
set_option maxRecDepth 10000
def padL (P : List Int) (n : Nat) : List Int := (List.range n).map fun i => if i < P.length then P[i]! else 0
theorem padL_len (P : List Int) (n : Nat) : (padL P n).length = n := by simp [padL]
theorem padL_snoc (P : List Int) (n : Nat) : padL P (n + 1) = padL P n ++ [if n < P.length then P[n]! else 0] := by unfold padL; rw [List.range_succ, List.map_append]; rfl
theorem padL_bd {P : List Int} (hb : ∀ v ∈ P, 0 ≤ v ∧ v < 256) (n : Nat) : ∀ v ∈ padL P n, 0 ≤ v ∧ v < 256 := fun v hv => by
  unfold padL at hv
  obtain ⟨i, hi, rfl⟩ := List.mem_map.1 hv
  split
  · exact bang_bd hb _
  · exact ⟨by decide, by decide⟩
theorem canvas_p (cw ch : Nat) (P : List Int) (hw : cw < 256) (hh : ch < 256) (hb : ∀ v ∈ P, 0 ≤ v ∧ v < 256) :
    CallP Tryz.prog 17 [.agg [U8 cw, U8 ch, .islc (encL cU P) P.length none]] (gT (cw % 12 + 1) (ch % 12 + 1) (padL P ((cw % 12 + 1) * (ch % 12 + 1)))) := by
  have hwh : (cw % 12 + 1) * (ch % 12 + 1) ≤ 12 * 12 := Nat.mul_le_mul (by omega) (by omega)
  generalize hW : cw % 12 + 1 = W at *
  generalize hH : ch % 12 + 1 = H at *
  have hm : (W : Int) * (H : Int) = ((W * H : Nat) : Int) := (Int.natCast_mul W H).symm
  have hw12 : W ≤ 12 := by omega
  have hh12 : H ≤ 12 := by omega
  refine CallP.intro2 au_pu au_pu ?_
  refine CallT.intro tab_ok Tryz.func17 rfl (by kernel_rfl) (Nat.le_of_ble_eq_true rfl) ?_
  refine VC.reg tab_ok [1] rfl ?_
  refine VX.newI rfl rfl ?_
  refine VX.new rfl rfl ?_
  refine VX.nil ?_
  refine VC.reg tab_ok [] rfl ?_
  refine VX.meek rfl ?_
  first | refine VX.meek rfl ?_ | refine VX.loadI rfl rfl au_l ?_ | refine VX.loadP rfl rfl rfl au_l ?_
  refine VX.meek (t := I64 cw) (by show some (T.v (.int .i64 (IntKind.i64.wrap (cw : Int))), (none : Option (Nat × List T))) = _; rw [wrap_in (by omega)]) ?_
  refine VX.rem rfl rfl (by omega) (by omega) ?_
  refine VX.add rfl rfl (by omega) ?_; rw [show (cw : Int) % 12 + 1 = (W : Int) from by omega]
  refine VX.meek rfl ?_
  first | refine VX.meek rfl ?_ | refine VX.loadI rfl rfl au_l ?_ | refine VX.loadP rfl rfl rfl au_l ?_
  refine VX.meek (t := I64 ch) (by show some (T.v (.int .i64 (IntKind.i64.wrap (ch : Int))), (none : Option (Nat × List T))) = _; rw [wrap_in (by omega)]) ?_
  refine VX.rem rfl rfl (by omega) (by omega) ?_
  refine VX.add rfl rfl (by omega) ?_; rw [show (ch : Int) % 12 + 1 = (H : Int) from by omega]
  refine VX.meek rfl ?_
  refine VX.new rfl rfl ?_
  refine VX.store rfl rfl rfl rfl rfl au_sR rfl ?_
  refine VX.nil ?_
  refine VC.view ([(2, .ptr 0 0), (3, .ptr 1 0)]) ([.c [I64 0, I64 0, NIL], .c [I64 W, I64 H, NIL]]) [1] rfl (by refine ⟨[some 0, some 1], rfl, by first | trivial | decide, rfl, ?_, ?_⟩ <;> (repeat' first | exact trivial | exact CvB_n | exact CvB_d | refine CvE_app ?_ ?_ | refine CvE_cons rfl ?_ ?_ | refine CvH_cons ?_ ?_ | refine CvB_c rfl ?_ | fail) <;> first | exact au_v | (exact CvL.eq rfl rfl)) ?_
  refine VC.seq ?_
  refine VC.reg tab_ok [] rfl ?_
  refine VX.meek rfl ?_
  refine VX.nil ?_
  refine VC.block ?_
  refine VC.loopS2 (σ1 := Nat) (σ2 := List T) (fun i _ => W * H - i) (fun i tl => i ≤ W * H ∧ T.pureL tl = true) (fun i _ => [(4, I64 i), (2, .ptr 0 0), (3, .ptr 1 0)]) (fun i tl => [.c [I64 0, I64 0, NIL], .c [I64 W, I64 H, .slc 2 0 (padL P i).length 1 none], .c (encL cU (padL P i) ++ tl)]) [1] rfl (0) ([]) ?_ ?_ ?_
  · refine ⟨[some 0, some 1, none], rfl, by first | trivial | decide, rfl, ?_, ?_⟩ <;> (repeat' first | exact trivial | exact CvB_n | exact CvB_d | refine CvE_app ?_ ?_ | refine CvE_cons rfl ?_ ?_ | refine CvH_cons ?_ ?_ | refine CvB_c rfl ?_ | fail) <;> first | exact au_v | (first | exact CvL.pure rfl | exact CvL.cons (Cv.pure rfl) (CvL.cons (Cv.pure rfl) (CvL.cons (Cv.nilv rfl) CvL.nil)))
  · exact ⟨by omega, rfl⟩
  rintro i tl ⟨hi, htl⟩
  refine VC.seq ?_
  refine VC.reg tab_ok [] rfl ?_
  iterate 2 refine VX.meek rfl ?_
  first | refine VX.meek rfl ?_ | refine VX.loadI rfl rfl au_l ?_ | refine VX.loadP rfl rfl rfl au_l ?_
  refine VX.meek rfl ?_
  first | refine VX.meek rfl ?_ | refine VX.loadI rfl rfl au_l ?_ | refine VX.loadP rfl rfl rfl au_l ?_
  first | refine VX.mul rfl rfl (by omega) ?_ | refine VX.meek rfl ?_
  refine VX.meek rfl ?_
  refine VX.nil ?_
  refine VC.cond rfl (fun hc0 => ?_) (fun hc0 => ?_)
  · (try simp only [au_std] at hc0); have hil : i < W * H := (by omega); have hpl := padL_len P i; have hsn := padL_snoc P i; have hcl : (encL cU (padL P i) ++ tl).length = i + tl.length := (by rw [List.length_append, encL_len, cU_sz, hpl, Nat.mul_one])
    refine VC.skip ?_
    refine VC.seq ?_
    refine VC.block ?_
    refine VC.reg tab_ok [] rfl ?_
    refine VX.meek rfl ?_
    refine VX.nil ?_
    refine VC.seq ?_
    refine VC.reg tab_ok [] rfl ?_
    iterate 2 refine VX.meek rfl ?_
    first | refine VX.meek rfl ?_ | refine VX.loadI rfl rfl au_l ?_ | refine VX.loadP rfl rfl rfl au_l ?_
    iterate 2 refine VX.meek rfl ?_
    refine VX.nil ?_
    refine VC.cond rfl (fun hc1 => ?_) (fun hc1 => ?_)
    · (try simp only [au_std] at hc1); have hiP : i < P.length := (by omega); rw [if_pos hiP] at hsn
      refine VC.regN tab_ok [] rfl ?_
      refine VX.meek rfl ?_
      first | refine VX.meek rfl ?_ | refine VX.loadI rfl rfl au_l ?_ | refine VX.loadP rfl rfl rfl au_l ?_
      refine VX.meek rfl ?_
      first | refine VX.idxI rfl rfl rfl rfl rfl rfl (by omega) ?_ | refine VX.idxO0 rfl rfl rfl rfl rfl rfl rfl (by omega) ?_ | refine VX.idxO0 rfl rfl rfl rfl rfl rfl au_z (by omega) ?_ | refine VX.idxO rfl rfl rfl rfl rfl rfl rfl (by omega) ?_ | refine VX.idxI rfl rfl rfl rfl rfl au_z (by omega) ?_ | refine VX.idxO rfl rfl rfl rfl rfl rfl au_z (by omega) ?_ | refine VX.meek rfl ?_
      first | refine VX.meek rfl ?_ | refine VX.loadI rfl rfl au_l ?_ | refine VX.loadP rfl rfl rfl au_l ?_
      refine VX.meek rfl ?_
      refine VX.nil ?_
      refine VC.regN tab_ok [39] rfl ?_
      refine VX.meek rfl ?_
      first | refine VX.meek rfl ?_ | refine VX.loadI rfl rfl au_l ?_ | refine VX.loadP rfl rfl rfl au_l ?_
      refine VX.meek rfl ?_
      refine VX.newI rfl rfl ?_
      refine VX.append rfl rfl rfl rfl rfl rfl rfl rfl (by rw [hcl, hpl]; omega) (by rw [hpl]; dsimp only; omega) (by rw [hpl]; omega) rfl rfl ?_
      refine VX.meek rfl ?_
      refine VX.store rfl rfl rfl rfl rfl au_sR rfl ?_
      refine VX.nil ?_
      refine VC.regN tab_ok [] rfl ?_
      refine VX.meek rfl ?_
      first | refine VX.add rfl rfl (by omega) ?_ | refine VX.meek rfl ?_
      refine VX.meek rfl ?_
      refine VX.nil ?_
      refine ⟨i + 1, [], by (try dsimp only); omega, ?_, (by refine ⟨[some 0, some 1, some 3], rfl, by first | trivial | decide, rfl, ?_, ?_⟩ <;> (repeat' first | exact trivial | exact CvB_n | exact CvB_d | refine CvE_app ?_ ?_ | refine CvE_cons rfl ?_ ?_ | refine CvH_cons ?_ ?_ | refine CvB_c rfl ?_ | fail) <;> first | exact au_v | (first | exact CvL.pure rfl | (refine cv_g (Cv.slcE rfl ?_ (.inl rfl)); rw [hsn, List.length_append]; rfl) | (refine CvL.eq ?_ ?_; (rw [hsn]; exact app_one cU rfl rfl rfl); (rw [List.append_nil]; exact encL_pure cU _))))⟩
      exact ⟨by omega, rfl⟩
    · (try simp only [au_std] at hc1); have hiP : ¬ i < P.length := (by omega); rw [if_neg hiP] at hsn
      refine VC.skip ?_
      refine VC.regN tab_ok [39] rfl ?_
      refine VX.meek rfl ?_
      first | refine VX.meek rfl ?_ | refine VX.loadI rfl rfl au_l ?_ | refine VX.loadP rfl rfl rfl au_l ?_
      refine VX.meek rfl ?_
      refine VX.newI rfl rfl ?_
      refine VX.append rfl rfl rfl rfl rfl rfl rfl rfl (by rw [hcl, hpl]; omega) (by rw [hpl]; dsimp only; omega) (by rw [hpl]; omega) rfl rfl ?_
      refine VX.meek rfl ?_
      refine VX.store rfl rfl rfl rfl rfl au_sR rfl ?_
      refine VX.nil ?_
      refine VC.regN tab_ok [] rfl ?_
      refine VX.meek rfl ?_
      first | refine VX.add rfl rfl (by omega) ?_ | refine VX.meek rfl ?_
      refine VX.meek rfl ?_
      refine VX.nil ?_
      refine ⟨i + 1, [], by (try dsimp only); omega, ?_, (by refine ⟨[some 0, some 1, some 3], rfl, by first | trivial | decide, rfl, ?_, ?_⟩ <;> (repeat' first | exact trivial | exact CvB_n | exact CvB_d | refine CvE_app ?_ ?_ | refine CvE_cons rfl ?_ ?_ | refine CvH_cons ?_ ?_ | refine CvB_c rfl ?_ | fail) <;> first | exact au_v | (first | exact CvL.pure rfl | (refine cv_g (Cv.slcE rfl ?_ (.inl rfl)); rw [hsn, List.length_append]; rfl) | (refine CvL.eq ?_ ?_; (rw [hsn]; exact app_one cU rfl rfl rfl); (rw [List.append_nil]; exact encL_pure cU _))))⟩
      exact ⟨by omega, rfl⟩
  · (try simp only [au_std] at hc0); obtain rfl : i = W * H := (by omega)
    refine VC.exit ?_
    refine VC.reg tab_ok [] rfl ?_
    first | refine VX.meek rfl ?_ | refine VX.loadI rfl rfl au_l ?_ | refine VX.loadP rfl rfl rfl au_l ?_
    refine VX.store rfl rfl rfl rfl rfl au_sR rfl ?_
    refine VX.nil ?_
    refine VC.ret ?_
    refine ⟨trivial, _, rfl, Cv.agg (cv_g (Cv.fslcA ⟨rfl, by simp⟩ (CvL.pure (encL_pure cU _))))⟩
def plainS (op pl fo ba : Int) : PenS := ⟨bitV .and .i64 op 15, pl, fo, ba, 0, 0, 0, false, []⟩
theorem and15 (n : Int) : 0 ≤ bitV .and .i64 n 15 ∧ bitV .and .i64 n 15 ≤ 15 := by
  have e : bitV .and .i64 n 15 = IntKind.i64.wrap (((BitVec.ofInt 64 n) &&& (BitVec.ofInt 64 15)).toNat : Int) := rfl
  have h : ((BitVec.ofInt 64 n) &&& (BitVec.ofInt 64 15)).toNat ≤ 15 := by
    rw [BitVec.toNat_and]
    exact Nat.le_trans Nat.and_le_right (by decide)
  rw [e, wrap_in (by omega)]
  omega
theorem plain_known (op pl fo ba : Int) : ropKnown (plainS op pl fo ba).f = true := by
  have := and15 op
  unfold ropKnown plainS; simp; omega
theorem plain_ok (op pl fo ba : Int) : PenOk (plainS op pl fo ba) := ⟨plain_known op pl fo ba, by simp [plainS, placeB], by simp [plainS, placeB], .inr rfl, by simp [plainS], by simp [plainS]⟩
theorem newPen_p : CallP Tryz.prog 60 [] (penT ⟨3, 255, 0, 1, 0, 0, 0, false, []⟩) := by
  refine CallP.intro2 au_pu au_pu ?_
  refine CallT.intro tab_ok Tryz.func60 rfl (by kernel_rfl) (Nat.le_of_ble_eq_true rfl) ?_
  refine VC.reg tab_ok [] rfl ?_
  refine VX.new rfl rfl ?_
  refine VX.nil ?_
  refine VC.reg tab_ok [] rfl ?_
  refine VX.meek rfl ?_
  refine VX.store rfl rfl rfl rfl rfl au_sR rfl ?_
  refine VX.nil ?_
  refine VC.ret ?_
  refine ⟨trivial, _, rfl, Cv.agg (CvL.cons (Cv.pure rfl) (CvL.cons (Cv.pure rfl) (CvL.cons (Cv.pure rfl) (CvL.cons (Cv.pure rfl) (CvL.cons (Cv.pure rfl) (CvL.cons (Cv.pure rfl) (CvL.cons (Cv.pure rfl) (CvL.cons (Cv.pure rfl) (CvL.cons (Cv.nil _ (.inl rfl)) CvL.nil)))))))))⟩
theorem plain_p (op pl fo ba : Int) : CallP Tryz.prog 23 [I64 op, U8 pl, U8 fo, U8 ba] (penT (plainS op pl fo ba)) := by
  refine CallP.intro2 au_pu au_pu ?_
  refine CallT.intro tab_ok Tryz.func23 rfl (by kernel_rfl) (Nat.le_of_ble_eq_true rfl) ?_
  refine VC.reg tab_ok [] rfl ?_
  refine VX.new rfl rfl ?_
  refine VX.nil ?_
  refine VC.reg tab_ok [] rfl ?_
  refine VX.callP0 rfl rfl rfl (newPen_p) ?_
  refine VX.new rfl rfl ?_
  refine VX.store rfl rfl rfl rfl rfl au_sR rfl ?_
  refine VX.nil ?_
  refine VC.reg tab_ok [] rfl ?_
  iterate 6 refine VX.meek rfl ?_
  refine VX.store rfl rfl rfl rfl rfl au_sR rfl ?_
  refine VX.meek rfl ?_
  refine VX.store rfl rfl rfl rfl rfl au_sR rfl ?_
  refine VX.meek rfl ?_
  refine VX.store rfl rfl rfl rfl rfl au_sR rfl ?_
  refine VX.meek rfl ?_
  refine VX.store rfl rfl rfl rfl rfl au_sR rfl ?_
  refine VX.nil ?_
  refine VC.reg tab_ok [] rfl ?_
  first | refine VX.meek rfl ?_ | refine VX.loadI rfl rfl au_l ?_ | refine VX.loadP rfl rfl rfl au_l ?_
  refine VX.store rfl rfl rfl rfl rfl au_sR rfl ?_
  refine VX.nil ?_
  refine VC.ret ?_
  exact ⟨trivial, _, rfl, Cv.eq rfl rfl⟩
theorem few_p (l : List Rect) : CallP Tryz.prog 16 [.islc (encL cR l) l.length none] (BL (decide (l.length ≤ 20))) := by
  refine CallP.intro2 au_pu au_pu ?_
  refine CallT.intro tab_ok Tryz.func16 rfl (by kernel_rfl) (Nat.le_of_ble_eq_true rfl) ?_
  refine VC.reg tab_ok [] rfl ?_
  refine VX.meek rfl ?_
  refine VX.nil ?_
  refine VC.reg tab_ok [] rfl ?_
  iterate 4 refine VX.meek rfl ?_
  refine VX.nil ?_
  refine VC.ret ?_
  exact ⟨trivial, _, rfl, Cv.eq (congrArg BL (decide_eq_decide.2 (by omega))) rfl⟩
theorem ink_p (p : PenS) : CallP Tryz.prog 26 [penT p] (inkT p.f p.pl p.fo) := by
  refine CallP.intro2 au_pu au_pu ?_
  refine CallT.intro tab_ok Tryz.func26 rfl (by kernel_rfl) (Nat.le_of_ble_eq_true rfl) ?_
  refine VC.reg tab_ok [1] rfl ?_
  refine VX.newI rfl rfl ?_
  refine VX.new rfl rfl ?_
  refine VX.nil ?_
  refine VC.reg tab_ok [] rfl ?_
  refine VX.meek rfl ?_
  first | refine VX.meek rfl ?_ | refine VX.loadI rfl rfl au_l ?_ | refine VX.loadP rfl rfl rfl au_l ?_
  refine VX.meek rfl ?_
  first | refine VX.meek rfl ?_ | refine VX.loadI rfl rfl au_l ?_ | refine VX.loadP rfl rfl rfl au_l ?_
  refine VX.meek rfl ?_
  first | refine VX.meek rfl ?_ | refine VX.loadI rfl rfl au_l ?_ | refine VX.loadP rfl rfl rfl au_l ?_
  refine VX.meek rfl ?_
  refine VX.store rfl rfl rfl rfl rfl au_sR rfl ?_
  refine VX.nil ?_
  refine VC.ret ?_
  exact ⟨trivial, _, rfl, Cv.eq rfl rfl⟩
def paintD (w : Nat) (D : Int → Int → Bool) (f : Int → Int → Int → Int) (px : List Int) : List Int := (List.range px.length).map fun i => if D (i % w : Nat) (i / w : Nat) = true then f (i % w : Nat) (i / w : Nat) px[i]! else px[i]!
theorem paintL_dec {w : Nat} {V : Int → Int → Prop} {D : Int → Int → Bool} {f : Int → Int → Int → Int} {px : List Int} (h : ∀ x y, V x y ↔ D x y = true) : paintL w V f px = paintD w D f px := by
  unfold paintL paintD
  refine List.map_congr_left fun i _ => ?_
  by_cases hc : V (i % w : Nat) (i / w : Nat)
  · rw [if_pos hc, if_pos ((h _ _).1 hc)]
  · rw [if_neg hc, if_neg (fun k => hc ((h _ _).2 k))]
def bandB (l : List Rect) (x y : Int) : Bool := decide (inL (l.filter countsB) x y)
theorem band_dec (l m : List Rect) (x y : Int) : (inL (bandOf l) x y ∧ inL (bandOf m) x y) ↔ (bandB l x y && bandB m x y) = true := by
  unfold bandB; rw [bandOf_in, bandOf_in, Bool.and_eq_true, decide_eq_true_eq, decide_eq_true_eq]
theorem awake_rects : rectsPx 3 (bandOf [⟨0, 0, 3, 2⟩]) (plainS 6 255 5 0) [⟨0, 0, 2, 1⟩, ⟨1, 0, 1, 1⟩] (List.replicate (3 * 2) 0) = [5, 0, 0, 0, 0, 0] := by
  unfold rectsPx
  rw [List.foldl_cons, List.foldl_cons, List.foldl_nil]
  rw [paintL_dec (D := fun x y => bandB [⟨0, 0, 3, 2⟩] x y && bandB [⟨0, 0, 2, 1⟩] x y) (fun x y => band_dec _ _ x y)]
  rw [paintL_dec (D := fun x y => bandB [⟨0, 0, 3, 2⟩] x y && bandB [⟨1, 0, 1, 1⟩] x y) (fun x y => band_dec _ _ x y)]
  decide +kernel
theorem awake_tile : paintL 3 (fun a b => inL (bandOf [⟨0, 0, 3, 2⟩]) a b ∧ inL (bandOf [⟨0, 0, 3, 2⟩]) a b) (tileF 2 1 [1, 2] 1 0) (List.replicate (3 * 2) 0) = [2, 1, 2, 2, 1, 2] := by
  rw [paintL_dec (D := fun x y => bandB [⟨0, 0, 3, 2⟩] x y && bandB [⟨0, 0, 3, 2⟩] x y) (fun x y => band_dec _ _ x y)]
  decide +kernel
theorem awake_p : CallP Tryz.prog 15 [] (BL true) := by
  have hr := Reg.of [⟨0, 0, 3, 2⟩]
  have hrects : CallP Tryz.prog 28 [gT 3 2 (List.replicate (3 * 2) 0), regT (bandOf [⟨0, 0, 3, 2⟩]), penT (plainS 6 255 5 0), .islc (encL cR [⟨0, 0, 2, 1⟩, ⟨1, 0, 1, 1⟩]) 2 none] (gT 3 2 [5, 0, 0, 0, 0, 0]) := by
    have := rects_t 3 2 (List.replicate (3 * 2) 0) (bandOf [⟨0, 0, 3, 2⟩]) [⟨0, 0, 2, 1⟩, ⟨1, 0, 1, 1⟩] (plainS 6 255 5 0) (by omega) (by omega) (by simp) (repl_bd _) hr (by simp) (by simp) (by intro r hr; simp at hr; rcases hr with rfl | rfl <;> (unfold i64; dsimp only; omega)) (plain_ok _ _ _ _) ⟨by decide, by decide⟩ ⟨by decide, by decide⟩
    rw [awake_rects] at this
    exact this
  have htile : CallP Tryz.prog 18 [gT 3 2 (List.replicate (3 * 2) 0), regT (bandOf [⟨0, 0, 3, 2⟩]), regT (bandOf [⟨0, 0, 3, 2⟩]), gT 2 1 [1, 2], I64 1, I64 0] (gT 3 2 [2, 1, 2, 2, 1, 2]) := by
    have := tile_p 3 2 2 1 (List.replicate (3 * 2) 0) [1, 2] (bandOf [⟨0, 0, 3, 2⟩]) (bandOf [⟨0, 0, 3, 2⟩]) 1 0 (by omega) (by omega) (by simp) (repl_bd _) (by omega) (by omega) rfl (.inr ⟨by omega, by omega⟩) (by intro v hv; simp at hv; rcases hv with rfl | rfl <;> exact ⟨by decide, by decide⟩) hr hr (by simp) (by decide) (by decide)
    rw [if_neg (by decide), awake_tile] at this
    exact this
  refine CallP.intro2 au_pu au_pu ?_
  refine CallT.intro tab_ok Tryz.func15 rfl (by kernel_rfl) (Nat.le_of_ble_eq_true rfl) ?_
  refine VC.reg tab_ok [] rfl ?_
  refine VX.meek rfl ?_
  refine VX.nil ?_
  refine VC.reg tab_ok [] rfl ?_
  refine VX.callP0 rfl rfl rfl (gnew_p 3 2 0 ⟨by omega, by omega⟩ ⟨by omega, by omega⟩) ?_
  iterate 3 refine VX.meek rfl ?_
  refine VX.new rfl rfl ?_
  refine VX.store rfl rfl rfl rfl rfl au_sR rfl ?_
  refine VX.meek rfl ?_
  refine VX.nil ?_
  refine VC.reg tab_ok [14] rfl ?_
  refine VX.meek rfl ?_
  refine VX.newI rfl rfl ?_
  refine VX.callP rfl rfl (of_p [⟨0, 0, 3, 2⟩] (by simp) (fun q hq => by rw [List.mem_singleton] at hq; subst hq; unfold i64; dsimp only; omega)) au_wk rfl ?_
  refine VX.new rfl rfl ?_
  refine VX.store rfl rfl rfl rfl rfl au_sR rfl ?_
  refine VX.nil ?_
  refine VC.reg tab_ok [] rfl ?_
  refine VX.callP0 rfl rfl rfl (plain_p 6 255 5 0) ?_
  refine VX.new rfl rfl ?_
  refine VX.store rfl rfl rfl rfl rfl au_sR rfl ?_
  refine VX.nil ?_
  refine VC.reg tab_ok [22] rfl ?_
  first | refine VX.meek rfl ?_ | refine VX.loadI rfl rfl au_l ?_ | refine VX.loadP rfl rfl rfl au_l ?_
  first | refine VX.meek rfl ?_ | refine VX.loadI rfl rfl au_l ?_ | refine VX.loadP rfl rfl rfl au_l ?_
  first | refine VX.meek rfl ?_ | refine VX.loadI rfl rfl au_l ?_ | refine VX.loadP rfl rfl rfl au_l ?_
  iterate 2 refine VX.meek rfl ?_
  refine VX.newI rfl rfl ?_
  refine VX.callP rfl rfl hrects au_wk (by show T.pureL [gT 3 2 (List.replicate (3 * 2) 0), regT (bandOf [⟨0, 0, 3, 2⟩]), penT (plainS 6 255 5 0), .islc (encL cR [⟨0, 0, 2, 1⟩, ⟨1, 0, 1, 1⟩]) 2 none] = true; simp only [T.pure, T.pureL, encL_pure]; rfl) ?_
  refine VX.new rfl rfl ?_
  refine VX.store rfl rfl rfl rfl rfl au_sR rfl ?_
  refine VX.nil ?_
  refine VC.reg tab_ok [] rfl ?_
  refine VX.callP0 rfl rfl rfl (gnew_p 2 1 1 ⟨by omega, by omega⟩ ⟨by omega, by omega⟩) ?_
  iterate 3 refine VX.meek rfl ?_
  refine VX.new rfl rfl ?_
  refine VX.store rfl rfl rfl rfl rfl au_sR rfl ?_
  refine VX.meek rfl ?_
  refine VX.nil ?_
  refine VC.drw tab_ok [] [_, _, _, _, _, _, _] rfl (by kernel_rfl) (by kernel_rfl) ?_
  first | refine VX.meek rfl ?_ | refine VX.loadI rfl rfl au_l ?_ | refine VX.loadP rfl rfl rfl au_l ?_
  first | refine VX.meek rfl ?_ | refine VX.loadI rfl rfl au_l ?_ | refine VX.loadP rfl rfl rfl au_l ?_
  first | refine VX.meek rfl ?_ | refine VX.loadI rfl rfl au_l ?_ | refine VX.loadP rfl rfl rfl au_l ?_
  first | refine VX.meek rfl ?_ | refine VX.loadI rfl rfl au_l ?_ | refine VX.loadP rfl rfl rfl au_l ?_
  refine VX.callP0 rfl rfl rfl ((show CallP Tryz.prog 63 [gT 2 1 [1, 1], I64 1, I64 0, U8 2] (gT 2 1 [1, 2]) from gset_n 2 1 [1, 1] 2 rfl 1 0 2 (by omega) (by omega) rfl (by intro v hv; simp at hv; rcases hv with rfl | rfl <;> exact ⟨by decide, by decide⟩) ⟨by omega, by omega⟩ ⟨by omega, by omega⟩)) ?_
  refine VX.callP0 rfl rfl rfl (htile) ?_
  refine VX.new rfl rfl ?_
  refine VX.nil ?_
  refine VX.store rfl rfl rfl rfl rfl au_sR rfl ?_
  refine VX.nil ?_
  refine VC.reg tab_ok [] rfl ?_
  first | refine VX.meek rfl ?_ | refine VX.loadI rfl rfl au_l ?_ | refine VX.loadP rfl rfl rfl au_l ?_
  refine VX.callP0 rfl rfl rfl (row_p 3 2 [5, 0, 0, 0, 0, 0] 0 (by omega) (by omega) rfl (by omega)) ?_
  iterate 2 refine VX.meek rfl ?_
  refine' VX.merge (d := 41) [_, _, _, _] rfl ?_ rfl ?_
  rotate_left
  · refine VX.guard rfl rfl (fun hb7_3 => ?_) (fun hb7_3 => ?_)
    · have ghb7_3 := hb7_3
      try simp only [au_std, Bool.not_true, Bool.not_false] at ghb7_3
      first | refine VX.meek rfl ?_ | refine VX.loadI rfl rfl au_l ?_ | refine VX.loadP rfl rfl rfl au_l ?_
      refine VX.guardT rfl rfl hb7_3 ?_
      refine VX.callP0 rfl rfl rfl (row_p 3 2 [5, 0, 0, 0, 0, 0] 1 (by omega) (by omega) rfl (by omega)) ?_
      refine VX.guardT rfl rfl hb7_3 ?_
      refine VX.meek rfl ?_
      refine VX.pickA rfl (fun _ => rfl) ?_
      exact VX.nil ⟨rfl, rfl⟩
    · refine VX.guardF rfl rfl hb7_3 ?_
      refine VX.guardF rfl rfl hb7_3 ?_
      exact VX.pickA rfl (fun h => absurd (h.symm.trans hb7_3) (by decide)) (VX.nil ⟨rfl, rfl⟩)
  refine VX.meek rfl ?_
  refine' VX.merge (d := 46) [_, _, _, _] rfl ?_ rfl ?_
  rotate_left
  · refine VX.guard rfl rfl (fun hb7_8 => ?_) (fun hb7_8 => ?_)
    · have ghb7_8 := hb7_8
      try simp only [au_std, Bool.not_true, Bool.not_false] at ghb7_8
      first | refine VX.meek rfl ?_ | refine VX.loadI rfl rfl au_l ?_ | refine VX.loadP rfl rfl rfl au_l ?_
      refine VX.guardT rfl rfl hb7_8 ?_
      refine VX.callP0 rfl rfl rfl (row_p 3 2 [2, 1, 2, 2, 1, 2] 0 (by omega) (by omega) rfl (by omega)) ?_
      refine VX.guardT rfl rfl hb7_8 ?_
      refine VX.meek rfl ?_
      refine VX.pickA rfl (fun _ => rfl) ?_
      exact VX.nil ⟨rfl, rfl⟩
    · refine VX.guardF rfl rfl hb7_8 ?_
      refine VX.guardF rfl rfl hb7_8 ?_
      exact VX.pickA rfl (fun h => absurd (h.symm.trans hb7_8) (by decide)) (VX.nil ⟨rfl, rfl⟩)
  refine VX.meek rfl ?_
  refine' VX.merge (d := 51) [_, _, _, _] rfl ?_ rfl ?_
  rotate_left
  · refine VX.guard rfl rfl (fun hb7_13 => ?_) (fun hb7_13 => ?_)
    · have ghb7_13 := hb7_13
      try simp only [au_std, Bool.not_true, Bool.not_false] at ghb7_13
      first | refine VX.meek rfl ?_ | refine VX.loadI rfl rfl au_l ?_ | refine VX.loadP rfl rfl rfl au_l ?_
      refine VX.guardT rfl rfl hb7_13 ?_
      refine VX.callP0 rfl rfl rfl (row_p 3 2 [2, 1, 2, 2, 1, 2] 1 (by omega) (by omega) rfl (by omega)) ?_
      refine VX.guardT rfl rfl hb7_13 ?_
      refine VX.meek rfl ?_
      refine VX.pickA rfl (fun _ => rfl) ?_
      exact VX.nil ⟨rfl, rfl⟩
    · refine VX.guardF rfl rfl hb7_13 ?_
      refine VX.guardF rfl rfl hb7_13 ?_
      exact VX.pickA rfl (fun h => absurd (h.symm.trans hb7_13) (by decide)) (VX.nil ⟨rfl, rfl⟩)
  refine VX.meek rfl ?_
  refine VX.nil ?_
  refine VC.ret ?_
  exact ⟨trivial, _, rfl, Cv.eq (congrArg BL (by decide +kernel)) rfl⟩
end
section
open Go.RowKit Go.Sort
abbrev shI : Sh := .int .i64
abbrev shU : Sh := .int .u8
abbrev shR : Sh := .st [shI, shI, shI, shI]
abbrev shP : Sh := .st [shI, shI]
abbrev shCan : Sh := .st [shU, shU, .sl shU]
theorem lit_i64 {n : Int} (h : (Lit.int .i64 n).wf = true) : i64 n := by
  simp [Lit.wf, IntKind.min, IntKind.max, IntKind.signed, IntKind.bits] at h
  unfold i64; omega
theorem lit_u8 {n : Int} (h : (Lit.int .u8 n).wf = true) : 0 ≤ n ∧ n < 256 := by
  simp [Lit.wf, IntKind.min, IntKind.max, IntKind.signed, IntKind.bits] at h
  omega
theorem wt_i64 {ts : List T} (h : shI.wt ts) : ∃ n, ts = [I64 n] ∧ i64 n := by
  obtain ⟨n, rfl, hw⟩ := h
  exact ⟨n, rfl, lit_i64 hw⟩
theorem wt_u8 {ts : List T} (h : shU.wt ts) : ∃ n, ts = [U8 n] ∧ 0 ≤ n ∧ n < 256 := by
  obtain ⟨n, rfl, hw⟩ := h
  exact ⟨n, rfl, lit_u8 hw⟩
theorem nth_dec {α : Type} (c : Cd α) {p : List T → Prop} {Q : α → Prop} (h : ∀ a, p a → ∃ x, a = c.cells x ∧ Q x) : ∀ (n : Nat) {xs : List T}, nth p n xs → ∃ l : List α, xs = encL c l ∧ l.length = n ∧ ∀ x ∈ l, Q x
  | 0, xs, k => ⟨[], k, rfl, fun _ hx => by cases hx⟩
  | n + 1, xs, ⟨a, b, e, k1, k2⟩ => by
    obtain ⟨x, rfl, hx⟩ := h a k1
    obtain ⟨l, rfl, rfl, hl⟩ := nth_dec c h n k2
    exact ⟨x :: l, e, rfl, fun y hy => by
      rcases List.mem_cons.1 hy with rfl | hy
      · exact hx
      · exact hl y hy⟩
theorem wt_sl {α : Type} (c : Cd α) {s : Sh} {Q : α → Prop} (h : ∀ a, s.wt a → ∃ x, a = c.cells x ∧ Q x) {ts : List T} (k : (Sh.sl s).wt ts) : ∃ l : List α, ts = [.islc (encL c l) l.length none] ∧ l.length ≤ maxLen ∧ ∀ x ∈ l, Q x := by
  obtain ⟨xs, n, rfl, h1, h2⟩ := k
  obtain ⟨l, rfl, rfl, hl⟩ := nth_dec c h n h2
  exact ⟨l, rfl, h1, hl⟩
def rI (r : Rect) : Prop := i64 r.X ∧ i64 r.Y ∧ i64 r.W ∧ i64 r.H
theorem wt_rect {ts : List T} (h : shR.wt ts) : ∃ r : Rect, ts = cR.cells r ∧ rI r := by
  obtain ⟨a, b, rfl, h1, c, d, rfl, h2, e, f, rfl, h3, g, k, rfl, h4, rfl⟩ := h
  obtain ⟨x, rfl, hx⟩ := wt_i64 h1
  obtain ⟨y, rfl, hy⟩ := wt_i64 h2
  obtain ⟨w, rfl, hw⟩ := wt_i64 h3
  obtain ⟨z, rfl, hz⟩ := wt_i64 h4
  exact ⟨⟨x, y, w, z⟩, rfl, hx, hy, hw, hz⟩
theorem wt_rects {ts : List T} (h : (Sh.sl shR).wt ts) : ∃ l : List Rect, ts = [.islc (encL cR l) l.length none] ∧ l.length ≤ maxLen ∧ ∀ r ∈ l, rI r := wt_sl cR (fun _ => wt_rect) h
theorem wt_points {ts : List T} (h : (Sh.sl shP).wt ts) : ∃ l : List (Int × Int), ts = [.islc (encL cP l) l.length none] ∧ l.length ≤ maxLen ∧ ∀ q ∈ l, i64 q.1 ∧ i64 q.2 :=
  wt_sl cP (fun _ h => by
    obtain ⟨a, b, rfl, h1, c, d, rfl, h2, rfl⟩ := h
    obtain ⟨x, rfl, hx⟩ := wt_i64 h1
    obtain ⟨y, rfl, hy⟩ := wt_i64 h2
    exact ⟨(x, y), rfl, hx, hy⟩) h
theorem wt_bytes {ts : List T} (h : (Sh.sl shU).wt ts) : ∃ l : List Int, ts = [.islc (encL cU l) l.length none] ∧ l.length ≤ maxLen ∧ ∀ v ∈ l, 0 ≤ v ∧ v < 256 :=
  wt_sl cU (fun _ h => by
    obtain ⟨x, rfl, hx⟩ := wt_u8 h
    exact ⟨x, rfl, hx⟩) h
theorem wt_canvas {ts : List T} (h : shCan.wt ts) : ∃ (cw ch : Nat) (P : List Int), ts = [U8 cw, U8 ch, .islc (encL cU P) P.length none] ∧ cw < 256 ∧ ch < 256 ∧ ∀ v ∈ P, 0 ≤ v ∧ v < 256 := by
  obtain ⟨a, b, rfl, h1, c, d, rfl, h2, e, f, rfl, h3, rfl⟩ := h
  obtain ⟨x, rfl, hx⟩ := wt_u8 h1
  obtain ⟨y, rfl, hy⟩ := wt_u8 h2
  obtain ⟨P, rfl, -, hP⟩ := wt_bytes h3
  refine ⟨x.toNat, y.toNat, P, ?_, by omega, by omega, hP⟩
  rw [Int.toNat_of_nonneg hx.1, Int.toNat_of_nonneg hy.1]
  rfl
end
section
open Go.RowKit Go.Sort
set_option maxRecDepth 10000
theorem rI_all {l : List Rect} (h : ∀ r ∈ l, rI r) : ∀ r ∈ l, i64 r.X ∧ i64 r.Y := fun r hr => ⟨(h r hr).1, (h r hr).2.1⟩
theorem paint_both {w h : Nat} {px : List Int} (hl : px.length = w * h) (clip what : List Rect) (f : Int → Int → Int → Int) : paintL w (fun x y => inL (bandOf clip) x y ∧ inL (bandOf what) x y) f px = paintL w (fun a b => inL (clip.filter countsB) a b ∧ inL (what.filter countsB) a b) f px :=
  paint_congr hl (fun a b _ _ _ _ => by rw [bandOf_in, bandOf_in]) (fun _ _ _ _ _ _ _ => rfl)
end
section
open Go.RowKit Go.Sort
set_option maxRecDepth 10000
theorem rects_both {w h : Nat} (clip : List Rect) (p : PenS) : ∀ (l : List Rect) (px : List Int), px.length = w * h → rectsPx w (bandOf clip) p l px = rectsQ w clip (mixQ p.f p.fo p.pl) l px
  | [], px, _ => rfl
  | r :: l, px, hl => by
    show rectsPx w (bandOf clip) p l _ = rectsQ w clip (mixQ p.f p.fo p.pl) l _
    have e := paint_both hl clip [r] (mixF p p.fo)
    dsimp only
    rw [e]
    exact rects_both clip p l _ ((paintL_len _ _ _ _).trans hl)
theorem points_both {w h : Nat} (clip : List Rect) (p : PenS) (l : List (Int × Int)) (px : List Int) : pointsPx w h (bandOf clip) p l px = pointsQ w h (fun a b => inL (clip.filter countsB) a b) (mixQ p.f p.fo p.pl) l px := by
  rw [pointsPx_eq]
  exact pointsQ_congr (fun x y => bandOf_in clip x y) l px
theorem paintLists_all {t0 t1 t2 t3 t4 t5 t6 : List T} (h0 : shCan.wt t0) (h1 : (Sh.sl shR).wt t1) (h2 : (Sh.sl shR).wt t2) (h3 : (Sh.sl shP).wt t3) (h4 : shI.wt t4) (h5 : shU.wt t5) (h6 : shU.wt t6) :
    CallP Tryz.prog 7 [shCan.tree t0, (Sh.sl shR).tree t1, (Sh.sl shR).tree t2, (Sh.sl shP).tree t3, shI.tree t4, shU.tree t5, shU.tree t6] (BL true) := by
  obtain ⟨cw, ch, P, rfl, hcw, hch, hPb⟩ := wt_canvas h0
  obtain ⟨clip, rfl, -, hci⟩ := wt_rects h1
  obtain ⟨l, rfl, -, hli⟩ := wt_rects h2
  obtain ⟨pts, rfl, -, hpi⟩ := wt_points h3
  obtain ⟨op, rfl, -⟩ := wt_i64 h4
  obtain ⟨pl, rfl, hpl⟩ := wt_u8 h5
  obtain ⟨fo, rfl, hfo⟩ := wt_u8 h6
  clear h0 h1 h2 h3 h4 h5 h6
  have hcan := canvas_p cw ch P hcw hch hPb
  have hw : 1 ≤ cw % 12 + 1 ∧ cw % 12 + 1 ≤ 128 := by omega
  have hh : 1 ≤ ch % 12 + 1 ∧ ch % 12 + 1 ≤ 128 := by omega
  have hl := padL_len P ((cw % 12 + 1) * (ch % 12 + 1))
  have hb := padL_bd hPb ((cw % 12 + 1) * (ch % 12 + 1))
  generalize padL P ((cw % 12 + 1) * (ch % 12 + 1)) = px at *
  generalize cw % 12 + 1 = w at *
  generalize ch % 12 + 1 = h at *
  have hpl2 : 0 ≤ (plainS op pl fo 0).pl ∧ (plainS op pl fo 0).pl < 256 := hpl
  show CallP Tryz.prog 7 [.agg [U8 cw, U8 ch, .islc (encL cU P) P.length none], .islc (encL cR clip) clip.length none, .islc (encL cR l) l.length none, .islc (encL cP pts) pts.length none, I64 op, U8 pl, U8 fo] (BL true)
  refine CallP.intro2 au_pu au_pu ?_
  refine CallT.intro tab_ok Tryz.func7 rfl (by kernel_rfl) (Nat.le_of_ble_eq_true rfl) ?_
  refine VC.reg tab_ok [7] rfl ?_
  refine VX.newI rfl rfl ?_
  refine VX.meek rfl ?_
  refine VX.nil ?_
  refine VC.seq ?_
  refine VC.reg tab_ok [] rfl ?_
  refine VX.callP0 rfl rfl rfl (awake_p) ?_
  refine VX.meek rfl ?_
  refine VX.nil ?_
  refine VC.cond rfl (fun hc0 => ?_) (fun hc0 => ?_)
  · exact absurd hc0 (by simp)
  · (try simp only [au_std] at hc0)
    refine VC.skip ?_
    refine VC.seq ?_
    refine VC.reg tab_ok [] rfl ?_
    refine VX.meek rfl ?_
    refine VX.callP0 rfl rfl rfl (few_p clip) ?_
    iterate 2 refine VX.meek rfl ?_
    refine' VX.merge (d := 26) [_, _, _, _] rfl ?_ rfl ?_
    rotate_left
    · refine VX.guard rfl rfl (fun hb3_3 => ?_) (fun hb3_3 => ?_)
      · have ghb3_3 := hb3_3
        try simp only [au_std, Bool.not_true, Bool.not_false] at ghb3_3
        refine VX.meek rfl ?_
        refine VX.guardT rfl rfl hb3_3 ?_
        refine VX.callP0 rfl rfl rfl (few_p l) ?_
        refine VX.guardT rfl rfl hb3_3 ?_
        refine VX.meek rfl ?_
        refine VX.pickO rfl (fun _ => rfl) ?_
        exact VX.nil ⟨rfl, rfl⟩
      · refine VX.guardF rfl rfl hb3_3 ?_
        refine VX.guardF rfl rfl hb3_3 ?_
        exact VX.pickO rfl (fun h => absurd (h.symm.trans hb3_3) (by decide)) (VX.nil ⟨rfl, rfl⟩)
    refine VX.meek rfl ?_
    refine' VX.merge (d := 31) [_, _, _, _] rfl ?_ rfl ?_
    rotate_left
    · refine VX.guard rfl rfl (fun hb3_8 => ?_) (fun hb3_8 => ?_)
      · have ghb3_8 := hb3_8
        try simp only [au_std, Bool.not_true, Bool.not_false] at ghb3_8
        refine VX.meek rfl ?_
        refine VX.guardT rfl rfl hb3_8 ?_
        refine VX.meek rfl ?_
        refine VX.guardT rfl rfl hb3_8 ?_
        refine VX.meek rfl ?_
        refine VX.pickO rfl (fun _ => rfl) ?_
        exact VX.nil ⟨rfl, rfl⟩
      · refine VX.guardF rfl rfl hb3_8 ?_
        refine VX.guardF rfl rfl hb3_8 ?_
        exact VX.pickO rfl (fun h => absurd (h.symm.trans hb3_8) (by decide)) (VX.nil ⟨rfl, rfl⟩)
    refine VX.nil ?_
    refine VC.cond rfl (fun hc1 => ?_) (fun hc1 => ?_)
    · (try simp only [au_std] at hc1)
      refine VC.reg tab_ok [] rfl ?_
      refine VX.meek rfl ?_
      refine VX.nil ?_
      refine VC.ret ?_
      exact ⟨trivial, _, rfl, Cv.eq (by first | rfl | (simp [*]; done)) rfl⟩
    · (try simp only [au_std] at hc1)
      refine VC.skip ?_
      refine VC.reg tab_ok [] rfl ?_
      first | refine VX.meek rfl ?_ | refine VX.loadI rfl rfl au_l ?_ | refine VX.loadP rfl rfl rfl au_l ?_
      refine VX.callP0 rfl rfl rfl (hcan) ?_
      iterate 3 refine VX.meek rfl ?_
      refine VX.callP0 rfl rfl rfl (plain_p op pl fo 0) ?_
      refine VX.new rfl rfl ?_
      refine VX.new rfl rfl ?_
      refine VX.store rfl rfl rfl rfl rfl au_sP rfl ?_
      refine VX.store rfl rfl rfl rfl rfl au_sP rfl ?_
      refine VX.nil ?_
      refine VC.drw tab_ok [] [_, _, _, _, _, _, _, _, _, _, _, _, _, _, _, _, _, _, _, _, _, _, _, _, _, _, _, _, _, _, _] rfl (by kernel_rfl) (by kernel_rfl) ?_
      first | refine VX.meek rfl ?_ | refine VX.loadI rfl rfl au_l ?_ | refine VX.loadP rfl rfl rfl au_l ?_
      refine VX.callP0 rfl rfl rfl (of23_p w h px hw hh hl hb) ?_
      refine VX.meek rfl ?_
      refine VX.callP0 rfl rfl rfl (of_p clip (by omega) (rI_all hci)) ?_
      first | refine VX.meek rfl ?_ | refine VX.loadI rfl rfl au_l ?_ | refine VX.loadP rfl rfl rfl au_l ?_
      refine VX.meek rfl ?_
      refine VX.callP0 rfl rfl rfl (points_both (w := w) (h := h) clip (plainS op pl fo 0) pts px ▸ points_t w h px (bandOf clip) pts (plainS op pl fo 0) hw.2 hh.2 hl hb (Reg.of clip) (by omega) (by omega) (plain_ok op pl fo 0) hfo hpl2) ?_
      first | refine VX.meek rfl ?_ | refine VX.loadI rfl rfl au_l ?_ | refine VX.loadP rfl rfl rfl au_l ?_
      refine VX.meek rfl ?_
      first | refine VX.meek rfl ?_ | refine VX.loadI rfl rfl au_l ?_ | refine VX.loadP rfl rfl rfl au_l ?_
      refine VX.callP0 rfl rfl rfl (ink_p (plainS op pl fo 0)) ?_
      refine VX.meek rfl ?_
      refine VX.callP0 rfl rfl rfl (points23_p w h px clip pts (plainS op pl fo 0).f pl fo hw.2 hh.2 hl hb (by omega) (by omega) hfo hpl) ?_
      refine VX.callP0 rfl rfl rfl (same23_p w h _ hw.2 hh.2 ((pointsQ_len _ _ _ _ _ _).trans hl) (pointsQ_bd (mixQ_bd _ _ _) hb)) ?_
      refine VX.meek rfl ?_
      refine' VX.merge (d := 67) [_, _, _, _, _, _, _, _, _, _, _, _, _, _, _] rfl ?_ rfl ?_
      rotate_left
      · refine VX.guard rfl rfl (fun hb6_14 => ?_) (fun hb6_14 => ?_)
        · have ghb6_14 := hb6_14
          try simp only [au_std, Bool.not_true, Bool.not_false] at ghb6_14
          first | refine VX.meek rfl ?_ | refine VX.loadI rfl rfl au_l ?_ | refine VX.loadP rfl rfl rfl au_l ?_
          refine VX.guardT rfl rfl hb6_14 ?_
          refine VX.callP0 rfl rfl rfl (of23_p w h px hw hh hl hb) ?_
          refine VX.guardT rfl rfl hb6_14 ?_
          refine VX.meek rfl ?_
          refine VX.guardT rfl rfl hb6_14 ?_
          refine VX.callP0 rfl rfl rfl (of_p clip (by omega) (rI_all hci)) ?_
          refine VX.guardT rfl rfl hb6_14 ?_
          first | refine VX.meek rfl ?_ | refine VX.loadI rfl rfl au_l ?_ | refine VX.loadP rfl rfl rfl au_l ?_
          refine VX.guardT rfl rfl hb6_14 ?_
          refine VX.meek rfl ?_
          refine VX.guardT rfl rfl hb6_14 ?_
          refine VX.callP0 rfl rfl rfl (rects_both clip (plainS op pl fo 0) l px hl ▸ rects_t w h px (bandOf clip) l (plainS op pl fo 0) hw.2 hh.2 hl hb (Reg.of clip) (by omega) (by omega) (rI_all hli) (plain_ok op pl fo 0) hfo hpl2) ?_
          refine VX.guardT rfl rfl hb6_14 ?_
          first | refine VX.meek rfl ?_ | refine VX.loadI rfl rfl au_l ?_ | refine VX.loadP rfl rfl rfl au_l ?_
          refine VX.guardT rfl rfl hb6_14 ?_
          refine VX.meek rfl ?_
          refine VX.guardT rfl rfl hb6_14 ?_
          first | refine VX.meek rfl ?_ | refine VX.loadI rfl rfl au_l ?_ | refine VX.loadP rfl rfl rfl au_l ?_
          refine VX.guardT rfl rfl hb6_14 ?_
          refine VX.callP0 rfl rfl rfl (ink_p (plainS op pl fo 0)) ?_
          refine VX.guardT rfl rfl hb6_14 ?_
          refine VX.meek rfl ?_
          refine VX.guardT rfl rfl hb6_14 ?_
          refine VX.callP0 rfl rfl rfl (rects23_p w h px clip l (plainS op pl fo 0).f pl fo hw.2 hh.2 hl hb (by omega) (by omega) hfo hpl) ?_
          refine VX.guardT rfl rfl hb6_14 ?_
          refine VX.callP0 rfl rfl rfl (same23_p w h _ hw.2 hh.2 ((rectsQ_len _ _ _ _ _).trans hl) (rectsQ_bd (mixQ_bd _ _ _) hb)) ?_
          refine VX.pickA rfl (fun _ => rfl) ?_
          exact VX.nil ⟨rfl, rfl⟩
        · refine VX.guardF rfl rfl hb6_14 ?_
          refine VX.guardF rfl rfl hb6_14 ?_
          refine VX.guardF rfl rfl hb6_14 ?_
          refine VX.guardF rfl rfl hb6_14 ?_
          refine VX.guardF rfl rfl hb6_14 ?_
          refine VX.guardF rfl rfl hb6_14 ?_
          refine VX.guardF rfl rfl hb6_14 ?_
          refine VX.guardF rfl rfl hb6_14 ?_
          refine VX.guardF rfl rfl hb6_14 ?_
          refine VX.guardF rfl rfl hb6_14 ?_
          refine VX.guardF rfl rfl hb6_14 ?_
          refine VX.guardF rfl rfl hb6_14 ?_
          refine VX.guardF rfl rfl hb6_14 ?_
          exact VX.pickA rfl (fun h => absurd (h.symm.trans hb6_14) (by decide)) (VX.nil ⟨rfl, rfl⟩)
      refine VX.meek rfl ?_
      refine VX.nil ?_
      refine VX.nil ?_
      refine VC.ret ?_
      exact ⟨trivial, _, rfl, Cv.eq (by first | rfl | (simp [*]; done)) rfl⟩
end
section
open Go.ChangeShapes Go.WideShapes Go.ChangeAt Go.RowKit Go.WideElems
def rowed (P : Program) (ts : List TypeId) : Bool := ts.all fun t => P.readableRec t && decide (t < P.types.size)
theorem trodAll_below {H : Type} {enc : TypeId × Value → H} {P : Program} (hl : laidOutB P = true) {W W' : World} (hb : Below W.heap.size W W') :
    ∀ {ts : List TypeId} {vs : List Value} {ds : List (DataW H)} {p : List MemPlace}, rowed P ts = true → (∀ x ∈ p, x.block < W.heap.size) →
      DataW.TrodAll enc P W 0 (fun _ => true) true ts vs ds p → DataW.TrodAll enc P W' 0 (fun b => decide (b < W.heap.size)) true ts vs ds p
  | [], _, _, _, _, _, h => by
    obtain ⟨rfl, rfl, rfl⟩ := trodAll_nil h
    exact trodAll_mk0
  | t :: ts, _, _, _, hr, hlt, h => by
    obtain ⟨v, vs1, d, ds1, a, b, rfl, rfl, rfl, h1, h2⟩ := trodAll_cons h
    simp only [rowed, List.all_cons, Bool.and_eq_true, decide_eq_true_eq] at hr
    refine trodAll_cons_mk (Below.trod hl hr.1.1 hr.1.2 h1 hb (fun x hx => hlt x (by simp [hx]))) ?_
    exact trodAll_below hl hb (by simpa [rowed] using hr.2) (fun x hx => hlt x (by simp [hx])) h2
theorem post_law {H : Type} {enc : TypeId × Value → H} {P : Program} {f : Func} {s : ChangeSpec} {W W' : World} {args : Array Value} {ds gs : List (DataW H)} {before : List MemPlace} {tb : TypeId}
    (hl : laidOutB P = true) (hps : rowed P f.params.toList = true) (hvs : varsRowed P s.vars = true) (hres : f.resultTypes = #[tb]) (htb : P.underlying tb = some .bool)
    (hW : DataW.Whole enc P f.params.toList s.vars false W args.toList ds gs before)
    (h1 : (s.fn H (ds ++ gs)).results = [.lit (.bool true)]) (h2 : (s.fn H (ds ++ gs)).args = ds) (h3 : (s.fn H (ds ++ gs)).vars = gs)
    (hb : Below W.heap.size W W') : s.post enc P f false true false false W args (.bool true) W' := by
  have hlt := hW.lt
  have hW' := hW
  obtain ⟨p, q, hA, hV, rfl, hfz, hnd⟩ := hW
  refine ⟨ds, gs, p ++ q, [], p, q, hW', ?_, ?_, ?_, hb.frame _, fun h => by cases h⟩
  · rw [h1, hres]
    exact trodAll_cons_mk (shut_bool htb true) trodAll_mk0
  · rw [h2]
    exact trodAll_below hl hb hps (fun x hx => hlt x (by simp [hx])) hA
  · rw [h3]
    exact Below.trodVars hl hb hvs hV
end
end Go.Proofs.YtelhkfdpkjkpjaaGreat
