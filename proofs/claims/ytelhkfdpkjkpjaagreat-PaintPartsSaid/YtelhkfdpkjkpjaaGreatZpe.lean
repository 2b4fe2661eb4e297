/-
  The proof's lemmas, part 5.
-/
import Derived.Test.YtelhkfdpkjkpjaaGreatZpd
namespace Go.Proofs.YtelhkfdpkjkpjaaGreat
set_option linter.unusedSimpArgs false
set_option linter.unusedVariables false
section
open Go.RowKit Go.Sort
set_option maxRecDepth 10000
def placeB (n : Int) : Bool := decide (-32768 ≤ n) && decide (n ≤ 32767)
def sdB (n : Int) : Bool := decide (0 ≤ n) && decide (n ≤ 65535)
theorem isFunc_p (n : Int) : CallP Tryz.prog 131 [I64 n] (BL (ropKnown n)) := by
  refine CallP.intro2 au_pu au_pu ?_
  refine CallT.intro tab_ok Tryz.func131 rfl (by kernel_rfl) (Nat.le_of_ble_eq_true rfl) ?_
  refine VC.reg tab_ok [] rfl ?_
  refine VX.meek rfl ?_
  refine VX.nil ?_
  refine VC.reg tab_ok [] rfl ?_
  iterate 3 refine VX.meek rfl ?_
  refine' VX.merge (d := 8) [_, _, _] rfl ?_ rfl ?_
  rotate_left
  · refine VX.guard rfl rfl (fun hb1_2 => ?_) (fun hb1_2 => ?_)
    · have ghb1_2 := hb1_2
      try simp only [au_std, Bool.not_true, Bool.not_false] at ghb1_2
      refine VX.meek rfl ?_
      refine VX.guardT rfl rfl hb1_2 ?_
      refine VX.meek rfl ?_
      refine VX.pickA rfl (fun _ => rfl) ?_
      exact VX.nil ⟨rfl, rfl⟩
    · refine VX.guardF rfl rfl hb1_2 ?_
      exact VX.pickA rfl (fun h => absurd (h.symm.trans hb1_2) (by decide)) (VX.nil ⟨rfl, rfl⟩)
  refine VX.meek rfl ?_
  refine VX.nil ?_
  refine VC.ret ?_
  exact ⟨trivial, _, rfl, Cv.eq (by first | rfl | (simp [*]; done)) rfl⟩
theorem isPlace_p (n : Int) : CallP Tryz.prog 132 [I64 n] (BL (placeB n)) := by
  refine CallP.intro2 au_pu au_pu ?_
  refine CallT.intro tab_ok Tryz.func132 rfl (by kernel_rfl) (Nat.le_of_ble_eq_true rfl) ?_
  refine VC.reg tab_ok [] rfl ?_
  refine VX.meek rfl ?_
  refine VX.nil ?_
  refine VC.reg tab_ok [] rfl ?_
  iterate 3 refine VX.meek rfl ?_
  refine' VX.merge (d := 8) [_, _, _] rfl ?_ rfl ?_
  rotate_left
  · refine VX.guard rfl rfl (fun hb1_2 => ?_) (fun hb1_2 => ?_)
    · have ghb1_2 := hb1_2
      try simp only [au_std, Bool.not_true, Bool.not_false] at ghb1_2
      refine VX.meek rfl ?_
      refine VX.guardT rfl rfl hb1_2 ?_
      refine VX.meek rfl ?_
      refine VX.pickA rfl (fun _ => rfl) ?_
      exact VX.nil ⟨rfl, rfl⟩
    · refine VX.guardF rfl rfl hb1_2 ?_
      exact VX.pickA rfl (fun h => absurd (h.symm.trans hb1_2) (by decide)) (VX.nil ⟨rfl, rfl⟩)
  refine VX.meek rfl ?_
  refine VX.nil ?_
  refine VC.ret ?_
  exact ⟨trivial, _, rfl, Cv.eq (by first | rfl | (simp [*]; done)) rfl⟩
theorem isSide_p (n : Int) : CallP Tryz.prog 133 [I64 n] (BL (sdB n)) := by
  refine CallP.intro2 au_pu au_pu ?_
  refine CallT.intro tab_ok Tryz.func133 rfl (by kernel_rfl) (Nat.le_of_ble_eq_true rfl) ?_
  refine VC.reg tab_ok [] rfl ?_
  refine VX.meek rfl ?_
  refine VX.nil ?_
  refine VC.reg tab_ok [] rfl ?_
  iterate 3 refine VX.meek rfl ?_
  refine' VX.merge (d := 8) [_, _, _] rfl ?_ rfl ?_
  rotate_left
  · refine VX.guard rfl rfl (fun hb1_2 => ?_) (fun hb1_2 => ?_)
    · have ghb1_2 := hb1_2
      try simp only [au_std, Bool.not_true, Bool.not_false] at ghb1_2
      refine VX.meek rfl ?_
      refine VX.guardT rfl rfl hb1_2 ?_
      refine VX.meek rfl ?_
      refine VX.pickA rfl (fun _ => rfl) ?_
      exact VX.nil ⟨rfl, rfl⟩
    · refine VX.guardF rfl rfl hb1_2 ?_
      exact VX.pickA rfl (fun h => absurd (h.symm.trans hb1_2) (by decide)) (VX.nil ⟨rfl, rfl⟩)
  refine VX.meek rfl ?_
  refine VX.nil ?_
  refine VC.ret ?_
  exact ⟨trivial, _, rfl, Cv.eq (by first | rfl | (simp [*]; done)) rfl⟩
def PenOk (p : PenS) : Prop := ropKnown p.f = true ∧ placeB p.x = true ∧ placeB p.y = true ∧ (p.cl = true ∨ p.clip = []) ∧ p.clip.length ≤ 256 ∧ ∀ r ∈ p.clip, placeB r.X = true ∧ placeB r.Y = true ∧ sdB r.W = true ∧ sdB r.H = true
theorem check_p (p : PenS) (h : PenOk p) : CallP Tryz.prog 93 [penT p] (I64 0) := by
  obtain ⟨h1, h2, h3, h4, h5, h6⟩ := h
  refine CallP.intro2 au_pu au_pu ?_
  refine CallT.intro tab_ok Tryz.func93 rfl (by kernel_rfl) (Nat.le_of_ble_eq_true rfl) ?_
  refine VC.reg tab_ok [1] rfl ?_
  refine VX.newI rfl rfl ?_
  refine VX.meek rfl ?_
  refine VX.nil ?_
  refine VC.seq ?_
  refine VC.block ?_
  refine VC.reg tab_ok [] rfl ?_
  refine VX.meek rfl ?_
  first | refine VX.meek rfl ?_ | refine VX.loadI rfl rfl au_l ?_ | refine VX.loadP rfl rfl rfl au_l ?_
  refine VX.callP0 rfl rfl rfl (isFunc_p _) ?_
  iterate 2 refine VX.meek rfl ?_
  refine VX.nil ?_
  refine VC.cond rfl (fun hc0 => ?_) (fun hc0 => ?_)
  · exact absurd hc0 (by simp [h1])
  · (try simp only [au_std] at hc0)
    refine VC.reg tab_ok [] rfl ?_
    refine VX.meek rfl ?_
    first | refine VX.meek rfl ?_ | refine VX.loadI rfl rfl au_l ?_ | refine VX.loadP rfl rfl rfl au_l ?_
    refine VX.callP0 rfl rfl rfl (isPlace_p _) ?_
    iterate 2 refine VX.meek rfl ?_
    refine' VX.merge (d := 20) [_, _, _, _, _] rfl ?_ rfl ?_
    rotate_left
    · refine VX.guard rfl rfl (fun hb3_4 => ?_) (fun hb3_4 => ?_)
      · have ghb3_4 := hb3_4
        try simp only [au_std, Bool.not_true, Bool.not_false] at ghb3_4
        refine VX.meek rfl ?_
        refine VX.guardT rfl rfl hb3_4 ?_
        first | refine VX.meek rfl ?_ | refine VX.loadI rfl rfl au_l ?_ | refine VX.loadP rfl rfl rfl au_l ?_
        refine VX.guardT rfl rfl hb3_4 ?_
        refine VX.callP0 rfl rfl rfl (isPlace_p _) ?_
        refine VX.guardT rfl rfl hb3_4 ?_
        refine VX.meek rfl ?_
        refine VX.pickO rfl (fun _ => rfl) ?_
        exact VX.nil ⟨rfl, rfl⟩
      · refine VX.guardF rfl rfl hb3_4 ?_
        refine VX.guardF rfl rfl hb3_4 ?_
        refine VX.guardF rfl rfl hb3_4 ?_
        exact VX.pickO rfl (fun h => absurd (h.symm.trans hb3_4) (by decide)) (VX.nil ⟨rfl, rfl⟩)
    refine VX.meek rfl ?_
    refine VX.nil ?_
    refine VC.cond rfl (fun hc1 => ?_) (fun hc1 => ?_)
    · exact absurd hc1 (by simp [h2, h3])
    · (try simp only [au_std] at hc1)
      refine VC.reg tab_ok [] rfl ?_
      refine VX.meek rfl ?_
      first | refine VX.meek rfl ?_ | refine VX.loadI rfl rfl au_l ?_ | refine VX.loadP rfl rfl rfl au_l ?_
      iterate 2 refine VX.meek rfl ?_
      refine' VX.merge (d := 30) [_, _, _, _, _] rfl ?_ rfl ?_
      rotate_left
      · refine VX.guard rfl rfl (fun hb5_3 => ?_) (fun hb5_3 => ?_)
        · have ghb5_3 := hb5_3
          try simp only [au_std, Bool.not_true, Bool.not_false] at ghb5_3
          refine VX.meek rfl ?_
          refine VX.guardT rfl rfl hb5_3 ?_
          first | refine VX.meek rfl ?_ | refine VX.loadI rfl rfl au_l ?_ | refine VX.loadP rfl rfl rfl au_l ?_
          refine VX.guardT rfl rfl hb5_3 ?_
          refine VX.meek rfl ?_
          refine VX.guardT rfl rfl hb5_3 ?_
          refine VX.meek rfl ?_
          refine VX.pickA rfl (fun _ => rfl) ?_
          exact VX.nil ⟨rfl, rfl⟩
        · refine VX.guardF rfl rfl hb5_3 ?_
          refine VX.guardF rfl rfl hb5_3 ?_
          refine VX.guardF rfl rfl hb5_3 ?_
          exact VX.pickA rfl (fun h => absurd (h.symm.trans hb5_3) (by decide)) (VX.nil ⟨rfl, rfl⟩)
      refine VX.meek rfl ?_
      refine VX.nil ?_
      refine VC.cond rfl (fun hc2 => ?_) (fun hc2 => ?_)
      · exact absurd hc2 (by rcases h4 with h | h <;> simp [h])
      · (try simp only [au_std] at hc2)
        refine VC.reg tab_ok [] rfl ?_
        refine VX.meek rfl ?_
        first | refine VX.meek rfl ?_ | refine VX.loadI rfl rfl au_l ?_ | refine VX.loadP rfl rfl rfl au_l ?_
        iterate 3 refine VX.meek rfl ?_
        refine VX.nil ?_
        refine VC.cond rfl (fun hc3 => ?_) (fun hc3 => ?_)
        · (try simp only [au_std] at hc3); omega
        · (try simp only [au_std] at hc3)
          refine VC.skip ?_
          refine VC.seq ?_
          refine VC.reg tab_ok [] rfl ?_
          refine VX.meek rfl ?_
          first | refine VX.meek rfl ?_ | refine VX.loadI rfl rfl au_l ?_ | refine VX.loadP rfl rfl rfl au_l ?_
          iterate 2 refine VX.meek rfl ?_
          refine VX.nil ?_
          refine VC.block ?_
          refine VC.loopS (σ := Nat) (fun k => p.clip.length - k) (fun k => k ≤ p.clip.length) (fun k => [(39, I64 k)]) (fun _ => []) [37, 38] rfl (0) ?_ ?_ ?_
          · refine ⟨[], rfl, by first | trivial | decide, rfl, ?_, ?_⟩ <;> (repeat' first | exact trivial | exact CvB_n | exact CvB_d | refine CvE_app ?_ ?_ | refine CvE_cons rfl ?_ ?_ | refine CvH_cons ?_ ?_ | refine CvB_c rfl ?_ | fail) <;> first | exact au_v | (skip)
          · (try dsimp only); omega
          rintro k hk
          refine VC.reg tab_ok [] rfl ?_
          refine VX.meek rfl ?_
          refine VX.nil ?_
          refine VC.seq ?_
          refine VC.cond rfl (fun hc4 => ?_) (fun hc4 => ?_)
          · (try simp only [au_std] at hc4); have hkl : k < p.clip.length := (by omega); have hq := h6 p.clip[k]! (List.mem_iff_getElem?.2 ⟨k, getE hkl⟩)
            refine VC.skip ?_
            refine VC.seq ?_
            refine VC.block ?_
            refine VC.reg tab_ok [] rfl ?_
            first | refine VX.idxI rfl rfl rfl rfl rfl rfl (by omega) ?_ | refine VX.idxO0 rfl rfl rfl rfl rfl rfl rfl (by omega) ?_ | refine VX.idxO0 rfl rfl rfl rfl rfl rfl au_z (by omega) ?_ | refine VX.idxO rfl rfl rfl rfl rfl rfl rfl (by omega) ?_ | refine VX.idxI rfl rfl rfl rfl rfl au_z (by omega) ?_ | refine VX.idxO rfl rfl rfl rfl rfl rfl au_z (by omega) ?_ | refine VX.meek rfl ?_
            first | refine VX.meek rfl ?_ | refine VX.loadI rfl rfl au_l ?_ | refine VX.loadP rfl rfl rfl au_l ?_
            refine VX.new rfl rfl ?_
            refine VX.store rfl rfl rfl rfl rfl au_sR rfl ?_
            refine VX.nil ?_
            refine VC.reg tab_ok [] rfl ?_
            refine VX.meek rfl ?_
            first | refine VX.meek rfl ?_ | refine VX.loadI rfl rfl au_l ?_ | refine VX.loadP rfl rfl rfl au_l ?_
            refine VX.callP0 rfl rfl rfl (isPlace_p _) ?_
            iterate 2 refine VX.meek rfl ?_
            refine' VX.merge (d := 52) [_, _, _, _, _] rfl ?_ rfl ?_
            rotate_left
            · refine VX.guard rfl rfl (fun hb12_4 => ?_) (fun hb12_4 => ?_)
              · have ghb12_4 := hb12_4
                try simp only [au_std, Bool.not_true, Bool.not_false] at ghb12_4
                refine VX.meek rfl ?_
                refine VX.guardT rfl rfl hb12_4 ?_
                first | refine VX.meek rfl ?_ | refine VX.loadI rfl rfl au_l ?_ | refine VX.loadP rfl rfl rfl au_l ?_
                refine VX.guardT rfl rfl hb12_4 ?_
                refine VX.callP0 rfl rfl rfl (isPlace_p _) ?_
                refine VX.guardT rfl rfl hb12_4 ?_
                refine VX.meek rfl ?_
                refine VX.pickO rfl (fun _ => rfl) ?_
                exact VX.nil ⟨rfl, rfl⟩
              · refine VX.guardF rfl rfl hb12_4 ?_
                refine VX.guardF rfl rfl hb12_4 ?_
                refine VX.guardF rfl rfl hb12_4 ?_
                exact VX.pickO rfl (fun h => absurd (h.symm.trans hb12_4) (by decide)) (VX.nil ⟨rfl, rfl⟩)
            refine VX.meek rfl ?_
            refine' VX.merge (d := 58) [_, _, _, _, _] rfl ?_ rfl ?_
            rotate_left
            · refine VX.guard rfl rfl (fun hb12_10 => ?_) (fun hb12_10 => ?_)
              · have ghb12_10 := hb12_10
                try simp only [au_std, Bool.not_true, Bool.not_false] at ghb12_10
                refine VX.meek rfl ?_
                refine VX.guardT rfl rfl hb12_10 ?_
                first | refine VX.meek rfl ?_ | refine VX.loadI rfl rfl au_l ?_ | refine VX.loadP rfl rfl rfl au_l ?_
                refine VX.guardT rfl rfl hb12_10 ?_
                refine VX.callP0 rfl rfl rfl (isSide_p _) ?_
                refine VX.guardT rfl rfl hb12_10 ?_
                refine VX.meek rfl ?_
                refine VX.pickO rfl (fun _ => rfl) ?_
                exact VX.nil ⟨rfl, rfl⟩
              · refine VX.guardF rfl rfl hb12_10 ?_
                refine VX.guardF rfl rfl hb12_10 ?_
                refine VX.guardF rfl rfl hb12_10 ?_
                exact VX.pickO rfl (fun h => absurd (h.symm.trans hb12_10) (by decide)) (VX.nil ⟨rfl, rfl⟩)
            refine VX.meek rfl ?_
            refine' VX.merge (d := 64) [_, _, _, _, _] rfl ?_ rfl ?_
            rotate_left
            · refine VX.guard rfl rfl (fun hb12_16 => ?_) (fun hb12_16 => ?_)
              · have ghb12_16 := hb12_16
                try simp only [au_std, Bool.not_true, Bool.not_false] at ghb12_16
                refine VX.meek rfl ?_
                refine VX.guardT rfl rfl hb12_16 ?_
                first | refine VX.meek rfl ?_ | refine VX.loadI rfl rfl au_l ?_ | refine VX.loadP rfl rfl rfl au_l ?_
                refine VX.guardT rfl rfl hb12_16 ?_
                refine VX.callP0 rfl rfl rfl (isSide_p _) ?_
                refine VX.guardT rfl rfl hb12_16 ?_
                refine VX.meek rfl ?_
                refine VX.pickO rfl (fun _ => rfl) ?_
                exact VX.nil ⟨rfl, rfl⟩
              · refine VX.guardF rfl rfl hb12_16 ?_
                refine VX.guardF rfl rfl hb12_16 ?_
                refine VX.guardF rfl rfl hb12_16 ?_
                exact VX.pickO rfl (fun h => absurd (h.symm.trans hb12_16) (by decide)) (VX.nil ⟨rfl, rfl⟩)
            refine VX.nil ?_
            refine VC.cond rfl (fun hc5 => ?_) (fun hc5 => ?_)
            · exact absurd hc5 (by rw [hq.1, hq.2.1, hq.2.2.1, hq.2.2.2]; simp)
            · (try simp only [au_std] at hc5)
              refine VC.skip ?_
              refine VC.regN tab_ok [] rfl ?_
              first | refine VX.add rfl rfl (by omega) ?_ | refine VX.meek rfl ?_
              refine VX.meek rfl ?_
              refine VX.nil ?_
              refine ⟨k + 1, by (try dsimp only); omega, ?_, (by refine ⟨[], rfl, by first | trivial | decide, rfl, ?_, ?_⟩ <;> (repeat' first | exact trivial | exact CvB_n | exact CvB_d | refine CvE_app ?_ ?_ | refine CvE_cons rfl ?_ ?_ | refine CvH_cons ?_ ?_ | refine CvB_c rfl ?_ | fail) <;> first | exact au_v | (fail))⟩
              (try dsimp only); omega
          · (try simp only [au_std] at hc4)
            refine VC.exit ?_
            refine VC.reg tab_ok [] rfl ?_
            refine VX.meek rfl ?_
            refine VX.nil ?_
            refine VC.ret ?_
            exact ⟨trivial, _, rfl, Cv.eq (by first | rfl | (simp [*]; done)) rfl⟩
abbrev plT (b w h : Nat) (px : List Int) : T := .iptr (plC w h px (nwT b px.length)) 0
theorem painter_t (w h : Nat) (px : List Int) (p : PenS) (src : Int) (cs : List T) : CallT Tryz.prog 94 [plT 0 w h px, penT p, U8 src] [.c cs] (fun t H' => t = .clo 134 [] [.iptr [plT 0 w h px] 0, .iptr (penC p) 0, .iptr [U8 src] 0] ∧ H' = [.c cs]) := by
  refine CallT.intro tab_ok Tryz.func94 rfl (by kernel_rfl) (Nat.le_of_ble_eq_true rfl) ?_
  refine VC.reg tab_ok [3, 4, 5] rfl ?_
  refine VX.newI rfl rfl ?_
  refine VX.newI rfl rfl ?_
  refine VX.newI rfl rfl ?_
  refine VX.meek rfl ?_
  refine VX.nil ?_
  refine VC.reg tab_ok [] rfl ?_
  iterate 2 refine VX.meek rfl ?_
  refine VX.nil ?_
  refine VC.ret ?_
  exact ⟨trivial, _, rfl, rfl, rfl⟩
theorem paintL_bd {w : Nat} {V : Int → Int → Prop} {f : Int → Int → Int → Int} {px : List Int} (hb : ∀ v ∈ px, 0 ≤ v ∧ v < 256) (hf : ∀ x y o, 0 ≤ o ∧ o < 256 → 0 ≤ f x y o ∧ f x y o < 256) : ∀ v ∈ paintL w V f px, 0 ≤ v ∧ v < 256 := by
  intro v hv
  unfold paintL at hv
  obtain ⟨i, hi, rfl⟩ := List.mem_map.1 hv
  split
  · exact hf _ _ _ (bang_bd hb _)
  · exact bang_bd hb _
theorem cv_caps {v : Vw} {b b' w h : Nat} {px : List Int} {cs : List T} (hr : v.R b' b) (hcs : T.pureL cs = true) : CvL v (.iptr [plT b w h px] 0 :: cs) (.iptr [plT b' w h px] 0 :: cs) :=
  CvL.cons (Cv.iptr (CvL.cons (Cv.iptr (cv_pl (Cv.pure (encL_pure cU _)) (Cv.slc hr (.inl rfl)))) CvL.nil)) (CvL.pure hcs)
theorem each_t (w h : Nat) (px s0 : List Int) (l : List Rect) (g : FuncId) (cs : List T) (f : Int → Int → Int → Int) (hcs : T.pureL cs = true) (hw : w ≤ 128) (hh : h ≤ 128) (hl : s0.length = w * h) (hc : Canon l) (hr : ∀ r ∈ l, rok r) (hn : l.length ≤ 1048576)
    (hin : ∀ x y, inL l x y → 0 ≤ x ∧ x < w ∧ 0 ≤ y ∧ y < h) (hb : ∀ v ∈ s0, 0 ≤ v ∧ v < 256) (hf : ∀ x y o, 0 ≤ o ∧ o < 256 → 0 ≤ f x y o ∧ f x y o < 256)
    (hdo : ∀ (s : List Int) (x y : Int), s.length = w * h → (∀ v ∈ s, 0 ≤ v ∧ v < 256) → 0 ≤ x → x < w → 0 ≤ y → y < h → CallT Tryz.prog g ([] ++ [I64 x, I64 y] ++ (.iptr [plT 0 w h px] 0 :: cs)) [.c (encL cU s)] (fun t H' => t = .tup [] ∧ H' = [.c (encL cU (s.set (y * w + x).toNat (f x y s[(y * w + x).toNat]!)))])) :
    CallT Tryz.prog 67 [regT l, .clo g [] (.iptr [plT 0 w h px] 0 :: cs)] [.c (encL cU s0)] (fun t H' => t = .tup [] ∧ H' = [.c (encL cU (paintL w (inL l) f s0))]) := by
  refine CallT.intro tab_ok Tryz.func67 rfl (by kernel_rfl) (Nat.le_of_ble_eq_true rfl) ?_
  refine VC.reg tab_ok [2] rfl ?_
  refine VX.newI rfl rfl ?_
  refine VX.nil ?_
  refine VC.reg tab_ok [] rfl ?_
  first | refine VX.meek rfl ?_ | refine VX.loadI rfl rfl au_l ?_ | refine VX.loadP rfl rfl rfl au_l ?_
  refine VX.callP0 rfl rfl rfl (rects_p l hn) ?_
  iterate 2 refine VX.meek rfl ?_
  refine VX.nil ?_
  refine VC.block ?_
  refine VC.loopS (σ := Nat) (fun k => l.length - k) (fun k => k ≤ l.length) (fun k => [(11, I64 k), (1, .clo g [] (.iptr [plT 0 w h px] 0 :: cs))]) (fun k => [.c (encL cU (paintL w (inL (l.take k)) f s0))]) [9, 10] rfl (0) ?_ ?_ ?_
  · refine ⟨[some 0], rfl, by first | trivial | decide, rfl, ?_, ?_⟩ <;> (repeat' first | exact trivial | exact CvB_n | exact CvB_d | refine CvE_app ?_ ?_ | refine CvE_cons rfl ?_ ?_ | refine CvH_cons ?_ ?_ | refine CvB_c rfl ?_ | fail) <;> first | exact au_v | (first | exact Cv.clo CvL.nil (cv_caps rfl hcs) | exact CvL.eq (congrArg (encL cU) (paint_none hl (fun a b _ _ _ _ => by rw [List.take_zero]; exact inL_nil)).symm) (encL_pure cU _))
  · (try dsimp only); omega
  rintro k hk
  refine VC.reg tab_ok [] rfl ?_
  refine VX.meek rfl ?_
  refine VX.nil ?_
  refine VC.seq ?_
  refine VC.cond rfl (fun hc0 => ?_) (fun hc0 => ?_)
  · (try simp only [au_std] at hc0); have hkl : k < l.length := (by omega); have hrk := hr l[k]! (List.mem_iff_getElem?.2 ⟨k, getE hkl⟩); unfold rok at hrk; have hik : ∀ x y, l[k]!.has x y → 0 ≤ x ∧ x < w ∧ 0 ≤ y ∧ y < h := fun x y hh => hin x y ⟨_, List.mem_iff_getElem?.2 ⟨k, getE hkl⟩, hh⟩
    refine VC.skip ?_
    refine VC.seq ?_
    refine VC.block ?_
    refine VC.reg tab_ok [] rfl ?_
    first | refine VX.idxI rfl rfl rfl rfl rfl rfl (by omega) ?_ | refine VX.idxO0 rfl rfl rfl rfl rfl rfl rfl (by omega) ?_ | refine VX.idxO0 rfl rfl rfl rfl rfl rfl au_z (by omega) ?_ | refine VX.idxO rfl rfl rfl rfl rfl rfl rfl (by omega) ?_ | refine VX.idxI rfl rfl rfl rfl rfl au_z (by omega) ?_ | refine VX.idxO rfl rfl rfl rfl rfl rfl au_z (by omega) ?_ | refine VX.meek rfl ?_
    first | refine VX.meek rfl ?_ | refine VX.loadI rfl rfl au_l ?_ | refine VX.loadP rfl rfl rfl au_l ?_
    refine VX.new rfl rfl ?_
    refine VX.store rfl rfl rfl rfl rfl au_sR rfl ?_
    refine VX.nil ?_
    refine VC.reg tab_ok [] rfl ?_
    refine VX.meek rfl ?_
    first | refine VX.meek rfl ?_ | refine VX.loadI rfl rfl au_l ?_ | refine VX.loadP rfl rfl rfl au_l ?_
    refine VX.meek rfl ?_
    refine VX.nil ?_
    refine VC.block ?_
    refine VC.loopS (σ := Nat) (fun j => l[k]!.H.toNat - j) (fun j => j ≤ l[k]!.H.toNat) (fun j => [(6, I64 (l[k]!.Y + j)), (1, .clo g [] (.iptr [plT 0 w h px] 0 :: cs)), (5, .ptr 1 0)]) (fun j => [.c (encL cU (paintL w (fun a b => inL (l.take k) a b ∨ (l[k]!.has a b ∧ b < l[k]!.Y + j)) f s0)), .c [I64 l[k]!.X, I64 l[k]!.Y, I64 l[k]!.W, I64 l[k]!.H]]) [9, 10, 11] rfl (0) ?_ ?_ ?_
    · refine ⟨[some 0, some 1], rfl, by first | trivial | decide, rfl, ?_, ?_⟩ <;> (repeat' first | exact trivial | exact CvB_n | exact CvB_d | refine CvE_app ?_ ?_ | refine CvE_cons rfl ?_ ?_ | refine CvH_cons ?_ ?_ | refine CvB_c rfl ?_ | fail) <;> first | exact au_v | (first | exact Cv.clo CvL.nil (cv_caps rfl hcs) | exact Cv.eq (congrArg I64 (by simp)) rfl | exact CvL.eq (congrArg (encL cU) (paint_congr hl (fun a b _ _ _ _ => by unfold Rect.has; by_cases hV : inL (l.take k) a b; simp [hV]; simp only [hV, false_or, iff_false]; omega) (fun _ _ _ _ _ _ _ => rfl))) (encL_pure cU _))
    · (try dsimp only); omega
    rintro j hj
    refine VC.seq ?_
    refine VC.reg tab_ok [] rfl ?_
    iterate 2 refine VX.meek rfl ?_
    first | refine VX.meek rfl ?_ | refine VX.loadI rfl rfl au_l ?_ | refine VX.loadP rfl rfl rfl au_l ?_
    refine VX.meek rfl ?_
    first | refine VX.meek rfl ?_ | refine VX.loadI rfl rfl au_l ?_ | refine VX.loadP rfl rfl rfl au_l ?_
    first | refine VX.add rfl rfl (by omega) ?_ | refine VX.meek rfl ?_
    refine VX.meek rfl ?_
    refine VX.nil ?_
    refine VC.cond rfl (fun hc1 => ?_) (fun hc1 => ?_)
    · (try simp only [au_std] at hc1); have hjl : j < l[k]!.H.toNat := (by omega)
      refine VC.skip ?_
      refine VC.seq ?_
      refine VC.block ?_
      refine VC.reg tab_ok [] rfl ?_
      refine VX.meek rfl ?_
      first | refine VX.meek rfl ?_ | refine VX.loadI rfl rfl au_l ?_ | refine VX.loadP rfl rfl rfl au_l ?_
      refine VX.meek rfl ?_
      refine VX.nil ?_
      refine VC.block ?_
      refine VC.loopS (σ := Nat) (fun i => l[k]!.W.toNat - i) (fun i => i ≤ l[k]!.W.toNat) (fun i => [(7, I64 (l[k]!.X + i)), (1, .clo g [] (.iptr [plT 0 w h px] 0 :: cs)), (5, .ptr 1 0)]) (fun i => [.c (encL cU (paintL w (fun a b => inL (l.take k) a b ∨ (l[k]!.has a b ∧ (b < l[k]!.Y + j ∨ (b = l[k]!.Y + j ∧ a < l[k]!.X + i)))) f s0)), .c [I64 l[k]!.X, I64 l[k]!.Y, I64 l[k]!.W, I64 l[k]!.H]]) [6, 9, 10, 11] rfl (0) ?_ ?_ ?_
      · refine ⟨[some 0, some 1], rfl, by first | trivial | decide, rfl, ?_, ?_⟩ <;> (repeat' first | exact trivial | exact CvB_n | exact CvB_d | refine CvE_app ?_ ?_ | refine CvE_cons rfl ?_ ?_ | refine CvH_cons ?_ ?_ | refine CvB_c rfl ?_ | fail) <;> first | exact au_v | (first | exact Cv.clo CvL.nil (cv_caps rfl hcs) | exact Cv.eq (congrArg I64 (by simp)) rfl | exact CvL.eq (congrArg (encL cU) (paint_congr hl (fun a b _ _ _ _ => by unfold Rect.has; by_cases hV : inL (l.take k) a b; simp [hV]; simp only [hV, false_or, iff_false]; omega) (fun _ _ _ _ _ _ _ => rfl))) (encL_pure cU _))
      · (try dsimp only); omega
      rintro i hi
      refine VC.seq ?_
      refine VC.reg tab_ok [] rfl ?_
      iterate 2 refine VX.meek rfl ?_
      first | refine VX.meek rfl ?_ | refine VX.loadI rfl rfl au_l ?_ | refine VX.loadP rfl rfl rfl au_l ?_
      refine VX.meek rfl ?_
      first | refine VX.meek rfl ?_ | refine VX.loadI rfl rfl au_l ?_ | refine VX.loadP rfl rfl rfl au_l ?_
      first | refine VX.add rfl rfl (by omega) ?_ | refine VX.meek rfl ?_
      refine VX.meek rfl ?_
      refine VX.nil ?_
      refine VC.cond rfl (fun hc2 => ?_) (fun hc2 => ?_)
      · (try simp only [au_std] at hc2); have hil : i < l[k]!.W.toNat := (by omega); have hpl := hik (l[k]!.X + i) (l[k]!.Y + j) (by unfold Rect.has; omega); have hnd := canon_disj hc hkl (x := l[k]!.X + i) (y := l[k]!.Y + j) (by unfold Rect.has; omega); have hpi := place_lt hpl.1 hpl.2.1 hpl.2.2.1 hpl.2.2.2
        have hput : (paintL w (fun a b => inL (l.take k) a b ∨ (l[k]!.has a b ∧ (b < l[k]!.Y + j ∨ (b = l[k]!.Y + j ∧ a < l[k]!.X + i)))) f s0).set ((l[k]!.Y + j) * w + (l[k]!.X + i)).toNat (f (l[k]!.X + i) (l[k]!.Y + j) (paintL w (fun a b => inL (l.take k) a b ∨ (l[k]!.has a b ∧ (b < l[k]!.Y + j ∨ (b = l[k]!.Y + j ∧ a < l[k]!.X + i)))) f s0)[((l[k]!.Y + j) * w + (l[k]!.X + i)).toNat]!) = paintL w (fun a b => inL (l.take k) a b ∨ (l[k]!.has a b ∧ (b < l[k]!.Y + j ∨ (b = l[k]!.Y + j ∧ a < l[k]!.X + (i + 1 : Nat))))) f s0 := paint_put hl hpl.1 hpl.2.1 hpl.2.2.1 hpl.2.2.2 (by
            rw [paintL_not ⟨hpl.1, hpl.2.1⟩ hpl.2.2.1 (by omega) (by rintro (q | q); exact hnd q; omega)]) (fun a b _ _ _ _ => by unfold Rect.has; by_cases hV : inL (l.take k) a b; simp [hV]; simp only [hV, false_or]; omega)
        refine VC.skip ?_
        refine VC.seq ?_
        refine VC.block ?_
        refine VC.regN tab_ok [] rfl ?_
        iterate 3 refine VX.meek rfl ?_
        refine VX.callT rfl rfl (CallT.frame (hdo (paintL w (fun a b => inL (l.take k) a b ∨ (l[k]!.has a b ∧ (b < l[k]!.Y + j ∨ (b = l[k]!.Y + j ∧ a < l[k]!.X + i)))) f s0) (l[k]!.X + i) (l[k]!.Y + j) (by rw [paintL_len, hl]) (paintL_bd hb hf) hpl.1 hpl.2.1 hpl.2.2.1 hpl.2.2.2) [0] rfl au_ci au_ci ?_)
        rintro _ _ ⟨rfl, rfl⟩
        refine frK au_co au_co ?_
        refine VX.nil ?_
        refine VC.regN tab_ok [] rfl ?_
        refine VX.meek rfl ?_
        first | refine VX.add rfl rfl (by omega) ?_ | refine VX.meek rfl ?_
        refine VX.meek rfl ?_
        refine VX.nil ?_
        refine ⟨i + 1, by (try dsimp only); omega, ?_, (by refine ⟨[some 0, some 1], rfl, by first | trivial | decide, rfl, ?_, ?_⟩ <;> (repeat' first | exact trivial | exact CvB_n | exact CvB_d | refine CvE_app ?_ ?_ | refine CvE_cons rfl ?_ ?_ | refine CvH_cons ?_ ?_ | refine CvB_c rfl ?_ | fail) <;> first | exact au_v | (first | exact Cv.clo CvL.nil (cv_caps rfl hcs) | exact Cv.eq (congrArg I64 (by omega)) rfl | exact CvL.eq (congrArg (encL cU) hput) (encL_pure cU _)))⟩
        (try dsimp only); omega
      · (try simp only [au_std] at hc2)
        refine VC.exit ?_
        refine VC.regN tab_ok [] rfl ?_
        refine VX.meek rfl ?_
        first | refine VX.add rfl rfl (by omega) ?_ | refine VX.meek rfl ?_
        refine VX.meek rfl ?_
        refine VX.nil ?_
        refine ⟨j + 1, by (try dsimp only); omega, ?_, (by refine ⟨[some 0, some 1], rfl, by first | trivial | decide, rfl, ?_, ?_⟩ <;> (repeat' first | exact trivial | exact CvB_n | exact CvB_d | refine CvE_app ?_ ?_ | refine CvE_cons rfl ?_ ?_ | refine CvH_cons ?_ ?_ | refine CvB_c rfl ?_ | fail) <;> first | exact au_v | (first | exact Cv.clo CvL.nil (cv_caps rfl hcs) | exact Cv.eq (congrArg I64 (by omega)) rfl | exact CvL.eq (congrArg (encL cU) (paint_congr hl (fun a b _ _ _ _ => by unfold Rect.has; by_cases hV : inL (l.take k) a b; simp [hV]; simp only [hV, false_or]; omega) (fun _ _ _ _ _ _ _ => rfl))) (encL_pure cU _)))⟩
        (try dsimp only); omega
    · (try simp only [au_std] at hc1)
      refine VC.exit ?_
      refine VC.regN tab_ok [] rfl ?_
      first | refine VX.add rfl rfl (by omega) ?_ | refine VX.meek rfl ?_
      refine VX.meek rfl ?_
      refine VX.nil ?_
      refine ⟨k + 1, by (try dsimp only); omega, ?_, (by refine ⟨[some 0], rfl, by first | trivial | decide, rfl, ?_, ?_⟩ <;> (repeat' first | exact trivial | exact CvB_n | exact CvB_d | refine CvE_app ?_ ?_ | refine CvE_cons rfl ?_ ?_ | refine CvH_cons ?_ ?_ | refine CvB_c rfl ?_ | fail) <;> first | exact au_v | (first | exact Cv.clo CvL.nil (cv_caps rfl hcs) | exact CvL.eq (congrArg (encL cU) (paint_congr hl (fun a b _ _ _ _ => by rw [inL_take hkl]; unfold Rect.has; by_cases hV : inL (l.take k) a b; simp [hV]; simp only [hV, false_or]; omega) (fun _ _ _ _ _ _ _ => rfl))) (encL_pure cU _)))⟩
      (try dsimp only); omega
  · (try simp only [au_std] at hc0); obtain rfl : k = l.length := (by omega); rw [List.take_length]
    refine VC.exit ?_
    exact ⟨trivial, _, rfl, rfl, rfl⟩
end
section
open Go.RowKit Go.Sort
set_option maxRecDepth 10000
theorem pgrid_n (w h : Nat) (px s : List Int) (n : Nat) (hn : s.length = n) (hw : w ≤ 128) (hh : h ≤ 128) (hl : px.length = w * h) (hs : s.length = w * h) (hp : ∀ v ∈ px, 0 ≤ v ∧ v < 256) (hb : ∀ v ∈ s, 0 ≤ v ∧ v < 256) :
    CallP Tryz.prog 74 [.iptr (plC w h px (.islc (encL cU s) n none)) 0] (gT w h s) := by
  subst hn; exact pgrid_p w h px s hw hh hl hs hp hb
def mixF (p : PenS) (src : Int) : Int → Int → Int → Int := fun _ _ o => mixI p.f src o p.pl
theorem mixF_bd (p : PenS) (src : Int) : ∀ x y o, 0 ≤ o ∧ o < 256 → 0 ≤ mixF p src x y o ∧ mixF p src x y o < 256 := fun x y o _ => by have := mixI_bd p.f src o p.pl; unfold mixF; omega
theorem opL_sub2 {n m : Nat} {a b : List Rect} (ha : Reg n a) (hb : Reg m b) {x y : Int} (h : inL (opL and a b) x y) : inL a x y ∧ inL b x y := by
  have := (opL_in (k := and) rfl ha.1 hb.1 ha.2 hb.2 x y).1 h
  simpa using this
theorem opL_and {n m : Nat} {a b : List Rect} (ha : Reg n a) (hb : Reg m b) {x y : Int} : inL (opL and a b) x y ↔ inL a x y ∧ inL b x y := by
  rw [opL_in (k := and) rfl ha.1 hb.1 ha.2 hb.2 x y]; simp
theorem in_plane {w h : Nat} (hw : 1 ≤ w ∧ w ≤ 128) (hh : 1 ≤ h ∧ h ≤ 128) (x y : Int) : inL (bandOf [⟨0, 0, w, h⟩]) x y ↔ 0 ≤ x ∧ x < w ∧ 0 ≤ y ∧ y < h := by
  have hc : countsB ⟨0, 0, w, h⟩ = true := by unfold countsB fitsB; simp; omega
  rw [bandOf_one, if_pos hc, inL_cons]
  have : ¬ inL [] x y := inL_nil
  unfold Rect.has
  constructor
  · rintro (k | k)
    · dsimp only at k; omega
    · exact absurd k this
  · intro k; exact .inl (by dsimp only; omega)
theorem in_plane0 {w h : Nat} (hw : w ≤ 128) (hh : h ≤ 128) (x y : Int) : inL (bandOf [⟨0, 0, w, h⟩]) x y ↔ 0 ≤ x ∧ x < w ∧ 0 ≤ y ∧ y < h := by
  by_cases h1 : 1 ≤ w ∧ 1 ≤ h
  · exact in_plane ⟨h1.1, hw⟩ ⟨h1.2, hh⟩ x y
  · have hc : ¬ countsB ⟨0, 0, w, h⟩ = true := by unfold countsB fitsB; simp; omega
    rw [bandOf_one, if_neg hc]
    exact ⟨fun k => absurd k inL_nil, fun k => by omega⟩
theorem brush_t (w h : Nat) (px : List Int) (p : PenS) (src : Int) (hw : w ≤ 128) (hh : h ≤ 128) (hl : px.length = w * h) (hsr : 0 ≤ src ∧ src < 256) (hp : 0 ≤ p.pl ∧ p.pl < 256) :
    ∀ (s : List Int) (x y : Int), s.length = w * h → (∀ v ∈ s, 0 ≤ v ∧ v < 256) → 0 ≤ x → x < w → 0 ≤ y → y < h → CallT Tryz.prog 134 ([] ++ [I64 x, I64 y] ++ (.iptr [plT 0 w h px] 0 :: [.iptr (penC p) 0, .iptr [U8 src] 0])) [.c (encL cU s)] (fun t H' => t = .tup [] ∧ H' = [.c (encL cU (s.set (y * w + x).toNat (mixF p src x y s[(y * w + x).toNat]!)))]) :=
  fun s x y hs hb hx hx2 hy hy2 => painter1_t w h px s p src x y hw hh hl hs hx hx2 hy hy2 hb hsr hp
theorem penC_pure (p : PenS) (src : Int) : T.pureL [.iptr (penC p) 0, .iptr [U8 src] 0] = true := by simp only [T.pureL, T.pure, encL_pure]; rfl
theorem with_p {n m : Nat} (w h : Nat) (px : List Int) (clip what : List Rect) (p : PenS) (src : Int) (hw : w ≤ 128) (hh : h ≤ 128) (hl : px.length = w * h) (hpb : ∀ v ∈ px, 0 ≤ v ∧ v < 256) (hc : Reg n clip) (ht : Reg m what) (hnm : n + m ≤ 498) (hok : PenOk p) (hsr : 0 ≤ src ∧ src < 256) (hp : 0 ≤ p.pl ∧ p.pl < 256) :
    CallP Tryz.prog 91 [gT w h px, regT clip, regT what, penT p, U8 src] (gT w h (paintL w (fun x y => inL clip x y ∧ inL what x y) (mixF p src) px)) := by
  have hm := opL_reg (k := and) rfl hc ht
  have hr := opL_reg (k := and) rfl hm (Reg.of [⟨0, 0, w, h⟩])
  have hlen : (opL and (opL and clip what) (bandOf [⟨0, 0, (w : Int), (h : Int)⟩])).length ≤ 1048576 := Nat.le_trans hr.len (Nat.le_trans (Nat.mul_le_mul (by simp; omega) (by simp; omega)) (show 500 * 500 ≤ 1048576 by decide))
  have hins : ∀ x y, inL (opL and (opL and clip what) (bandOf [⟨0, 0, (w : Int), (h : Int)⟩])) x y → 0 ≤ x ∧ x < w ∧ 0 ≤ y ∧ y < h := fun x y hi => (in_plane0 hw hh x y).1 (opL_sub2 hm (Reg.of _) hi).2
  have hres : paintL w (inL (opL and (opL and clip what) (bandOf [⟨0, 0, (w : Int), (h : Int)⟩]))) (mixF p src) px = paintL w (fun x y => inL clip x y ∧ inL what x y) (mixF p src) px := paint_congr hl (fun a b h1 h2 h3 h4 => by rw [opL_and hm (Reg.of _), opL_and hc ht, in_plane0 hw hh]; simp [h1, h2, h3, h4]) (fun _ _ _ _ _ _ _ => rfl)
  rw [← hres]
  generalize hR : opL and (opL and clip what) (bandOf [⟨0, 0, (w : Int), (h : Int)⟩]) = R at *
  have hbd := paintL_bd (w := w) (V := inL R) hpb (mixF_bd p src)
  have hpl := paintL_len w (inL R) (mixF p src) px
  refine CallP.intro2 au_pu au_pu ?_
  refine CallT.intro tab_ok Tryz.func91 rfl (by kernel_rfl) (Nat.le_of_ble_eq_true rfl) ?_
  refine VC.reg tab_ok [5, 6, 7, 8] rfl ?_
  refine VX.newI rfl rfl ?_
  refine VX.newI rfl rfl ?_
  refine VX.newI rfl rfl ?_
  refine VX.newI rfl rfl ?_
  refine VX.new rfl rfl ?_
  refine VX.nil ?_
  refine VC.seq ?_
  refine VC.reg tab_ok [] rfl ?_
  first | refine VX.meek rfl ?_ | refine VX.loadI rfl rfl au_l ?_ | refine VX.loadP rfl rfl rfl au_l ?_
  refine VX.callP0 rfl rfl rfl (check_p p hok) ?_
  refine VX.meek rfl ?_
  refine VX.nil ?_
  refine VC.cond rfl (fun hc0 => ?_) (fun hc0 => ?_)
  · exact absurd hc0 (by decide)
  · (try simp only [au_std] at hc0)
    refine VC.skip ?_
    refine VC.reg tab_ok [] rfl ?_
    first | refine VX.meek rfl ?_ | refine VX.loadI rfl rfl au_l ?_ | refine VX.loadP rfl rfl rfl au_l ?_
    refine VX.callT rfl rfl (CallT.frame (planeOf_t w h px hw hh hl hpb) [] rfl au_ci au_ci ?_)
    rintro _ _ ⟨rfl, rfl⟩
    refine frK au_co au_co ?_
    refine VX.meek rfl ?_
    refine VX.nil ?_
    refine VC.drwC tab_ok [] [_, _, _, _, _, _, _, _, _] ([.d, .d]) [false, false, false, false, true, false, false, false, false] rfl (by kernel_rfl) (by kernel_rfl) (by kernel_rfl) (by repeat' first | exact seen_nil | refine seen_dead ?_ | refine seen_same ?_) ?_
    refine VD.meek rfl ?_
    refine VD.meek rfl ?_
    refine VD.callP rfl rfl (meet_p hc ht (by omega)) ?_
    refine VD.meek rfl ?_
    refine VD.call (t := rectT ⟨0, 0, w, h⟩) (F1 := [.c [I64 0, I64 0, NIL], .c (encL cU px), .c [I64 0, I64 0, I64 w, I64 h]]) rfl rfl ?_ ?_ ?_
    · refine CallT.frame (prect_t w h px (encL cU px)) [1] rfl au_ci au_ci ?_
      rintro _ _ ⟨rfl, rfl⟩
      refine frK au_co au_co ?_
      exact ⟨rfl, rfl⟩
    · exact (by repeat' first | exact seen_nil | refine seen_dead ?_ | refine seen_same ?_)
    refine VD.callP rfl rfl ((show CallP Tryz.prog 68 [regT (opL and clip what), rectT ⟨0, 0, w, h⟩] (regT R) from by rw [← hR]; exact within_p hm ⟨0, 0, w, h⟩ ⟨by unfold i64; dsimp only; omega, by unfold i64; dsimp only; omega⟩ (by omega))) ?_
    refine VD.meek rfl ?_
    refine VD.meek rfl ?_
    refine VD.meek rfl ?_
    refine VD.nil ?_
    refine VX.callT rfl rfl (CallT.frame (painter_t w h px p src (encL cU px)) [1] rfl au_ci au_ci ?_)
    rintro _ _ ⟨rfl, rfl⟩
    refine frK au_co au_co ?_
    refine VX.callT rfl rfl (CallT.frame (each_t w h px px R _ _ (mixF p src) (penC_pure p src) hw hh hl hr.1 hr.2 hlen hins hpb (mixF_bd p src) (brush_t w h px p src hw hh hl hsr hp)) [1] rfl au_ci au_ci ?_)
    rintro _ _ ⟨rfl, rfl⟩
    refine frK au_co au_co ?_
    refine VX.nil ?_
    refine VC.view ([(11, .iptr (plC w h px (.islc (encL cU (paintL w (inL R) (mixF p src) px)) px.length none)) 0), (10, .ptr 0 0)]) ([.c [I64 0, I64 0, NIL]]) [] rfl (by refine ⟨[some 0], rfl, by first | trivial | decide, rfl, ?_, ?_⟩ <;> (repeat' first | exact trivial | exact CvB_n | exact CvB_d | refine CvE_app ?_ ?_ | refine CvE_cons rfl ?_ ?_ | refine CvH_cons ?_ ?_ | refine CvB_c rfl ?_ | fail) <;> first | exact au_v | (first | exact CvL.pure rfl | exact Cv.iptr (cv_pl (Cv.pure (encL_pure cU _)) (Cv.fslc0 ⟨rfl, by simp⟩ (CvL.pure (encL_pure cU _)))))) ?_
    refine VC.reg tab_ok [] rfl ?_
    refine VX.meek rfl ?_
    refine VX.callP0 rfl rfl rfl (pgrid_n w h px (paintL w (inL R) (mixF p src) px) px.length hpl hw hh hl (by rw [hpl, hl]) hpb hbd) ?_
    refine VX.store rfl rfl rfl rfl rfl au_sR rfl ?_
    refine VX.nil ?_
    refine VC.ret ?_
    refine ⟨trivial, _, rfl, Cv.agg (cv_g (Cv.pure (encL_pure cU _)))⟩
end
section
open Go.RowKit
def AllI (p : Nat → Prop) : List Nat → Prop
  | [] => True
  | i :: is => p i ∧ AllI p is
theorem allI_at {p : Nat → Prop} : ∀ {is : List Nat}, AllI p is → ∀ i ∈ is, p i
  | [], _, i, h => by cases h
  | j :: is, ⟨h1, h2⟩, i, h => by
    rcases List.mem_cons.1 h with rfl | h
    · exact h1
    · exact allI_at h2 i h
def AnyV (P : Program) (tab : Tab) (im : List Nat) (l : List Oper) (K : Env → Hp → Prop) : Nat → Array Bool → Env → Hp → Prop
  | 0, listed, E, H => Region.ready .any l.toArray listed = [] ∧ K E H
  | f + 1, listed, E, H => (Region.ready .any l.toArray listed = [] → K E H) ∧
      AllI (fun i => ∃ o, l[i]? = some o ∧ VX false P tab im (l.map (·.dst)) [o] E H fun E' H' => AnyV P tab im l K f (listed.setIfInBounds i true) E' H') (Region.ready .any l.toArray listed)
section
variable {z : Bool} {P : Program} {tab : Tab} {n kb lb : Nat} {im : List Nat} {l : List Oper} {E : Env} {H : Hp} {K : Env → Hp → Prop} {X0 : Nat → Prop} {a : Act} {M : Mp}
theorem op_ok (hT : TabOk P tab) {o : Oper} {i : Nat} {KV : Env → Hp → Prop} {r : Option Nat} {Q : Exit → Act → World → Prop} {KA : Act → World → Prop} (ho : l[i]? = some o) (hd : dstB n l = true) (hs : St n kb E H X0 a M)
    (hv : VX false P tab im (l.map (·.dst)) [o] E H KV) (hK : ∀ E' H' a' M', KV E' H' → Evo X0 M M' → St n kb E' H' X0 a' M' → KA a' M'.w) : wpOpIn (FW r) 0 P l.toArray Q i KA a M.w := by
  have hdo : ∀ k, o.dst = some k → k < n := fun k hk => by
    unfold dstB at hd
    rw [List.all_eq_true] at hd
    have := hd o (List.mem_of_getElem? ho)
    rw [hk] at this; simpa using this
  have hv : vcSeq P tab im (l.toArray.toList.map (·.dst)) [o] E H (fun E' H' => ∃ E1, Sub E1 E' ∧ KV E1 H') := hv E (Sub.refl E)
  have hg := vcGuard_ok (ops := l.toArray) hs hv
  unfold wpOpIn
  simp only [List.getElem?_toArray, ho]
  split
  · rename_i hw
    rw [if_pos hw] at hg
    refine vcOp_ok hT hs hdo (fun E' H' a' M' hk he hs' => ?_) hg
    obtain ⟨E1, h1, h2⟩ := hk
    exact hK E1 H' a' M' h2 he (hs'.eqv h1)
  · rename_i hw
    rw [if_neg hw] at hg
    obtain ⟨E1, h1, h2⟩ := hg
    exact ⟨fun _ _ => trivial, hK E1 H _ M h2 (Evo.refl _ _) ((hs.put (Evo.refl _ _) hs.sim (t := .v undef) rfl hdo).eqv h1)⟩
theorem any_ok (hT : TabOk P tab) {r : Option Nat} {Q : Exit → Act → World → Prop} (hd : dstB n l = true) : ∀ (f : Nat) (listed : Array Bool) {E : Env} {H : Hp} {a : Act} {M : Mp}, St n kb E H X0 a M → (∀ E' H' a' M', K E' H' → Evo X0 M M' → St n kb E' H' X0 a' M' → Q .normal a' M'.w) → AnyV P tab im l K f listed E H → wpAnyIn (FW r) 0 P .any l.toArray Q f listed a M.w
  | 0, listed, E, H, a, M, hs, hK, hv => ⟨hv.1, hK E H a M hv.2 (Evo.refl _ _) hs⟩
  | f + 1, listed, E, H, a, M, hs, hK, hv => by
    refine ⟨fun h0 => hK E H a M (hv.1 h0) (Evo.refl _ _) hs, fun i hi => ?_⟩
    obtain ⟨o, ho, hx⟩ := allI_at hv.2 i hi
    exact op_ok hT ho hd hs hx fun E' H' a' M' k1 k2 k3 => any_ok hT hd f _ k3 (fun E2 H2 a2 M2 q1 q2 q3 => hK E2 H2 a2 M2 q1 (k2.trans q2) q3) k1
theorem VC.any {id : Nat} {QT : Exit → Env → Hp → Prop} (hT : TabOk P tab) (im : List Nat) (hm : P.follows .mixedOrders = true) (hd : dstB n l = true) (h : AnyV P tab im l (QT .normal) l.length (Array.replicate l.length false) E H) : VC z P n lb (.region id l.toArray true) QT E H := by
  intro X0 M a r0 kb hz hs
  refine wpIn_region_any hm ?_
  let M1 : Mp := ⟨M.β, M.X, { M.w with drawn := M.w.drawn + 1 }⟩
  have hE1 : Evo X0 M M1 := ⟨fun _ _ h => h, fun _ _ h => h, fun _ _ _ => rfl, fun _ _ h => h, rfl, ⟨rfl, Nat.le_succ _⟩, rfl, Nat.le_refl _⟩
  have hs1 : St n kb E H X0 a M1 := ⟨fun d t ht => by obtain ⟨u, q1, q2⟩ := hs.tm d t ht; exact ⟨u, q1, Rep.stays hE1.stays _ _ q2⟩, hs.sz, hs.df.evo hE1, hs.ge, hs.sim.world hE1 fun _ _ => rfl⟩
  exact any_ok (r := r0) (Q := Lift n kb lb X0 M QT) hT hd l.toArray.size _ hs1 (fun E' H' a' M' k1 k2 k3 => ⟨E', H', M', k1, rfl, (hE1.trans k2).toK lb, k3⟩) h
theorem VC.drwAll {id : Nat} {c : Code} {QT : Exit → Env → Hp → Prop} {Lc : Env} (hT : TabOk P tab) (im : List Nat) (hm : P.follows .mixedOrders = true) (hd : dstB n l = true) (L : Env) (H2 : Hp) (ds : List Nat) (hL : lcE E ds = some Lc)
    (h : AnyV P tab im l (fun E' H' => Conv lb E' H' (L ++ Lc) H2) l.length (Array.replicate l.length false) E H) (k : VC z P n lb c QT (L ++ Lc) H2) : VC z P n lb (.seq (.region id l.toArray true) c) QT E H :=
  VC.cutC (fun E' H' => E' = L ++ Lc ∧ H' = H2) (VC.any hT im hm hd (QT := ExThen (fun E' H' => ∃ L' H'', (L' = L ++ Lc ∧ H'' = H2) ∧ Conv lb E' H' L' H'') QT) (by
    have mono : ∀ (f : Nat) (listed : Array Bool) (E : Env) (H : Hp), AnyV P tab im l (fun E' H' => Conv lb E' H' (L ++ Lc) H2) f listed E H → AnyV P tab im l (fun E' H' => ∃ L' H'', (L' = L ++ Lc ∧ H'' = H2) ∧ Conv lb E' H' L' H'') f listed E H := by
      intro f
      induction f with
      | zero => intro listed E H h; exact ⟨h.1, _, _, ⟨rfl, rfl⟩, h.2⟩
      | succ f ih =>
        intro listed E H h
        refine ⟨fun h0 => ⟨_, _, ⟨rfl, rfl⟩, h.1 h0⟩, ?_⟩
        have hh := h.2
        generalize Region.ready .any l.toArray listed = rs at hh
        induction rs with
        | nil => trivial
        | cons i rs ihr =>
          obtain ⟨⟨o, ho, hx⟩, h3⟩ := hh
          refine ⟨⟨o, ho, fun E2 hE2 => ?_⟩, ihr h3⟩
          exact vcSeq_mono' _ (fun E' H' ⟨E1, q1, q2⟩ => ⟨E1, q1, ih _ _ _ q2⟩) (hx E2 hE2)
    exact mono _ _ _ _ h)) fun E' H' ⟨h1, h2⟩ => by subst h1 h2; exact k
theorem AnyV.more {f : Nat} {listed : Array Bool} (is : List Nat) (hr : Region.ready .any l.toArray listed = is) (hn : is ≠ []) (h : AllI (fun i => ∃ o, l[i]? = some o ∧ VX false P tab im (l.map (·.dst)) [o] E H fun E' H' => AnyV P tab im l K f (listed.setIfInBounds i true) E' H') is) : AnyV P tab im l K (f + 1) listed E H :=
  ⟨fun h0 => absurd (hr.symm.trans h0) hn, by rw [hr]; exact h⟩
theorem AnyV.fin {f : Nat} {listed : Array Bool} (hr : Region.ready .any l.toArray listed = []) (h : K E H) : AnyV P tab im l K f listed E H := by
  cases f with
  | zero => exact ⟨hr, h⟩
  | succ f => exact ⟨fun _ => h, by rw [hr]; trivial⟩
theorem allI_cons {p : Nat → Prop} {i : Nat} {is : List Nat} (h : p i) (k : AllI p is) : AllI p (i :: is) := ⟨h, k⟩
theorem anyV_op {p : Oper → Prop} {i : Nat} {o : Oper} (ho : l[i]? = some o) (h : p o) : ∃ o, l[i]? = some o ∧ p o := ⟨o, ho, h⟩
end
end
section
open Go.RowKit Go.Sort
set_option maxRecDepth 10000
theorem region_w (w h : Nat) (px q : List Int) (clip what : List Rect) (p : PenS) (hw : CallP Tryz.prog 91 [gT w h px, regT clip, regT what, penT p, U8 p.fo] (gT w h q)) : CallP Tryz.prog 24 [gT w h px, regT clip, regT what, penT p] (gT w h q) := by
  refine CallP.intro2 au_pu au_pu ?_
  refine CallT.intro tab_ok Tryz.func24 rfl (by kernel_rfl) (Nat.le_of_ble_eq_true rfl) ?_
  refine VC.reg tab_ok [4, 5, 6, 7] rfl ?_
  refine VX.newI rfl rfl ?_
  refine VX.newI rfl rfl ?_
  refine VX.newI rfl rfl ?_
  refine VX.newI rfl rfl ?_
  refine VX.new rfl rfl ?_
  refine VX.nil ?_
  refine VC.reg tab_ok [] rfl ?_
  first | refine VX.meek rfl ?_ | refine VX.loadI rfl rfl au_l ?_ | refine VX.loadP rfl rfl rfl au_l ?_
  first | refine VX.meek rfl ?_ | refine VX.loadI rfl rfl au_l ?_ | refine VX.loadP rfl rfl rfl au_l ?_
  first | refine VX.meek rfl ?_ | refine VX.loadI rfl rfl au_l ?_ | refine VX.loadP rfl rfl rfl au_l ?_
  first | refine VX.meek rfl ?_ | refine VX.loadI rfl rfl au_l ?_ | refine VX.loadP rfl rfl rfl au_l ?_
  refine VX.meek rfl ?_
  first | refine VX.meek rfl ?_ | refine VX.loadI rfl rfl au_l ?_ | refine VX.loadP rfl rfl rfl au_l ?_
  refine VX.callP0 rfl rfl rfl (hw) ?_
  refine VX.store rfl rfl rfl rfl rfl au_sR rfl ?_
  refine VX.nil ?_
  refine VC.ret ?_
  refine ⟨trivial, _, rfl, Cv.agg (cv_g (Cv.pure (encL_pure cU _)))⟩
noncomputable def rectsPx (w : Nat) (clip : List Rect) (p : PenS) (l : List Rect) (px : List Int) : List Int := l.foldl (fun s r => paintL w (fun x y => inL clip x y ∧ inL (bandOf [r]) x y) (mixF p p.fo) s) px
theorem rectsPx_len (w : Nat) (clip : List Rect) (p : PenS) : ∀ (l : List Rect) (px : List Int), (rectsPx w clip p l px).length = px.length
  | [], px => rfl
  | r :: l, px => by show (rectsPx w clip p l _).length = _; rw [rectsPx_len w clip p l, paintL_len]
theorem rectsPx_bd {w : Nat} {clip : List Rect} {p : PenS} : ∀ {l : List Rect} {px : List Int}, (∀ v ∈ px, 0 ≤ v ∧ v < 256) → ∀ v ∈ rectsPx w clip p l px, 0 ≤ v ∧ v < 256
  | [], px, h => h
  | r :: l, px, h => rectsPx_bd (l := l) (paintL_bd h (mixF_bd p p.fo))
theorem rectsPx_snoc {w : Nat} {clip : List Rect} {p : PenS} {l : List Rect} {k : Nat} {px : List Int} (h : k < l.length) : rectsPx w clip p (l.take (k + 1)) px = paintL w (fun x y => inL clip x y ∧ inL (bandOf [l[k]!]) x y) (mixF p p.fo) (rectsPx w clip p (l.take k) px) := by
  unfold rectsPx
  rw [take_snoc h, List.foldl_append]; rfl
theorem rects_t {n : Nat} (w h : Nat) (px : List Int) (clip l : List Rect) (p : PenS) (hw : w ≤ 128) (hh : h ≤ 128) (hl : px.length = w * h) (hpb : ∀ v ∈ px, 0 ≤ v ∧ v < 256) (hc : Reg n clip) (hn : n ≤ 490) (hll : l.length ≤ 1048576) (hlx : ∀ r ∈ l, i64 r.X ∧ i64 r.Y) (hok : PenOk p) (hsr : 0 ≤ p.fo ∧ p.fo < 256) (hp : 0 ≤ p.pl ∧ p.pl < 256) :
    CallP Tryz.prog 28 [gT w h px, regT clip, penT p, .islc (encL cR l) l.length none] (gT w h (rectsPx w clip p l px)) := by
  have hs := opL_reg (k := and) rfl hc (Reg.of [⟨0, 0, w, h⟩])
  have hsin : ∀ x y, inL (opL and clip (bandOf [⟨0, 0, (w : Int), (h : Int)⟩])) x y ↔ inL clip x y ∧ 0 ≤ x ∧ x < w ∧ 0 ≤ y ∧ y < h := fun x y => by rw [opL_and hc (Reg.of _), in_plane0 hw hh]
  have hwi : CallP Tryz.prog 68 [regT clip, rectT ⟨0, 0, w, h⟩] (regT (opL and clip (bandOf [⟨0, 0, (w : Int), (h : Int)⟩]))) := within_p hc ⟨0, 0, w, h⟩ ⟨by unfold i64; dsimp only; omega, by unfold i64; dsimp only; omega⟩ (by omega)
  generalize opL and clip (bandOf [⟨0, 0, (w : Int), (h : Int)⟩]) = R at *
  refine CallP.intro2 au_pu au_pu ?_
  refine CallT.intro tab_ok Tryz.func28 rfl (by kernel_rfl) (Nat.le_of_ble_eq_true rfl) ?_
  refine VC.reg tab_ok [4, 5, 6] rfl ?_
  refine VX.newI rfl rfl ?_
  refine VX.newI rfl rfl ?_
  refine VX.newI rfl rfl ?_
  refine VX.new rfl rfl ?_
  refine VX.nil ?_
  refine VC.seq ?_
  refine VC.reg tab_ok [] rfl ?_
  first | refine VX.meek rfl ?_ | refine VX.loadI rfl rfl au_l ?_ | refine VX.loadP rfl rfl rfl au_l ?_
  refine VX.callP0 rfl rfl rfl (check_p p hok) ?_
  refine VX.meek rfl ?_
  refine VX.nil ?_
  refine VC.cond rfl (fun hc0 => ?_) (fun hc0 => ?_)
  · exact absurd hc0 (by decide)
  · (try simp only [au_std] at hc0)
    refine VC.skip ?_
    refine VC.reg tab_ok [] rfl ?_
    first | refine VX.meek rfl ?_ | refine VX.loadI rfl rfl au_l ?_ | refine VX.loadP rfl rfl rfl au_l ?_
    refine VX.callT rfl rfl (CallT.frame (planeOf_t w h px hw hh hl hpb) [] rfl au_ci au_ci ?_)
    rintro _ _ ⟨rfl, rfl⟩
    refine frK au_co au_co ?_
    refine VX.meek rfl ?_
    refine VX.nil ?_
    refine VC.reg tab_ok [] rfl ?_
    refine VX.meek rfl ?_
    first | refine VX.meek rfl ?_ | refine VX.loadI rfl rfl au_l ?_ | refine VX.loadP rfl rfl rfl au_l ?_
    refine VX.meek rfl ?_
    first | refine VX.meek rfl ?_ | refine VX.loadI rfl rfl au_l ?_ | refine VX.loadP rfl rfl rfl au_l ?_
    refine VX.callT rfl rfl (CallT.frame (painter_t w h px p p.fo (encL cU px)) [1] rfl au_ci au_ci ?_)
    rintro _ _ ⟨rfl, rfl⟩
    refine frK au_co au_co ?_
    refine VX.meek rfl ?_
    refine VX.nil ?_
    refine VC.drwAll tab_ok [] (by kernel_rfl) rfl ([(11, .ptr 2 0), (9, plT 1 w h px), (10, .clo 134 [] [.iptr [plT 1 w h px] 0, .iptr (penC p) 0, .iptr [U8 p.fo] 0])]) ([.c [I64 0, I64 0, NIL], .c (encL cU px), .c [.islc (encL cR R) R.length none]]) [3, 8] rfl ?_ ?_
    · refine AnyV.more [0, 1, 4] (by kernel_rfl) (by simp) ?_
      refine allI_cons ?_ ?_
      · refine anyV_op rfl ?_
        first | refine VX.meek rfl ?_ | refine VX.loadI rfl rfl au_l ?_ | refine VX.loadP rfl rfl rfl au_l ?_
        refine VX.nil ?_
        refine AnyV.more [1, 4] (by kernel_rfl) (by simp) ?_
        refine allI_cons ?_ ?_
        · refine anyV_op rfl ?_
          refine VX.meek rfl ?_
          refine VX.nil ?_
          refine AnyV.more [2, 4] (by kernel_rfl) (by simp) ?_
          refine allI_cons ?_ ?_
          · refine anyV_op rfl ?_
            refine VX.callT rfl rfl (CallT.frame (prect_t w h px (encL cU px)) [1] rfl au_ci au_ci ?_)
            rintro _ _ ⟨rfl, rfl⟩
            refine frK au_co au_co ?_
            refine VX.nil ?_
            refine AnyV.more [3, 4] (by kernel_rfl) (by simp) ?_
            refine allI_cons ?_ ?_
            · refine anyV_op rfl ?_
              refine VX.callP0 rfl rfl rfl (hwi) ?_
              refine VX.nil ?_
              refine AnyV.more [4] (by kernel_rfl) (by simp) ?_
              refine allI_cons ?_ ?_
              · refine anyV_op rfl ?_
                refine VX.new rfl rfl ?_
                refine VX.nil ?_
                refine AnyV.more [5] (by kernel_rfl) (by simp) ?_
                refine allI_cons ?_ ?_
                · refine anyV_op rfl ?_
                  refine VX.store rfl rfl rfl rfl rfl au_sR rfl ?_
                  refine VX.nil ?_
                  refine AnyV.fin (by kernel_rfl) ?_
                  first | (refine ⟨[some 0, some 1, some 2], rfl, by first | trivial | decide, rfl, ?_, ?_⟩ <;> (repeat' first | exact trivial | exact CvB_n | exact CvB_d | refine CvE_app ?_ ?_ | refine CvE_cons rfl ?_ ?_ | refine CvH_cons ?_ ?_ | refine CvB_c rfl ?_ | fail) <;> first | exact au_v | (first | exact CvL.cons (Cv.pure (encL_pure cR _)) CvL.nil | exact Cv.iptr (cv_pl (Cv.pure (encL_pure cU _)) (Cv.slc rfl (.inl rfl))) | exact Cv.clo CvL.nil (cv_caps rfl (penC_pure p _)))) | (refine ⟨[some 0, some 1, some 3], rfl, by first | trivial | decide, rfl, ?_, ?_⟩ <;> (repeat' first | exact trivial | exact CvB_n | exact CvB_d | refine CvE_app ?_ ?_ | refine CvE_cons rfl ?_ ?_ | refine CvH_cons ?_ ?_ | refine CvB_c rfl ?_ | fail) <;> first | exact au_v | (first | exact CvL.cons (Cv.pure (encL_pure cR _)) CvL.nil | exact Cv.iptr (cv_pl (Cv.pure (encL_pure cU _)) (Cv.slc rfl (.inl rfl))) | exact Cv.clo CvL.nil (cv_caps rfl (penC_pure p _))))
                exact trivial
              exact trivial
            refine allI_cons ?_ ?_
            · refine anyV_op rfl ?_
              refine VX.new rfl rfl ?_
              refine VX.nil ?_
              refine AnyV.more [3] (by kernel_rfl) (by simp) ?_
              refine allI_cons ?_ ?_
              · refine anyV_op rfl ?_
                refine VX.callP0 rfl rfl rfl (hwi) ?_
                refine VX.nil ?_
                refine AnyV.more [5] (by kernel_rfl) (by simp) ?_
                refine allI_cons ?_ ?_
                · refine anyV_op rfl ?_
                  refine VX.store rfl rfl rfl rfl rfl au_sR rfl ?_
                  refine VX.nil ?_
                  refine AnyV.fin (by kernel_rfl) ?_
                  first | (refine ⟨[some 0, some 1, some 2], rfl, by first | trivial | decide, rfl, ?_, ?_⟩ <;> (repeat' first | exact trivial | exact CvB_n | exact CvB_d | refine CvE_app ?_ ?_ | refine CvE_cons rfl ?_ ?_ | refine CvH_cons ?_ ?_ | refine CvB_c rfl ?_ | fail) <;> first | exact au_v | (first | exact CvL.cons (Cv.pure (encL_pure cR _)) CvL.nil | exact Cv.iptr (cv_pl (Cv.pure (encL_pure cU _)) (Cv.slc rfl (.inl rfl))) | exact Cv.clo CvL.nil (cv_caps rfl (penC_pure p _)))) | (refine ⟨[some 0, some 1, some 3], rfl, by first | trivial | decide, rfl, ?_, ?_⟩ <;> (repeat' first | exact trivial | exact CvB_n | exact CvB_d | refine CvE_app ?_ ?_ | refine CvE_cons rfl ?_ ?_ | refine CvH_cons ?_ ?_ | refine CvB_c rfl ?_ | fail) <;> first | exact au_v | (first | exact CvL.cons (Cv.pure (encL_pure cR _)) CvL.nil | exact Cv.iptr (cv_pl (Cv.pure (encL_pure cU _)) (Cv.slc rfl (.inl rfl))) | exact Cv.clo CvL.nil (cv_caps rfl (penC_pure p _))))
                exact trivial
              exact trivial
            exact trivial
          refine allI_cons ?_ ?_
          · refine anyV_op rfl ?_
            refine VX.new rfl rfl ?_
            refine VX.nil ?_
            refine AnyV.more [2] (by kernel_rfl) (by simp) ?_
            refine allI_cons ?_ ?_
            · refine anyV_op rfl ?_
              refine VX.callT rfl rfl (CallT.frame (prect_t w h px (encL cU px)) [1] rfl au_ci au_ci ?_)
              rintro _ _ ⟨rfl, rfl⟩
              refine frK au_co au_co ?_
              refine VX.nil ?_
              refine AnyV.more [3] (by kernel_rfl) (by simp) ?_
              refine allI_cons ?_ ?_
              · refine anyV_op rfl ?_
                refine VX.callP0 rfl rfl rfl (hwi) ?_
                refine VX.nil ?_
                refine AnyV.more [5] (by kernel_rfl) (by simp) ?_
                refine allI_cons ?_ ?_
                · refine anyV_op rfl ?_
                  refine VX.store rfl rfl rfl rfl rfl au_sR rfl ?_
                  refine VX.nil ?_
                  refine AnyV.fin (by kernel_rfl) ?_
                  first | (refine ⟨[some 0, some 1, some 2], rfl, by first | trivial | decide, rfl, ?_, ?_⟩ <;> (repeat' first | exact trivial | exact CvB_n | exact CvB_d | refine CvE_app ?_ ?_ | refine CvE_cons rfl ?_ ?_ | refine CvH_cons ?_ ?_ | refine CvB_c rfl ?_ | fail) <;> first | exact au_v | (first | exact CvL.cons (Cv.pure (encL_pure cR _)) CvL.nil | exact Cv.iptr (cv_pl (Cv.pure (encL_pure cU _)) (Cv.slc rfl (.inl rfl))) | exact Cv.clo CvL.nil (cv_caps rfl (penC_pure p _)))) | (refine ⟨[some 0, some 1, some 3], rfl, by first | trivial | decide, rfl, ?_, ?_⟩ <;> (repeat' first | exact trivial | exact CvB_n | exact CvB_d | refine CvE_app ?_ ?_ | refine CvE_cons rfl ?_ ?_ | refine CvH_cons ?_ ?_ | refine CvB_c rfl ?_ | fail) <;> first | exact au_v | (first | exact CvL.cons (Cv.pure (encL_pure cR _)) CvL.nil | exact Cv.iptr (cv_pl (Cv.pure (encL_pure cU _)) (Cv.slc rfl (.inl rfl))) | exact Cv.clo CvL.nil (cv_caps rfl (penC_pure p _))))
                exact trivial
              exact trivial
            exact trivial
          exact trivial
        refine allI_cons ?_ ?_
        · refine anyV_op rfl ?_
          refine VX.new rfl rfl ?_
          refine VX.nil ?_
          refine AnyV.more [1] (by kernel_rfl) (by simp) ?_
          refine allI_cons ?_ ?_
          · refine anyV_op rfl ?_
            refine VX.meek rfl ?_
            refine VX.nil ?_
            refine AnyV.more [2] (by kernel_rfl) (by simp) ?_
            refine allI_cons ?_ ?_
            · refine anyV_op rfl ?_
              refine VX.callT rfl rfl (CallT.frame (prect_t w h px (encL cU px)) [1] rfl au_ci au_ci ?_)
              rintro _ _ ⟨rfl, rfl⟩
              refine frK au_co au_co ?_
              refine VX.nil ?_
              refine AnyV.more [3] (by kernel_rfl) (by simp) ?_
              refine allI_cons ?_ ?_
              · refine anyV_op rfl ?_
                refine VX.callP0 rfl rfl rfl (hwi) ?_
                refine VX.nil ?_
                refine AnyV.more [5] (by kernel_rfl) (by simp) ?_
                refine allI_cons ?_ ?_
                · refine anyV_op rfl ?_
                  refine VX.store rfl rfl rfl rfl rfl au_sR rfl ?_
                  refine VX.nil ?_
                  refine AnyV.fin (by kernel_rfl) ?_
                  first | (refine ⟨[some 0, some 1, some 2], rfl, by first | trivial | decide, rfl, ?_, ?_⟩ <;> (repeat' first | exact trivial | exact CvB_n | exact CvB_d | refine CvE_app ?_ ?_ | refine CvE_cons rfl ?_ ?_ | refine CvH_cons ?_ ?_ | refine CvB_c rfl ?_ | fail) <;> first | exact au_v | (first | exact CvL.cons (Cv.pure (encL_pure cR _)) CvL.nil | exact Cv.iptr (cv_pl (Cv.pure (encL_pure cU _)) (Cv.slc rfl (.inl rfl))) | exact Cv.clo CvL.nil (cv_caps rfl (penC_pure p _)))) | (refine ⟨[some 0, some 1, some 3], rfl, by first | trivial | decide, rfl, ?_, ?_⟩ <;> (repeat' first | exact trivial | exact CvB_n | exact CvB_d | refine CvE_app ?_ ?_ | refine CvE_cons rfl ?_ ?_ | refine CvH_cons ?_ ?_ | refine CvB_c rfl ?_ | fail) <;> first | exact au_v | (first | exact CvL.cons (Cv.pure (encL_pure cR _)) CvL.nil | exact Cv.iptr (cv_pl (Cv.pure (encL_pure cU _)) (Cv.slc rfl (.inl rfl))) | exact Cv.clo CvL.nil (cv_caps rfl (penC_pure p _))))
                exact trivial
              exact trivial
            exact trivial
          exact trivial
        exact trivial
      refine allI_cons ?_ ?_
      · refine anyV_op rfl ?_
        refine VX.meek rfl ?_
        refine VX.nil ?_
        refine AnyV.more [0, 2, 4] (by kernel_rfl) (by simp) ?_
        refine allI_cons ?_ ?_
        · refine anyV_op rfl ?_
          first | refine VX.meek rfl ?_ | refine VX.loadI rfl rfl au_l ?_ | refine VX.loadP rfl rfl rfl au_l ?_
          refine VX.nil ?_
          refine AnyV.more [2, 4] (by kernel_rfl) (by simp) ?_
          refine allI_cons ?_ ?_
          · refine anyV_op rfl ?_
            refine VX.callT rfl rfl (CallT.frame (prect_t w h px (encL cU px)) [1] rfl au_ci au_ci ?_)
            rintro _ _ ⟨rfl, rfl⟩
            refine frK au_co au_co ?_
            refine VX.nil ?_
            refine AnyV.more [3, 4] (by kernel_rfl) (by simp) ?_
            refine allI_cons ?_ ?_
            · refine anyV_op rfl ?_
              refine VX.callP0 rfl rfl rfl (hwi) ?_
              refine VX.nil ?_
              refine AnyV.more [4] (by kernel_rfl) (by simp) ?_
              refine allI_cons ?_ ?_
              · refine anyV_op rfl ?_
                refine VX.new rfl rfl ?_
                refine VX.nil ?_
                refine AnyV.more [5] (by kernel_rfl) (by simp) ?_
                refine allI_cons ?_ ?_
                · refine anyV_op rfl ?_
                  refine VX.store rfl rfl rfl rfl rfl au_sR rfl ?_
                  refine VX.nil ?_
                  refine AnyV.fin (by kernel_rfl) ?_
                  first | (refine ⟨[some 0, some 1, some 2], rfl, by first | trivial | decide, rfl, ?_, ?_⟩ <;> (repeat' first | exact trivial | exact CvB_n | exact CvB_d | refine CvE_app ?_ ?_ | refine CvE_cons rfl ?_ ?_ | refine CvH_cons ?_ ?_ | refine CvB_c rfl ?_ | fail) <;> first | exact au_v | (first | exact CvL.cons (Cv.pure (encL_pure cR _)) CvL.nil | exact Cv.iptr (cv_pl (Cv.pure (encL_pure cU _)) (Cv.slc rfl (.inl rfl))) | exact Cv.clo CvL.nil (cv_caps rfl (penC_pure p _)))) | (refine ⟨[some 0, some 1, some 3], rfl, by first | trivial | decide, rfl, ?_, ?_⟩ <;> (repeat' first | exact trivial | exact CvB_n | exact CvB_d | refine CvE_app ?_ ?_ | refine CvE_cons rfl ?_ ?_ | refine CvH_cons ?_ ?_ | refine CvB_c rfl ?_ | fail) <;> first | exact au_v | (first | exact CvL.cons (Cv.pure (encL_pure cR _)) CvL.nil | exact Cv.iptr (cv_pl (Cv.pure (encL_pure cU _)) (Cv.slc rfl (.inl rfl))) | exact Cv.clo CvL.nil (cv_caps rfl (penC_pure p _))))
                exact trivial
              exact trivial
            refine allI_cons ?_ ?_
            · refine anyV_op rfl ?_
              refine VX.new rfl rfl ?_
              refine VX.nil ?_
              refine AnyV.more [3] (by kernel_rfl) (by simp) ?_
              refine allI_cons ?_ ?_
              · refine anyV_op rfl ?_
                refine VX.callP0 rfl rfl rfl (hwi) ?_
                refine VX.nil ?_
                refine AnyV.more [5] (by kernel_rfl) (by simp) ?_
                refine allI_cons ?_ ?_
                · refine anyV_op rfl ?_
                  refine VX.store rfl rfl rfl rfl rfl au_sR rfl ?_
                  refine VX.nil ?_
                  refine AnyV.fin (by kernel_rfl) ?_
                  first | (refine ⟨[some 0, some 1, some 2], rfl, by first | trivial | decide, rfl, ?_, ?_⟩ <;> (repeat' first | exact trivial | exact CvB_n | exact CvB_d | refine CvE_app ?_ ?_ | refine CvE_cons rfl ?_ ?_ | refine CvH_cons ?_ ?_ | refine CvB_c rfl ?_ | fail) <;> first | exact au_v | (first | exact CvL.cons (Cv.pure (encL_pure cR _)) CvL.nil | exact Cv.iptr (cv_pl (Cv.pure (encL_pure cU _)) (Cv.slc rfl (.inl rfl))) | exact Cv.clo CvL.nil (cv_caps rfl (penC_pure p _)))) | (refine ⟨[some 0, some 1, some 3], rfl, by first | trivial | decide, rfl, ?_, ?_⟩ <;> (repeat' first | exact trivial | exact CvB_n | exact CvB_d | refine CvE_app ?_ ?_ | refine CvE_cons rfl ?_ ?_ | refine CvH_cons ?_ ?_ | refine CvB_c rfl ?_ | fail) <;> first | exact au_v | (first | exact CvL.cons (Cv.pure (encL_pure cR _)) CvL.nil | exact Cv.iptr (cv_pl (Cv.pure (encL_pure cU _)) (Cv.slc rfl (.inl rfl))) | exact Cv.clo CvL.nil (cv_caps rfl (penC_pure p _))))
                exact trivial
              exact trivial
            exact trivial
          refine allI_cons ?_ ?_
          · refine anyV_op rfl ?_
            refine VX.new rfl rfl ?_
            refine VX.nil ?_
            refine AnyV.more [2] (by kernel_rfl) (by simp) ?_
            refine allI_cons ?_ ?_
            · refine anyV_op rfl ?_
              refine VX.callT rfl rfl (CallT.frame (prect_t w h px (encL cU px)) [1] rfl au_ci au_ci ?_)
              rintro _ _ ⟨rfl, rfl⟩
              refine frK au_co au_co ?_
              refine VX.nil ?_
              refine AnyV.more [3] (by kernel_rfl) (by simp) ?_
              refine allI_cons ?_ ?_
              · refine anyV_op rfl ?_
                refine VX.callP0 rfl rfl rfl (hwi) ?_
                refine VX.nil ?_
                refine AnyV.more [5] (by kernel_rfl) (by simp) ?_
                refine allI_cons ?_ ?_
                · refine anyV_op rfl ?_
                  refine VX.store rfl rfl rfl rfl rfl au_sR rfl ?_
                  refine VX.nil ?_
                  refine AnyV.fin (by kernel_rfl) ?_
                  first | (refine ⟨[some 0, some 1, some 2], rfl, by first | trivial | decide, rfl, ?_, ?_⟩ <;> (repeat' first | exact trivial | exact CvB_n | exact CvB_d | refine CvE_app ?_ ?_ | refine CvE_cons rfl ?_ ?_ | refine CvH_cons ?_ ?_ | refine CvB_c rfl ?_ | fail) <;> first | exact au_v | (first | exact CvL.cons (Cv.pure (encL_pure cR _)) CvL.nil | exact Cv.iptr (cv_pl (Cv.pure (encL_pure cU _)) (Cv.slc rfl (.inl rfl))) | exact Cv.clo CvL.nil (cv_caps rfl (penC_pure p _)))) | (refine ⟨[some 0, some 1, some 3], rfl, by first | trivial | decide, rfl, ?_, ?_⟩ <;> (repeat' first | exact trivial | exact CvB_n | exact CvB_d | refine CvE_app ?_ ?_ | refine CvE_cons rfl ?_ ?_ | refine CvH_cons ?_ ?_ | refine CvB_c rfl ?_ | fail) <;> first | exact au_v | (first | exact CvL.cons (Cv.pure (encL_pure cR _)) CvL.nil | exact Cv.iptr (cv_pl (Cv.pure (encL_pure cU _)) (Cv.slc rfl (.inl rfl))) | exact Cv.clo CvL.nil (cv_caps rfl (penC_pure p _))))
                exact trivial
              exact trivial
            exact trivial
          exact trivial
        refine allI_cons ?_ ?_
        · refine anyV_op rfl ?_
          refine VX.callT rfl rfl (CallT.frame (prect_t w h px (encL cU px)) [1] rfl au_ci au_ci ?_)
          rintro _ _ ⟨rfl, rfl⟩
          refine frK au_co au_co ?_
          refine VX.nil ?_
          refine AnyV.more [0, 4] (by kernel_rfl) (by simp) ?_
          refine allI_cons ?_ ?_
          · refine anyV_op rfl ?_
            first | refine VX.meek rfl ?_ | refine VX.loadI rfl rfl au_l ?_ | refine VX.loadP rfl rfl rfl au_l ?_
            refine VX.nil ?_
            refine AnyV.more [3, 4] (by kernel_rfl) (by simp) ?_
            refine allI_cons ?_ ?_
            · refine anyV_op rfl ?_
              refine VX.callP0 rfl rfl rfl (hwi) ?_
              refine VX.nil ?_
              refine AnyV.more [4] (by kernel_rfl) (by simp) ?_
              refine allI_cons ?_ ?_
              · refine anyV_op rfl ?_
                refine VX.new rfl rfl ?_
                refine VX.nil ?_
                refine AnyV.more [5] (by kernel_rfl) (by simp) ?_
                refine allI_cons ?_ ?_
                · refine anyV_op rfl ?_
                  refine VX.store rfl rfl rfl rfl rfl au_sR rfl ?_
                  refine VX.nil ?_
                  refine AnyV.fin (by kernel_rfl) ?_
                  first | (refine ⟨[some 0, some 1, some 2], rfl, by first | trivial | decide, rfl, ?_, ?_⟩ <;> (repeat' first | exact trivial | exact CvB_n | exact CvB_d | refine CvE_app ?_ ?_ | refine CvE_cons rfl ?_ ?_ | refine CvH_cons ?_ ?_ | refine CvB_c rfl ?_ | fail) <;> first | exact au_v | (first | exact CvL.cons (Cv.pure (encL_pure cR _)) CvL.nil | exact Cv.iptr (cv_pl (Cv.pure (encL_pure cU _)) (Cv.slc rfl (.inl rfl))) | exact Cv.clo CvL.nil (cv_caps rfl (penC_pure p _)))) | (refine ⟨[some 0, some 1, some 3], rfl, by first | trivial | decide, rfl, ?_, ?_⟩ <;> (repeat' first | exact trivial | exact CvB_n | exact CvB_d | refine CvE_app ?_ ?_ | refine CvE_cons rfl ?_ ?_ | refine CvH_cons ?_ ?_ | refine CvB_c rfl ?_ | fail) <;> first | exact au_v | (first | exact CvL.cons (Cv.pure (encL_pure cR _)) CvL.nil | exact Cv.iptr (cv_pl (Cv.pure (encL_pure cU _)) (Cv.slc rfl (.inl rfl))) | exact Cv.clo CvL.nil (cv_caps rfl (penC_pure p _))))
                exact trivial
              exact trivial
            refine allI_cons ?_ ?_
            · refine anyV_op rfl ?_
              refine VX.new rfl rfl ?_
              refine VX.nil ?_
              refine AnyV.more [3] (by kernel_rfl) (by simp) ?_
              refine allI_cons ?_ ?_
              · refine anyV_op rfl ?_
                refine VX.callP0 rfl rfl rfl (hwi) ?_
                refine VX.nil ?_
                refine AnyV.more [5] (by kernel_rfl) (by simp) ?_
                refine allI_cons ?_ ?_
                · refine anyV_op rfl ?_
                  refine VX.store rfl rfl rfl rfl rfl au_sR rfl ?_
                  refine VX.nil ?_
                  refine AnyV.fin (by kernel_rfl) ?_
                  first | (refine ⟨[some 0, some 1, some 2], rfl, by first | trivial | decide, rfl, ?_, ?_⟩ <;> (repeat' first | exact trivial | exact CvB_n | exact CvB_d | refine CvE_app ?_ ?_ | refine CvE_cons rfl ?_ ?_ | refine CvH_cons ?_ ?_ | refine CvB_c rfl ?_ | fail) <;> first | exact au_v | (first | exact CvL.cons (Cv.pure (encL_pure cR _)) CvL.nil | exact Cv.iptr (cv_pl (Cv.pure (encL_pure cU _)) (Cv.slc rfl (.inl rfl))) | exact Cv.clo CvL.nil (cv_caps rfl (penC_pure p _)))) | (refine ⟨[some 0, some 1, some 3], rfl, by first | trivial | decide, rfl, ?_, ?_⟩ <;> (repeat' first | exact trivial | exact CvB_n | exact CvB_d | refine CvE_app ?_ ?_ | refine CvE_cons rfl ?_ ?_ | refine CvH_cons ?_ ?_ | refine CvB_c rfl ?_ | fail) <;> first | exact au_v | (first | exact CvL.cons (Cv.pure (encL_pure cR _)) CvL.nil | exact Cv.iptr (cv_pl (Cv.pure (encL_pure cU _)) (Cv.slc rfl (.inl rfl))) | exact Cv.clo CvL.nil (cv_caps rfl (penC_pure p _))))
                exact trivial
              exact trivial
            exact trivial
          refine allI_cons ?_ ?_
          · refine anyV_op rfl ?_
            refine VX.new rfl rfl ?_
            refine VX.nil ?_
            refine AnyV.more [0] (by kernel_rfl) (by simp) ?_
            refine allI_cons ?_ ?_
            · refine anyV_op rfl ?_
              first | refine VX.meek rfl ?_ | refine VX.loadI rfl rfl au_l ?_ | refine VX.loadP rfl rfl rfl au_l ?_
              refine VX.nil ?_
              refine AnyV.more [3] (by kernel_rfl) (by simp) ?_
              refine allI_cons ?_ ?_
              · refine anyV_op rfl ?_
                refine VX.callP0 rfl rfl rfl (hwi) ?_
                refine VX.nil ?_
                refine AnyV.more [5] (by kernel_rfl) (by simp) ?_
                refine allI_cons ?_ ?_
                · refine anyV_op rfl ?_
                  refine VX.store rfl rfl rfl rfl rfl au_sR rfl ?_
                  refine VX.nil ?_
                  refine AnyV.fin (by kernel_rfl) ?_
                  first | (refine ⟨[some 0, some 1, some 2], rfl, by first | trivial | decide, rfl, ?_, ?_⟩ <;> (repeat' first | exact trivial | exact CvB_n | exact CvB_d | refine CvE_app ?_ ?_ | refine CvE_cons rfl ?_ ?_ | refine CvH_cons ?_ ?_ | refine CvB_c rfl ?_ | fail) <;> first | exact au_v | (first | exact CvL.cons (Cv.pure (encL_pure cR _)) CvL.nil | exact Cv.iptr (cv_pl (Cv.pure (encL_pure cU _)) (Cv.slc rfl (.inl rfl))) | exact Cv.clo CvL.nil (cv_caps rfl (penC_pure p _)))) | (refine ⟨[some 0, some 1, some 3], rfl, by first | trivial | decide, rfl, ?_, ?_⟩ <;> (repeat' first | exact trivial | exact CvB_n | exact CvB_d | refine CvE_app ?_ ?_ | refine CvE_cons rfl ?_ ?_ | refine CvH_cons ?_ ?_ | refine CvB_c rfl ?_ | fail) <;> first | exact au_v | (first | exact CvL.cons (Cv.pure (encL_pure cR _)) CvL.nil | exact Cv.iptr (cv_pl (Cv.pure (encL_pure cU _)) (Cv.slc rfl (.inl rfl))) | exact Cv.clo CvL.nil (cv_caps rfl (penC_pure p _))))
                exact trivial
              exact trivial
            exact trivial
          exact trivial
        refine allI_cons ?_ ?_
        · refine anyV_op rfl ?_
          refine VX.new rfl rfl ?_
          refine VX.nil ?_
          refine AnyV.more [0, 2] (by kernel_rfl) (by simp) ?_
          refine allI_cons ?_ ?_
          · refine anyV_op rfl ?_
            first | refine VX.meek rfl ?_ | refine VX.loadI rfl rfl au_l ?_ | refine VX.loadP rfl rfl rfl au_l ?_
            refine VX.nil ?_
            refine AnyV.more [2] (by kernel_rfl) (by simp) ?_
            refine allI_cons ?_ ?_
            · refine anyV_op rfl ?_
              refine VX.callT rfl rfl (CallT.frame (prect_t w h px (encL cU px)) [1] rfl au_ci au_ci ?_)
              rintro _ _ ⟨rfl, rfl⟩
              refine frK au_co au_co ?_
              refine VX.nil ?_
              refine AnyV.more [3] (by kernel_rfl) (by simp) ?_
              refine allI_cons ?_ ?_
              · refine anyV_op rfl ?_
                refine VX.callP0 rfl rfl rfl (hwi) ?_
                refine VX.nil ?_
                refine AnyV.more [5] (by kernel_rfl) (by simp) ?_
                refine allI_cons ?_ ?_
                · refine anyV_op rfl ?_
                  refine VX.store rfl rfl rfl rfl rfl au_sR rfl ?_
                  refine VX.nil ?_
                  refine AnyV.fin (by kernel_rfl) ?_
                  first | (refine ⟨[some 0, some 1, some 2], rfl, by first | trivial | decide, rfl, ?_, ?_⟩ <;> (repeat' first | exact trivial | exact CvB_n | exact CvB_d | refine CvE_app ?_ ?_ | refine CvE_cons rfl ?_ ?_ | refine CvH_cons ?_ ?_ | refine CvB_c rfl ?_ | fail) <;> first | exact au_v | (first | exact CvL.cons (Cv.pure (encL_pure cR _)) CvL.nil | exact Cv.iptr (cv_pl (Cv.pure (encL_pure cU _)) (Cv.slc rfl (.inl rfl))) | exact Cv.clo CvL.nil (cv_caps rfl (penC_pure p _)))) | (refine ⟨[some 0, some 1, some 3], rfl, by first | trivial | decide, rfl, ?_, ?_⟩ <;> (repeat' first | exact trivial | exact CvB_n | exact CvB_d | refine CvE_app ?_ ?_ | refine CvE_cons rfl ?_ ?_ | refine CvH_cons ?_ ?_ | refine CvB_c rfl ?_ | fail) <;> first | exact au_v | (first | exact CvL.cons (Cv.pure (encL_pure cR _)) CvL.nil | exact Cv.iptr (cv_pl (Cv.pure (encL_pure cU _)) (Cv.slc rfl (.inl rfl))) | exact Cv.clo CvL.nil (cv_caps rfl (penC_pure p _))))
                exact trivial
              exact trivial
            exact trivial
          refine allI_cons ?_ ?_
          · refine anyV_op rfl ?_
            refine VX.callT rfl rfl (CallT.frame (prect_t w h px (encL cU px)) [1] rfl au_ci au_ci ?_)
            rintro _ _ ⟨rfl, rfl⟩
            refine frK au_co au_co ?_
            refine VX.nil ?_
            refine AnyV.more [0] (by kernel_rfl) (by simp) ?_
            refine allI_cons ?_ ?_
            · refine anyV_op rfl ?_
              first | refine VX.meek rfl ?_ | refine VX.loadI rfl rfl au_l ?_ | refine VX.loadP rfl rfl rfl au_l ?_
              refine VX.nil ?_
              refine AnyV.more [3] (by kernel_rfl) (by simp) ?_
              refine allI_cons ?_ ?_
              · refine anyV_op rfl ?_
                refine VX.callP0 rfl rfl rfl (hwi) ?_
                refine VX.nil ?_
                refine AnyV.more [5] (by kernel_rfl) (by simp) ?_
                refine allI_cons ?_ ?_
                · refine anyV_op rfl ?_
                  refine VX.store rfl rfl rfl rfl rfl au_sR rfl ?_
                  refine VX.nil ?_
                  refine AnyV.fin (by kernel_rfl) ?_
                  first | (refine ⟨[some 0, some 1, some 2], rfl, by first | trivial | decide, rfl, ?_, ?_⟩ <;> (repeat' first | exact trivial | exact CvB_n | exact CvB_d | refine CvE_app ?_ ?_ | refine CvE_cons rfl ?_ ?_ | refine CvH_cons ?_ ?_ | refine CvB_c rfl ?_ | fail) <;> first | exact au_v | (first | exact CvL.cons (Cv.pure (encL_pure cR _)) CvL.nil | exact Cv.iptr (cv_pl (Cv.pure (encL_pure cU _)) (Cv.slc rfl (.inl rfl))) | exact Cv.clo CvL.nil (cv_caps rfl (penC_pure p _)))) | (refine ⟨[some 0, some 1, some 3], rfl, by first | trivial | decide, rfl, ?_, ?_⟩ <;> (repeat' first | exact trivial | exact CvB_n | exact CvB_d | refine CvE_app ?_ ?_ | refine CvE_cons rfl ?_ ?_ | refine CvH_cons ?_ ?_ | refine CvB_c rfl ?_ | fail) <;> first | exact au_v | (first | exact CvL.cons (Cv.pure (encL_pure cR _)) CvL.nil | exact Cv.iptr (cv_pl (Cv.pure (encL_pure cU _)) (Cv.slc rfl (.inl rfl))) | exact Cv.clo CvL.nil (cv_caps rfl (penC_pure p _))))
                exact trivial
              exact trivial
            exact trivial
          exact trivial
        exact trivial
      refine allI_cons ?_ ?_
      · refine anyV_op rfl ?_
        refine VX.new rfl rfl ?_
        refine VX.nil ?_
        refine AnyV.more [0, 1] (by kernel_rfl) (by simp) ?_
        refine allI_cons ?_ ?_
        · refine anyV_op rfl ?_
          first | refine VX.meek rfl ?_ | refine VX.loadI rfl rfl au_l ?_ | refine VX.loadP rfl rfl rfl au_l ?_
          refine VX.nil ?_
          refine AnyV.more [1] (by kernel_rfl) (by simp) ?_
          refine allI_cons ?_ ?_
          · refine anyV_op rfl ?_
            refine VX.meek rfl ?_
            refine VX.nil ?_
            refine AnyV.more [2] (by kernel_rfl) (by simp) ?_
            refine allI_cons ?_ ?_
            · refine anyV_op rfl ?_
              refine VX.callT rfl rfl (CallT.frame (prect_t w h px (encL cU px)) [1] rfl au_ci au_ci ?_)
              rintro _ _ ⟨rfl, rfl⟩
              refine frK au_co au_co ?_
              refine VX.nil ?_
              refine AnyV.more [3] (by kernel_rfl) (by simp) ?_
              refine allI_cons ?_ ?_
              · refine anyV_op rfl ?_
                refine VX.callP0 rfl rfl rfl (hwi) ?_
                refine VX.nil ?_
                refine AnyV.more [5] (by kernel_rfl) (by simp) ?_
                refine allI_cons ?_ ?_
                · refine anyV_op rfl ?_
                  refine VX.store rfl rfl rfl rfl rfl au_sR rfl ?_
                  refine VX.nil ?_
                  refine AnyV.fin (by kernel_rfl) ?_
                  first | (refine ⟨[some 0, some 1, some 2], rfl, by first | trivial | decide, rfl, ?_, ?_⟩ <;> (repeat' first | exact trivial | exact CvB_n | exact CvB_d | refine CvE_app ?_ ?_ | refine CvE_cons rfl ?_ ?_ | refine CvH_cons ?_ ?_ | refine CvB_c rfl ?_ | fail) <;> first | exact au_v | (first | exact CvL.cons (Cv.pure (encL_pure cR _)) CvL.nil | exact Cv.iptr (cv_pl (Cv.pure (encL_pure cU _)) (Cv.slc rfl (.inl rfl))) | exact Cv.clo CvL.nil (cv_caps rfl (penC_pure p _)))) | (refine ⟨[some 0, some 1, some 3], rfl, by first | trivial | decide, rfl, ?_, ?_⟩ <;> (repeat' first | exact trivial | exact CvB_n | exact CvB_d | refine CvE_app ?_ ?_ | refine CvE_cons rfl ?_ ?_ | refine CvH_cons ?_ ?_ | refine CvB_c rfl ?_ | fail) <;> first | exact au_v | (first | exact CvL.cons (Cv.pure (encL_pure cR _)) CvL.nil | exact Cv.iptr (cv_pl (Cv.pure (encL_pure cU _)) (Cv.slc rfl (.inl rfl))) | exact Cv.clo CvL.nil (cv_caps rfl (penC_pure p _))))
                exact trivial
              exact trivial
            exact trivial
          exact trivial
        refine allI_cons ?_ ?_
        · refine anyV_op rfl ?_
          refine VX.meek rfl ?_
          refine VX.nil ?_
          refine AnyV.more [0, 2] (by kernel_rfl) (by simp) ?_
          refine allI_cons ?_ ?_
          · refine anyV_op rfl ?_
            first | refine VX.meek rfl ?_ | refine VX.loadI rfl rfl au_l ?_ | refine VX.loadP rfl rfl rfl au_l ?_
            refine VX.nil ?_
            refine AnyV.more [2] (by kernel_rfl) (by simp) ?_
            refine allI_cons ?_ ?_
            · refine anyV_op rfl ?_
              refine VX.callT rfl rfl (CallT.frame (prect_t w h px (encL cU px)) [1] rfl au_ci au_ci ?_)
              rintro _ _ ⟨rfl, rfl⟩
              refine frK au_co au_co ?_
              refine VX.nil ?_
              refine AnyV.more [3] (by kernel_rfl) (by simp) ?_
              refine allI_cons ?_ ?_
              · refine anyV_op rfl ?_
                refine VX.callP0 rfl rfl rfl (hwi) ?_
                refine VX.nil ?_
                refine AnyV.more [5] (by kernel_rfl) (by simp) ?_
                refine allI_cons ?_ ?_
                · refine anyV_op rfl ?_
                  refine VX.store rfl rfl rfl rfl rfl au_sR rfl ?_
                  refine VX.nil ?_
                  refine AnyV.fin (by kernel_rfl) ?_
                  first | (refine ⟨[some 0, some 1, some 2], rfl, by first | trivial | decide, rfl, ?_, ?_⟩ <;> (repeat' first | exact trivial | exact CvB_n | exact CvB_d | refine CvE_app ?_ ?_ | refine CvE_cons rfl ?_ ?_ | refine CvH_cons ?_ ?_ | refine CvB_c rfl ?_ | fail) <;> first | exact au_v | (first | exact CvL.cons (Cv.pure (encL_pure cR _)) CvL.nil | exact Cv.iptr (cv_pl (Cv.pure (encL_pure cU _)) (Cv.slc rfl (.inl rfl))) | exact Cv.clo CvL.nil (cv_caps rfl (penC_pure p _)))) | (refine ⟨[some 0, some 1, some 3], rfl, by first | trivial | decide, rfl, ?_, ?_⟩ <;> (repeat' first | exact trivial | exact CvB_n | exact CvB_d | refine CvE_app ?_ ?_ | refine CvE_cons rfl ?_ ?_ | refine CvH_cons ?_ ?_ | refine CvB_c rfl ?_ | fail) <;> first | exact au_v | (first | exact CvL.cons (Cv.pure (encL_pure cR _)) CvL.nil | exact Cv.iptr (cv_pl (Cv.pure (encL_pure cU _)) (Cv.slc rfl (.inl rfl))) | exact Cv.clo CvL.nil (cv_caps rfl (penC_pure p _))))
                exact trivial
              exact trivial
            exact trivial
          refine allI_cons ?_ ?_
          · refine anyV_op rfl ?_
            refine VX.callT rfl rfl (CallT.frame (prect_t w h px (encL cU px)) [1] rfl au_ci au_ci ?_)
            rintro _ _ ⟨rfl, rfl⟩
            refine frK au_co au_co ?_
            refine VX.nil ?_
            refine AnyV.more [0] (by kernel_rfl) (by simp) ?_
            refine allI_cons ?_ ?_
            · refine anyV_op rfl ?_
              first | refine VX.meek rfl ?_ | refine VX.loadI rfl rfl au_l ?_ | refine VX.loadP rfl rfl rfl au_l ?_
              refine VX.nil ?_
              refine AnyV.more [3] (by kernel_rfl) (by simp) ?_
              refine allI_cons ?_ ?_
              · refine anyV_op rfl ?_
                refine VX.callP0 rfl rfl rfl (hwi) ?_
                refine VX.nil ?_
                refine AnyV.more [5] (by kernel_rfl) (by simp) ?_
                refine allI_cons ?_ ?_
                · refine anyV_op rfl ?_
                  refine VX.store rfl rfl rfl rfl rfl au_sR rfl ?_
                  refine VX.nil ?_
                  refine AnyV.fin (by kernel_rfl) ?_
                  first | (refine ⟨[some 0, some 1, some 2], rfl, by first | trivial | decide, rfl, ?_, ?_⟩ <;> (repeat' first | exact trivial | exact CvB_n | exact CvB_d | refine CvE_app ?_ ?_ | refine CvE_cons rfl ?_ ?_ | refine CvH_cons ?_ ?_ | refine CvB_c rfl ?_ | fail) <;> first | exact au_v | (first | exact CvL.cons (Cv.pure (encL_pure cR _)) CvL.nil | exact Cv.iptr (cv_pl (Cv.pure (encL_pure cU _)) (Cv.slc rfl (.inl rfl))) | exact Cv.clo CvL.nil (cv_caps rfl (penC_pure p _)))) | (refine ⟨[some 0, some 1, some 3], rfl, by first | trivial | decide, rfl, ?_, ?_⟩ <;> (repeat' first | exact trivial | exact CvB_n | exact CvB_d | refine CvE_app ?_ ?_ | refine CvE_cons rfl ?_ ?_ | refine CvH_cons ?_ ?_ | refine CvB_c rfl ?_ | fail) <;> first | exact au_v | (first | exact CvL.cons (Cv.pure (encL_pure cR _)) CvL.nil | exact Cv.iptr (cv_pl (Cv.pure (encL_pure cU _)) (Cv.slc rfl (.inl rfl))) | exact Cv.clo CvL.nil (cv_caps rfl (penC_pure p _))))
                exact trivial
              exact trivial
            exact trivial
          exact trivial
        exact trivial
      exact trivial
    refine VC.seq ?_
    refine VC.reg tab_ok [] rfl ?_
    iterate 3 refine VX.meek rfl ?_
    refine VX.nil ?_
    refine VC.block ?_
    refine VC.loopS (σ := Nat) (fun k => l.length - k) (fun k => k ≤ l.length) (fun k => [(31, I64 k), (8, .ptr 0 0), (11, .ptr 2 0), (9, plT 1 w h px), (10, .clo 134 [] [.iptr [plT 1 w h px] 0, .iptr (penC p) 0, .iptr [U8 p.fo] 0])]) (fun k => [.c [I64 0, I64 0, NIL], .c (encL cU (rectsPx w clip p (l.take k) px)), .c [.islc (encL cR R) R.length none]]) [29, 30] rfl (0) ?_ ?_ ?_
    · refine ⟨[some 0, some 1, some 2], rfl, by first | trivial | decide, rfl, ?_, ?_⟩ <;> (repeat' first | exact trivial | exact CvB_n | exact CvB_d | refine CvE_app ?_ ?_ | refine CvE_cons rfl ?_ ?_ | refine CvH_cons ?_ ?_ | refine CvB_c rfl ?_ | fail) <;> first | exact au_v | (first | exact CvL.cons (Cv.pure (encL_pure cR _)) CvL.nil | exact Cv.iptr (cv_pl (Cv.pure (encL_pure cU _)) (Cv.slc rfl (.inl rfl))) | exact Cv.clo CvL.nil (cv_caps rfl (penC_pure p _)))
    · (try dsimp only); omega
    rintro k hk
    refine VC.reg tab_ok [] rfl ?_
    refine VX.meek rfl ?_
    refine VX.nil ?_
    refine VC.seq ?_
    refine VC.cond rfl (fun hc1 => ?_) (fun hc1 => ?_)
    · (try simp only [au_std] at hc1); have hkl : k < l.length := (by omega); have hlk := hlx l[k]! (List.mem_iff_getElem?.2 ⟨k, getE hkl⟩); have hsl := rectsPx_len w clip p (l.take k) px; have hsb := rectsPx_bd (w := w) (clip := clip) (p := p) (l := l.take k) hpb
      have hr := opL_reg (k := and) rfl hs (Reg.of [l[k]!])
      have hlen : (opL and R (bandOf [l[k]!])).length ≤ 1048576 := Nat.le_trans hr.len (Nat.le_trans (Nat.mul_le_mul (by simp; omega) (by simp; omega)) (show 500 * 500 ≤ 1048576 by decide))
      have hins : ∀ x y, inL (opL and R (bandOf [l[k]!])) x y → 0 ≤ x ∧ x < w ∧ 0 ≤ y ∧ y < h := fun x y hi => ((hsin x y).1 (opL_sub2 hs (Reg.of _) hi).1).2
      have hst : paintL w (inL (opL and R (bandOf [l[k]!]))) (mixF p p.fo) (rectsPx w clip p (l.take k) px) = rectsPx w clip p (l.take (k + 1)) px := (by
        rw [rectsPx_snoc hkl]
        exact paint_congr (by rw [hsl, hl]) (fun a b h1 h2 h3 h4 => by rw [opL_and hs (Reg.of _), hsin]; simp [h1, h2, h3, h4]) (fun _ _ _ _ _ _ _ => rfl))
      refine VC.skip ?_
      refine VC.seq ?_
      refine VC.block ?_
      refine VC.reg tab_ok [] rfl ?_
      first | refine VX.idxI rfl rfl rfl rfl rfl rfl (by omega) ?_ | refine VX.idxO0 rfl rfl rfl rfl rfl rfl rfl (by omega) ?_ | refine VX.idxO0 rfl rfl rfl rfl rfl rfl au_z (by omega) ?_ | refine VX.idxO rfl rfl rfl rfl rfl rfl rfl (by omega) ?_ | refine VX.idxI rfl rfl rfl rfl rfl au_z (by omega) ?_ | refine VX.idxO rfl rfl rfl rfl rfl rfl au_z (by omega) ?_ | refine VX.meek rfl ?_
      first | refine VX.meek rfl ?_ | refine VX.loadI rfl rfl au_l ?_ | refine VX.loadP rfl rfl rfl au_l ?_
      refine VX.new rfl rfl ?_
      refine VX.store rfl rfl rfl rfl rfl au_sR rfl ?_
      refine VX.nil ?_
      refine VC.regN tab_ok [] rfl ?_
      first | refine VX.meek rfl ?_ | refine VX.loadI rfl rfl au_l ?_ | refine VX.loadP rfl rfl rfl au_l ?_
      first | refine VX.meek rfl ?_ | refine VX.loadI rfl rfl au_l ?_ | refine VX.loadP rfl rfl rfl au_l ?_
      refine VX.callP0 rfl rfl rfl (within_p hs l[k]! hlk (by simp; omega)) ?_
      refine VX.meek rfl ?_
      refine VX.callT rfl rfl (CallT.frame (each_t w h px (rectsPx w clip p (l.take k) px) (opL and R (bandOf [l[k]!])) _ _ (mixF p p.fo) (penC_pure p p.fo) hw hh (by rw [hsl, hl]) hr.1 hr.2 hlen hins hsb (mixF_bd p p.fo) (brush_t w h px p p.fo hw hh hl hsr hp)) [1] rfl au_ci au_ci ?_)
      rintro _ _ ⟨rfl, rfl⟩
      refine frK au_co au_co ?_
      refine VX.nil ?_
      refine VC.regN tab_ok [] rfl ?_
      first | refine VX.add rfl rfl (by omega) ?_ | refine VX.meek rfl ?_
      refine VX.meek rfl ?_
      refine VX.nil ?_
      refine ⟨k + 1, by (try dsimp only); omega, ?_, (by refine ⟨[some 0, some 1, some 2], rfl, by first | trivial | decide, rfl, ?_, ?_⟩ <;> (repeat' first | exact trivial | exact CvB_n | exact CvB_d | refine CvE_app ?_ ?_ | refine CvE_cons rfl ?_ ?_ | refine CvH_cons ?_ ?_ | refine CvB_c rfl ?_ | fail) <;> first | exact au_v | (first | exact CvL.cons (Cv.pure (encL_pure cR _)) CvL.nil | exact Cv.iptr (cv_pl (Cv.pure (encL_pure cU _)) (Cv.slc rfl (.inl rfl))) | exact Cv.clo CvL.nil (cv_caps rfl (penC_pure p _)) | exact CvL.eq (congrArg (encL cU) hst) (encL_pure cU _)))⟩
      (try dsimp only); omega
    · (try simp only [au_std] at hc1); obtain rfl : k = l.length := (by omega); rw [List.take_length]
      refine VC.view ([(9, .iptr (plC w h px (.islc (encL cU (rectsPx w clip p l px)) px.length none)) 0), (8, .ptr 0 0)]) ([.c [I64 0, I64 0, NIL]]) [] rfl (by refine ⟨[some 0], rfl, by first | trivial | decide, rfl, ?_, ?_⟩ <;> (repeat' first | exact trivial | exact CvB_n | exact CvB_d | refine CvE_app ?_ ?_ | refine CvE_cons rfl ?_ ?_ | refine CvH_cons ?_ ?_ | refine CvB_c rfl ?_ | fail) <;> first | exact au_v | (first | exact CvL.pure rfl | exact Cv.iptr (cv_pl (Cv.pure (encL_pure cU _)) (Cv.fslc0 ⟨rfl, by simp⟩ (CvL.pure (encL_pure cU _)))))) ?_
      refine VC.exit ?_
      refine VC.reg tab_ok [] rfl ?_
      refine VX.meek rfl ?_
      refine VX.callP0 rfl rfl rfl (pgrid_n w h px (rectsPx w clip p l px) px.length (rectsPx_len w clip p l px) hw hh hl (by rw [rectsPx_len, hl]) hpb (rectsPx_bd hpb)) ?_
      refine VX.store rfl rfl rfl rfl rfl au_sR rfl ?_
      refine VX.nil ?_
      refine VC.ret ?_
      refine ⟨trivial, _, rfl, Cv.agg (cv_g (Cv.pure (encL_pure cU _)))⟩
end
section
open Go.RowKit Go.Sort
set_option maxRecDepth 10000
def cP : Cd (Int × Int) := ⟨2, fun q => [I64 q.1, I64 q.2], fun _ => rfl, fun _ => rfl, fun _ => rfl, by decide⟩
theorem cP_sz : cP.sz = 2 := rfl
theorem au_sP {p : Prop} (h : p := by first | rfl | exact Nat.le_of_ble_eq_true rfl | omega | (simp only [encL_len, List.length_append, List.length_cons, List.length_nil, List.length_replicate, Nat.zero_add, cI_sz, cU_sz, cR_sz, cLR_sz, cP_sz]; omega) | (simp [encL_len, cI_sz, cU_sz, cR_sz, cLR_sz, cP_sz]; done) | (simp [encL_len, cI_sz, cU_sz, cR_sz, cLR_sz, cP_sz]; omega)) : p := h
end
section
open Go.RowKit Go.Sort
set_option maxRecDepth 10000
set_option maxHeartbeats 4000000
theorem rest_eq (a n : Int) (hn : 0 < n) : (a.tmod n + n).tmod n = a % n := by
  have h1 : -n < a.tmod n := by have := Int.lt_tmod_of_pos a hn; omega
  rw [Int.tmod_eq_emod_of_nonneg (by omega), Int.add_emod_right]
  have h2 : a.tmod n = a + n * (-(a.tdiv n)) := by have := Int.mul_tdiv_add_tmod a n; rw [Int.mul_neg]; omega
  rw [h2, Int.add_mul_emod_self_left]
section
variable {q : Bool} {P : Program} {tab : Tab} {im : List Nat} {ds : List (Option Nat)} {l : List Oper} {E : Env} {H : Hp} {K : Env → Hp → Prop} {d : Nat} {ty : TypeId} {pos : String} {after : Array Edge}
theorem VX.quo {x y : Operand} {t t2 : Nat} {a c : Int} (hx : E.opd x = some (I64 a)) (hy : E.opd y = some (I64 c)) (ha : 0 ≤ a) (ha2 : a ≤ 9000000000000000000) (hc : 0 < c) (k : VX q P tab im ds l ((d, I64 (a / c)) :: E) H K) : VX q P tab im ds (⟨some d, .binOp .quo t x y t2, ty, pos, after, none⟩ :: l) E H K := by
  refine VX.meek (t := I64 (a / c)) ?_ k
  have h1 : a / c ≤ a := Int.ediv_le_self c ha
  have h2 : 0 ≤ a / c := Int.ediv_nonneg ha (by omega)
  have hc' : ¬ c = 0 := by omega
  simp only [opM, hx, hy, mBin, binInt]
  rw [if_neg hc', Int.tdiv_eq_ediv_of_nonneg ha, wrap_in (by omega)]
  rfl
theorem VX.rem {x y : Operand} {t t2 : Nat} {a c : Int} (hx : E.opd x = some (I64 a)) (hy : E.opd y = some (I64 c)) (ha : 0 ≤ a) (hc : 0 < c) (k : VX q P tab im ds l ((d, I64 (a % c)) :: E) H K) : VX q P tab im ds (⟨some d, .binOp .rem t x y t2, ty, pos, after, none⟩ :: l) E H K := by
  refine VX.meek (t := I64 (a % c)) ?_ k
  have hc' : ¬ c = 0 := by omega
  simp only [opM, hx, hy, mBin, binInt]
  rw [if_neg hc', Int.tmod_eq_emod_of_nonneg ha]
  rfl
theorem VX.rem0 {x y : Operand} {t t2 : Nat} {a c : Int} (hx : E.opd x = some (I64 a)) (hy : E.opd y = some (I64 c)) (hc : c ≠ 0) (k : VX q P tab im ds l ((d, I64 (a.tmod c)) :: E) H K) : VX q P tab im ds (⟨some d, .binOp .rem t x y t2, ty, pos, after, none⟩ :: l) E H K := by
  refine VX.meek (t := I64 (a.tmod c)) ?_ k
  simp only [opM, hx, hy, mBin, binInt]
  rw [if_neg hc]
  rfl
end
theorem rest_p (a n : Int) (hn : 0 < n ∧ n ≤ 128) : CallP Tryz.prog 73 [I64 a, I64 n] (I64 (a % n)) := by
  have hr := rest_eq a n hn.1
  have h1 : -n < a.tmod n := by have := Int.lt_tmod_of_pos a hn.1; omega
  have h2 : a.tmod n < n := Int.tmod_lt_of_pos a hn.1
  rw [← hr]
  refine CallP.intro2 au_pu au_pu ?_
  refine CallT.intro tab_ok Tryz.func73 rfl (by kernel_rfl) (Nat.le_of_ble_eq_true rfl) ?_
  refine VC.reg tab_ok [] rfl ?_
  refine VX.meek rfl ?_
  refine VX.nil ?_
  refine VC.reg tab_ok [] rfl ?_
  iterate 2 refine VX.meek rfl ?_
  refine VX.rem0 rfl rfl (by omega) ?_
  refine VX.meek rfl ?_
  first | refine VX.add rfl rfl (by omega) ?_ | refine VX.meek rfl ?_
  refine VX.meek rfl ?_
  refine VX.rem0 rfl rfl (by omega) ?_
  refine VX.meek rfl ?_
  refine VX.nil ?_
  refine VC.ret ?_
  exact ⟨trivial, _, rfl, Cv.eq (by first | rfl | (simp [*]; done)) rfl⟩
def coordB (n : Int) : Bool := decide (-1048576 ≤ n) && decide (n ≤ 1048576)
theorem coord_p (n : Int) : CallP Tryz.prog 65 [I64 n] (BL (coordB n)) := by
  refine CallP.intro2 au_pu au_pu ?_
  refine CallT.intro tab_ok Tryz.func65 rfl (by kernel_rfl) (Nat.le_of_ble_eq_true rfl) ?_
  refine VC.reg tab_ok [] rfl ?_
  refine VX.meek rfl ?_
  refine VX.nil ?_
  refine VC.reg tab_ok [] rfl ?_
  iterate 3 refine VX.meek rfl ?_
  refine' VX.merge (d := 8) [_, _, _] rfl ?_ rfl ?_
  rotate_left
  · refine VX.guard rfl rfl (fun hb1_2 => ?_) (fun hb1_2 => ?_)
    · have ghb1_2 := hb1_2
      try simp only [au_std, Bool.not_true, Bool.not_false] at ghb1_2
      refine VX.meek rfl ?_
      refine VX.guardT rfl rfl hb1_2 ?_
      refine VX.meek rfl ?_
      refine VX.pickA rfl (fun _ => rfl) ?_
      exact VX.nil ⟨rfl, rfl⟩
    · refine VX.guardF rfl rfl hb1_2 ?_
      exact VX.pickA rfl (fun h => absurd (h.symm.trans hb1_2) (by decide)) (VX.nil ⟨rfl, rfl⟩)
  refine VX.meek rfl ?_
  refine VX.nil ?_
  refine VC.ret ?_
  exact ⟨trivial, _, rfl, Cv.eq (by first | rfl | (simp [*]; done)) rfl⟩
abbrev plP (w h : Nat) (px : List Int) : T := .iptr (plC w h px (.islc (encL cU px) px.length none)) 0
theorem plC_pure (w h : Nat) (px : List Int) : T.pureL (plC w h px (.islc (encL cU px) px.length none)) = true := by simp only [T.pureL, T.pure, encL_pure]; rfl
theorem planeOf_p (w h : Nat) (px : List Int) (hw : w ≤ 128) (hh : h ≤ 128) (hl : px.length = w * h) (hb : ∀ v ∈ px, 0 ≤ v ∧ v < 256) : CallP Tryz.prog 66 [gT w h px] (plP w h px) :=
  CallP.intro2 (by simp only [T.pureL, T.pure, encL_pure]; rfl) (plC_pure w h px) ((planeOf_t w h px hw hh hl hb).mono fun t H' ⟨h1, h2⟩ => by
    subst h1 h2; exact Cv.iptr (cv_pl (Cv.pure (encL_pure cU _)) (Cv.fslc0 ⟨rfl, by simp⟩ (CvL.pure (encL_pure cU _)))))
def tileF (tw th : Nat) (tpx : List Int) (x y : Int) : Int → Int → Int → Int := fun a b _ => tpx[(((b - y) % (th : Int)) * tw + (a - x) % (tw : Int)).toNat]!
theorem tile1_t (w h tw th : Nat) (px s tpx : List Int) (x y a b : Int) (hw : w ≤ 128) (hh : h ≤ 128) (hl : px.length = w * h) (hs : s.length = w * h) (htw : 1 ≤ tw ∧ tw ≤ 128) (hth : 1 ≤ th ∧ th ≤ 128) (htl : tpx.length = tw * th) (hx : -1048576 ≤ x ∧ x ≤ 1048576) (hy : -1048576 ≤ y ∧ y ≤ 1048576) (ha : 0 ≤ a) (ha2 : a < w) (hb : 0 ≤ b) (hb2 : b < h) :
    CallT Tryz.prog 70 ([] ++ [I64 a, I64 b] ++ (.iptr [plT 0 w h px] 0 :: [.iptr [plP tw th tpx] 0, .iptr [I64 x] 0, .iptr [I64 y] 0])) [.c (encL cU s)] (fun t H' => t = .tup [] ∧ H' = [.c (encL cU (s.set (b * w + a).toNat (tileF tw th tpx x y a b s[(b * w + a).toNat]!)))]) := by
  have hm1 := Int.emod_nonneg (a - x) (show (tw : Int) ≠ 0 by omega)
  have hm2 := Int.emod_lt_of_pos (a - x) (show (0 : Int) < tw by omega)
  have hm3 := Int.emod_nonneg (b - y) (show (th : Int) ≠ 0 by omega)
  have hm4 := Int.emod_lt_of_pos (b - y) (show (0 : Int) < th by omega)
  have hwas : CallP Tryz.prog 72 [plP tw th tpx, I64 ((a - x) % (tw : Int)), I64 ((b - y) % (th : Int))] (U8 (tileF tw th tpx x y a b s[(b * w + a).toNat]!)) :=
    CallP.intro2 (by simp only [T.pureL, T.pure, encL_pure]; rfl) rfl ((was_t tw th tpx (.islc (encL cU tpx) tpx.length none) [] _ _ htw.2 hth.2 htl hm1 hm2 hm3 hm4).mono fun t H' ⟨h1, h2⟩ => by subst h1; exact Cv.eq rfl rfl)
  refine CallT.intro tab_ok Tryz.func70 rfl (by kernel_rfl) (Nat.le_of_ble_eq_true rfl) ?_
  refine VC.drwN tab_ok [] [_, _, _, _, _, _, _, _, _, _, _, _, _, _, _, _, _, _, _, _, _] rfl (by kernel_rfl) (by kernel_rfl) ?_
  first | refine VX.meek rfl ?_ | refine VX.loadI rfl rfl au_l ?_ | refine VX.loadP rfl rfl rfl au_l ?_
  iterate 2 refine VX.meek rfl ?_
  first | refine VX.meek rfl ?_ | refine VX.loadI rfl rfl au_l ?_ | refine VX.loadP rfl rfl rfl au_l ?_
  refine VX.meek rfl ?_
  first | refine VX.meek rfl ?_ | refine VX.loadI rfl rfl au_l ?_ | refine VX.loadP rfl rfl rfl au_l ?_
  first | refine VX.sub rfl rfl (by omega) ?_ | refine VX.meek rfl ?_
  first | refine VX.meek rfl ?_ | refine VX.loadI rfl rfl au_l ?_ | refine VX.loadP rfl rfl rfl au_l ?_
  iterate 2 refine VX.meek rfl ?_
  first | refine VX.meek rfl ?_ | refine VX.loadI rfl rfl au_l ?_ | refine VX.loadP rfl rfl rfl au_l ?_
  refine VX.callP0 rfl rfl rfl (rest_p (a - x) tw ⟨by omega, by omega⟩) ?_
  refine VX.meek rfl ?_
  first | refine VX.meek rfl ?_ | refine VX.loadI rfl rfl au_l ?_ | refine VX.loadP rfl rfl rfl au_l ?_
  first | refine VX.sub rfl rfl (by omega) ?_ | refine VX.meek rfl ?_
  first | refine VX.meek rfl ?_ | refine VX.loadI rfl rfl au_l ?_ | refine VX.loadP rfl rfl rfl au_l ?_
  iterate 2 refine VX.meek rfl ?_
  first | refine VX.meek rfl ?_ | refine VX.loadI rfl rfl au_l ?_ | refine VX.loadP rfl rfl rfl au_l ?_
  refine VX.callP0 rfl rfl rfl (rest_p (b - y) th ⟨by omega, by omega⟩) ?_
  refine VX.callP0 rfl rfl rfl (hwas) ?_
  refine VX.nil ?_
  refine VX.callT rfl rfl (CallT.frame (set_t w h px s a b _ hw hh hl hs ha ha2 hb hb2) [0] rfl au_ci au_ci ?_)
  rintro _ _ ⟨rfl, rfl⟩
  refine frK au_co au_co ?_
  refine VX.nil ?_
  exact ⟨trivial, _, rfl, rfl, rfl⟩
theorem reg_pure (l : List Rect) : T.pureL [.islc (encL cR l) l.length none] = true := by simp only [T.pureL, T.pure, encL_pure, Bool.and_self]
theorem plP_pure (w h : Nat) (px : List Int) : T.pureL [plP w h px] = true := by simp only [T.pureL, T.pure, encL_pure]; rfl
theorem tile_leaf {lb : Nat} {E : Env} {H : Hp} {w h tw th : Nat} {px tpx : List Int} {clip what : List Rect} {x y : Int} (a b c : Nat) (hlb : lbOk lb 0 [some 0, some c])
    (h6 : E.get 6 = some (.iptr [I64 w, I64 h, .islc (encL cU px) px.length none] 0)) (h7 : E.get 7 = some (.iptr [.islc (encL cR clip) clip.length none] 0)) (h8 : E.get 8 = some (.iptr [.islc (encL cR what) what.length none] 0))
    (h10 : E.get 10 = some (.iptr [I64 x] 0)) (h11 : E.get 11 = some (.iptr [I64 y] 0)) (h12 : E.get 12 = some (.ptr 0 0)) (h13 : E.get 13 = some (.ptr a 0)) (h14 : E.get 14 = some (.ptr b 0))
    (k0 : lookH H 0 = some [I64 0, I64 0, NIL]) (ka : lookH H a = some [plT c w h px]) (kb : lookH H b = some [plP tw th tpx]) (kc : lookH H c = some (encL cU px))
    (n0 : (decide (c ≠ 0) && decide (a ≠ 0) && decide (a ≠ c) && decide (b ≠ 0) && decide (b ≠ c)) = true) :
    Conv lb E H ([(6, .iptr [I64 w, I64 h, .islc (encL cU px) px.length none] 0), (7, .iptr [.islc (encL cR clip) clip.length none] 0), (8, .iptr [.islc (encL cR what) what.length none] 0), (10, .iptr [I64 x] 0), (11, .iptr [I64 y] 0), (12, .ptr 0 0), (13, .iptr [plT 1 w h px] 0), (14, .iptr [plP tw th tpx] 0)] ++ []) [.c [I64 0, I64 0, NIL], .c (encL cU px)] := by
  simp only [Bool.and_eq_true, decide_eq_true_eq] at n0
  obtain ⟨⟨⟨⟨m1, m2⟩, m3⟩, m4⟩, m5⟩ := n0
  have hgp : T.pureL [I64 w, I64 h, .islc (encL cU px) px.length none] = true := by simp only [T.pureL, T.pure, encL_pure, Bool.and_self]
  refine ⟨[some 0, some c], by have e : Nat.beq 0 c = false := (by cases c with | zero => exact absurd rfl m1 | succ c => rfl); simp [injB, noneIn, e], hlb, rfl, ?_, ?_⟩
  · refine CvE_cons h6 (Cv.pure hgp) (CvE_cons h7 (Cv.pure (reg_pure clip)) (CvE_cons h8 (Cv.pure (reg_pure what)) (CvE_cons h10 (Cv.pure rfl) (CvE_cons h11 (Cv.pure rfl) (CvE_cons h12 (Cv.ptr rfl) (CvE_cons h13 ?_ (CvE_cons h14 ?_ trivial)))))))
    · exact Cv.fptr ⟨ka, by simp; omega⟩ (CvL.cons (Cv.iptr (cv_pl (Cv.pure (encL_pure cU _)) (Cv.slc rfl (.inl rfl)))) CvL.nil)
    · exact Cv.fptr ⟨kb, by simp; omega⟩ (CvL.pure (plP_pure tw th tpx))
  · refine CvH_cons (CvB_c k0 (CvL.pure rfl)) (CvH_cons (CvB_c kc (CvL.pure (encL_pure cU _))) ?_)
    exact trivial
theorem tileF_bd {tw th : Nat} {tpx : List Int} {x y : Int} (hb : ∀ v ∈ tpx, 0 ≤ v ∧ v < 256) : ∀ a b o, 0 ≤ o ∧ o < 256 → 0 ≤ tileF tw th tpx x y a b o ∧ tileF tw th tpx x y a b o < 256 := fun a b o _ => bang_bd hb _
theorem tile_p {n m : Nat} (w h tw th : Nat) (px tpx : List Int) (clip what : List Rect) (x y : Int) (hw : w ≤ 128) (hh : h ≤ 128) (hl : px.length = w * h) (hpb : ∀ v ∈ px, 0 ≤ v ∧ v < 256) (htw2 : tw ≤ 128) (hth2 : th ≤ 128) (htl : tpx.length = tw * th) (htz : (tw = 0 ∧ th = 0) ∨ (1 ≤ tw ∧ 1 ≤ th)) (htb : ∀ v ∈ tpx, 0 ≤ v ∧ v < 256)
    (hc : Reg n clip) (ht : Reg m what) (hnm : n + m ≤ 498) (hx : coordB x = true) (hy : coordB y = true) :
    CallP Tryz.prog 18 [gT w h px, regT clip, regT what, gT tw th tpx, I64 x, I64 y] (gT w h (if tw = 0 then px else paintL w (fun a b => inL clip a b ∧ inL what a b) (tileF tw th tpx x y) px)) := by
  have hgp : T.pureL [I64 w, I64 h, .islc (encL cU px) px.length none] = true := by simp only [T.pureL, T.pure, encL_pure, Bool.and_self]
  have hm := opL_reg (k := and) rfl hc ht
  have hr := opL_reg (k := and) rfl hm (Reg.of [⟨0, 0, w, h⟩])
  have hlen : (opL and (opL and clip what) (bandOf [⟨0, 0, (w : Int), (h : Int)⟩])).length ≤ 1048576 := Nat.le_trans hr.len (Nat.le_trans (Nat.mul_le_mul (by simp; omega) (by simp; omega)) (show 500 * 500 ≤ 1048576 by decide))
  have hins : ∀ x y, inL (opL and (opL and clip what) (bandOf [⟨0, 0, (w : Int), (h : Int)⟩])) x y → 0 ≤ x ∧ x < w ∧ 0 ≤ y ∧ y < h := fun x y hi => (in_plane0 hw hh x y).1 (opL_sub2 hm (Reg.of _) hi).2
  have hres : paintL w (inL (opL and (opL and clip what) (bandOf [⟨0, 0, (w : Int), (h : Int)⟩]))) (tileF tw th tpx x y) px = paintL w (fun x y => inL clip x y ∧ inL what x y) (tileF tw th tpx x y) px := paint_congr hl (fun a b h1 h2 h3 h4 => by rw [opL_and hm (Reg.of _), opL_and hc ht, in_plane0 hw hh]; simp [h1, h2, h3, h4]) (fun _ _ _ _ _ _ _ => rfl)
  rw [← hres]
  have hwi : CallP Tryz.prog 68 [regT (opL and clip what), rectT ⟨0, 0, w, h⟩] (regT (opL and (opL and clip what) (bandOf [⟨0, 0, (w : Int), (h : Int)⟩]))) := within_p hm ⟨0, 0, w, h⟩ ⟨by unfold i64; dsimp only; omega, by unfold i64; dsimp only; omega⟩ (by omega)
  generalize opL and (opL and clip what) (bandOf [⟨0, 0, (w : Int), (h : Int)⟩]) = R at *
  have hbd := paintL_bd (w := w) (V := inL R) hpb (tileF_bd (tw := tw) (th := th) (x := x) (y := y) htb)
  have hpl := paintL_len w (inL R) (tileF tw th tpx x y) px
  have hx2 : -1048576 ≤ x ∧ x ≤ 1048576 := by unfold coordB at hx; simp at hx; omega
  have hy2 : -1048576 ≤ y ∧ y ≤ 1048576 := by unfold coordB at hy; simp at hy; omega
  have hcs : T.pureL [.iptr [plP tw th tpx] 0, .iptr [I64 x] 0, .iptr [I64 y] 0] = true := by simp only [T.pureL, T.pure, encL_pure]; rfl
  refine CallP.intro2 au_pu au_pu ?_
  refine CallT.intro tab_ok Tryz.func18 rfl (by kernel_rfl) (Nat.le_of_ble_eq_true rfl) ?_
  refine VC.reg tab_ok [6, 7, 8, 9, 10, 11] rfl ?_
  refine VX.newI rfl rfl ?_
  refine VX.newI rfl rfl ?_
  refine VX.newI rfl rfl ?_
  refine VX.newI rfl rfl ?_
  refine VX.newI rfl rfl ?_
  refine VX.newI rfl rfl ?_
  refine VX.new rfl rfl ?_
  refine VX.nil ?_
  refine VC.seq ?_
  refine VC.reg tab_ok [] rfl ?_
  first | refine VX.meek rfl ?_ | refine VX.loadI rfl rfl au_l ?_ | refine VX.loadP rfl rfl rfl au_l ?_
  refine VX.callP0 rfl rfl rfl (coord_p x) ?_
  iterate 2 refine VX.meek rfl ?_
  refine' VX.merge (d := 22) [_, _, _, _] rfl ?_ rfl ?_
  rotate_left
  · refine VX.guard rfl rfl (fun hb1_3 => ?_) (fun hb1_3 => ?_)
    · have ghb1_3 := hb1_3
      try simp only [au_std, Bool.not_true, Bool.not_false] at ghb1_3
      first | refine VX.meek rfl ?_ | refine VX.loadI rfl rfl au_l ?_ | refine VX.loadP rfl rfl rfl au_l ?_
      refine VX.guardT rfl rfl hb1_3 ?_
      refine VX.callP0 rfl rfl rfl (coord_p y) ?_
      refine VX.guardT rfl rfl hb1_3 ?_
      refine VX.meek rfl ?_
      refine VX.pickO rfl (fun _ => rfl) ?_
      exact VX.nil ⟨rfl, rfl⟩
    · refine VX.guardF rfl rfl hb1_3 ?_
      refine VX.guardF rfl rfl hb1_3 ?_
      exact VX.pickO rfl (fun h => absurd (h.symm.trans hb1_3) (by decide)) (VX.nil ⟨rfl, rfl⟩)
  refine VX.nil ?_
  refine VC.cond rfl (fun hc0 => ?_) (fun hc0 => ?_)
  · exact absurd hc0 (by rw [hx, hy]; decide)
  · (try simp only [au_std] at hc0)
    refine VC.skip ?_
    refine VC.drwAll tab_ok [] (by kernel_rfl) rfl ([(6, .iptr [I64 w, I64 h, .islc (encL cU px) px.length none] 0), (7, .iptr [.islc (encL cR clip) clip.length none] 0), (8, .iptr [.islc (encL cR what) what.length none] 0), (10, .iptr [I64 x] 0), (11, .iptr [I64 y] 0), (12, .ptr 0 0), (13, .iptr [plT 1 w h px] 0), (14, .iptr [plP tw th tpx] 0)]) ([.c [I64 0, I64 0, NIL], .c (encL cU px)]) [] rfl ?_ ?_
    · refine AnyV.more [0, 2, 4, 5] (by kernel_rfl) (by simp) ?_
      refine allI_cons ?_ ?_
      · refine anyV_op rfl ?_
        first | refine VX.meek rfl ?_ | refine VX.loadI rfl rfl au_l ?_ | refine VX.loadP rfl rfl rfl au_l ?_
        refine VX.nil ?_
        refine AnyV.more [1, 2, 4, 5] (by kernel_rfl) (by simp) ?_
        refine allI_cons ?_ ?_
        · refine anyV_op rfl ?_
          refine VX.callT rfl rfl (CallT.frame (planeOf_t w h px hw hh hl hpb) [] rfl au_ci au_ci ?_)
          rintro _ _ ⟨rfl, rfl⟩
          refine frK au_co au_co ?_
          refine VX.nil ?_
          refine AnyV.more [2, 4, 5] (by kernel_rfl) (by simp) ?_
          refine allI_cons ?_ ?_
          · refine anyV_op rfl ?_
            first | refine VX.meek rfl ?_ | refine VX.loadI rfl rfl au_l ?_ | refine VX.loadP rfl rfl rfl au_l ?_
            refine VX.nil ?_
            refine AnyV.more [3, 4, 5] (by kernel_rfl) (by simp) ?_
            refine allI_cons ?_ ?_
            · refine anyV_op rfl ?_
              refine VX.callP0 rfl rfl rfl (planeOf_p tw th tpx htw2 hth2 htl htb) ?_
              refine VX.nil ?_
              refine AnyV.more [4, 5] (by kernel_rfl) (by simp) ?_
              refine allI_cons ?_ ?_
              · refine anyV_op rfl ?_
                refine VX.new rfl rfl ?_
                refine VX.nil ?_
                refine AnyV.more [5] (by kernel_rfl) (by simp) ?_
                refine allI_cons ?_ ?_
                · refine anyV_op rfl ?_
                  refine VX.new rfl rfl ?_
                  refine VX.nil ?_
                  refine AnyV.more [6] (by kernel_rfl) (by simp) ?_
                  refine allI_cons ?_ ?_
                  · refine anyV_op rfl ?_
                    refine VX.store rfl rfl rfl rfl rfl au_sR rfl ?_
                    refine VX.nil ?_
                    refine AnyV.more [7] (by kernel_rfl) (by simp) ?_
                    refine allI_cons ?_ ?_
                    · refine anyV_op rfl ?_
                      refine VX.store rfl rfl rfl rfl rfl au_sR rfl ?_
                      refine VX.nil ?_
                      exact AnyV.fin (by kernel_rfl) (tile_leaf 2 3 1 trivial rfl rfl rfl rfl rfl rfl rfl rfl rfl rfl rfl rfl rfl)
                    exact trivial
                  exact trivial
                exact trivial
              refine allI_cons ?_ ?_
              · refine anyV_op rfl ?_
                refine VX.new rfl rfl ?_
                refine VX.nil ?_
                refine AnyV.more [4] (by kernel_rfl) (by simp) ?_
                refine allI_cons ?_ ?_
                · refine anyV_op rfl ?_
                  refine VX.new rfl rfl ?_
                  refine VX.nil ?_
                  refine AnyV.more [6] (by kernel_rfl) (by simp) ?_
                  refine allI_cons ?_ ?_
                  · refine anyV_op rfl ?_
                    refine VX.store rfl rfl rfl rfl rfl au_sR rfl ?_
                    refine VX.nil ?_
                    refine AnyV.more [7] (by kernel_rfl) (by simp) ?_
                    refine allI_cons ?_ ?_
                    · refine anyV_op rfl ?_
                      refine VX.store rfl rfl rfl rfl rfl au_sR rfl ?_
                      refine VX.nil ?_
                      exact AnyV.fin (by kernel_rfl) (tile_leaf 3 2 1 trivial rfl rfl rfl rfl rfl rfl rfl rfl rfl rfl rfl rfl rfl)
                    exact trivial
                  exact trivial
                exact trivial
              exact trivial
            refine allI_cons ?_ ?_
            · refine anyV_op rfl ?_
              refine VX.new rfl rfl ?_
              refine VX.nil ?_
              refine AnyV.more [3, 5] (by kernel_rfl) (by simp) ?_
              refine allI_cons ?_ ?_
              · refine anyV_op rfl ?_
                refine VX.callP0 rfl rfl rfl (planeOf_p tw th tpx htw2 hth2 htl htb) ?_
                refine VX.nil ?_
                refine AnyV.more [5] (by kernel_rfl) (by simp) ?_
                refine allI_cons ?_ ?_
                · refine anyV_op rfl ?_
                  refine VX.new rfl rfl ?_
                  refine VX.nil ?_
                  refine AnyV.more [6] (by kernel_rfl) (by simp) ?_
                  refine allI_cons ?_ ?_
                  · refine anyV_op rfl ?_
                    refine VX.store rfl rfl rfl rfl rfl au_sR rfl ?_
                    refine VX.nil ?_
                    refine AnyV.more [7] (by kernel_rfl) (by simp) ?_
                    refine allI_cons ?_ ?_
                    · refine anyV_op rfl ?_
                      refine VX.store rfl rfl rfl rfl rfl au_sR rfl ?_
                      refine VX.nil ?_
                      exact AnyV.fin (by kernel_rfl) (tile_leaf 2 3 1 trivial rfl rfl rfl rfl rfl rfl rfl rfl rfl rfl rfl rfl rfl)
                    exact trivial
                  exact trivial
                exact trivial
              refine allI_cons ?_ ?_
              · refine anyV_op rfl ?_
                refine VX.new rfl rfl ?_
                refine VX.nil ?_
                refine AnyV.more [3] (by kernel_rfl) (by simp) ?_
                refine allI_cons ?_ ?_
                · refine anyV_op rfl ?_
                  refine VX.callP0 rfl rfl rfl (planeOf_p tw th tpx htw2 hth2 htl htb) ?_
                  refine VX.nil ?_
                  refine AnyV.more [6] (by kernel_rfl) (by simp) ?_
                  refine allI_cons ?_ ?_
                  · refine anyV_op rfl ?_
                    refine VX.store rfl rfl rfl rfl rfl au_sR rfl ?_
                    refine VX.nil ?_
                    refine AnyV.more [7] (by kernel_rfl) (by simp) ?_
                    refine allI_cons ?_ ?_
                    · refine anyV_op rfl ?_
                      refine VX.store rfl rfl rfl rfl rfl au_sR rfl ?_
                      refine VX.nil ?_
                      exact AnyV.fin (by kernel_rfl) (tile_leaf 2 3 1 trivial rfl rfl rfl rfl rfl rfl rfl rfl rfl rfl rfl rfl rfl)
                    exact trivial
                  exact trivial
                exact trivial
              exact trivial
            refine allI_cons ?_ ?_
            · refine anyV_op rfl ?_
              refine VX.new rfl rfl ?_
              refine VX.nil ?_
              refine AnyV.more [3, 4] (by kernel_rfl) (by simp) ?_
              refine allI_cons ?_ ?_
              · refine anyV_op rfl ?_
                refine VX.callP0 rfl rfl rfl (planeOf_p tw th tpx htw2 hth2 htl htb) ?_
                refine VX.nil ?_
                refine AnyV.more [4] (by kernel_rfl) (by simp) ?_
                refine allI_cons ?_ ?_
                · refine anyV_op rfl ?_
                  refine VX.new rfl rfl ?_
                  refine VX.nil ?_
                  refine AnyV.more [6] (by kernel_rfl) (by simp) ?_
                  refine allI_cons ?_ ?_
                  · refine anyV_op rfl ?_
                    refine VX.store rfl rfl rfl rfl rfl au_sR rfl ?_
                    refine VX.nil ?_
                    refine AnyV.more [7] (by kernel_rfl) (by simp) ?_
                    refine allI_cons ?_ ?_
                    · refine anyV_op rfl ?_
                      refine VX.store rfl rfl rfl rfl rfl au_sR rfl ?_
                      refine VX.nil ?_
                      exact AnyV.fin (by kernel_rfl) (tile_leaf 3 2 1 trivial rfl rfl rfl rfl rfl rfl rfl rfl rfl rfl rfl rfl rfl)
                    exact trivial
                  exact trivial
                exact trivial
              refine allI_cons ?_ ?_
              · refine anyV_op rfl ?_
                refine VX.new rfl rfl ?_
                refine VX.nil ?_
                refine AnyV.more [3] (by kernel_rfl) (by simp) ?_
                refine allI_cons ?_ ?_
                · refine anyV_op rfl ?_
                  refine VX.callP0 rfl rfl rfl (planeOf_p tw th tpx htw2 hth2 htl htb) ?_
                  refine VX.nil ?_
                  refine AnyV.more [6] (by kernel_rfl) (by simp) ?_
                  refine allI_cons ?_ ?_
                  · refine anyV_op rfl ?_
                    refine VX.store rfl rfl rfl rfl rfl au_sR rfl ?_
                    refine VX.nil ?_
                    refine AnyV.more [7] (by kernel_rfl) (by simp) ?_
                    refine allI_cons ?_ ?_
                    · refine anyV_op rfl ?_
                      refine VX.store rfl rfl rfl rfl rfl au_sR rfl ?_
                      refine VX.nil ?_
                      exact AnyV.fin (by kernel_rfl) (tile_leaf 3 2 1 trivial rfl rfl rfl rfl rfl rfl rfl rfl rfl rfl rfl rfl rfl)
                    exact trivial
                  exact trivial
                exact trivial
              exact trivial
            exact trivial
          refine allI_cons ?_ ?_
          · refine anyV_op rfl ?_
            refine VX.new rfl rfl ?_
            refine VX.nil ?_
            refine AnyV.more [2, 5] (by kernel_rfl) (by simp) ?_
            refine allI_cons ?_ ?_
            · refine anyV_op rfl ?_
              first | refine VX.meek rfl ?_ | refine VX.loadI rfl rfl au_l ?_ | refine VX.loadP rfl rfl rfl au_l ?_
              refine VX.nil ?_
              refine AnyV.more [3, 5] (by kernel_rfl) (by simp) ?_
              refine allI_cons ?_ ?_
              · refine anyV_op rfl ?_
                refine VX.callP0 rfl rfl rfl (planeOf_p tw th tpx htw2 hth2 htl htb) ?_
                refine VX.nil ?_
                refine AnyV.more [5] (by kernel_rfl) (by simp) ?_
                refine allI_cons ?_ ?_
                · refine anyV_op rfl ?_
                  refine VX.new rfl rfl ?_
                  refine VX.nil ?_
                  refine AnyV.more [6] (by kernel_rfl) (by simp) ?_
                  refine allI_cons ?_ ?_
                  · refine anyV_op rfl ?_
                    refine VX.store rfl rfl rfl rfl rfl au_sR rfl ?_
                    refine VX.nil ?_
                    refine AnyV.more [7] (by kernel_rfl) (by simp) ?_
                    refine allI_cons ?_ ?_
                    · refine anyV_op rfl ?_
                      refine VX.store rfl rfl rfl rfl rfl au_sR rfl ?_
                      refine VX.nil ?_
                      exact AnyV.fin (by kernel_rfl) (tile_leaf 2 3 1 trivial rfl rfl rfl rfl rfl rfl rfl rfl rfl rfl rfl rfl rfl)
                    exact trivial
                  exact trivial
                exact trivial
              refine allI_cons ?_ ?_
              · refine anyV_op rfl ?_
                refine VX.new rfl rfl ?_
                refine VX.nil ?_
                refine AnyV.more [3] (by kernel_rfl) (by simp) ?_
                refine allI_cons ?_ ?_
                · refine anyV_op rfl ?_
                  refine VX.callP0 rfl rfl rfl (planeOf_p tw th tpx htw2 hth2 htl htb) ?_
                  refine VX.nil ?_
                  refine AnyV.more [6] (by kernel_rfl) (by simp) ?_
                  refine allI_cons ?_ ?_
                  · refine anyV_op rfl ?_
                    refine VX.store rfl rfl rfl rfl rfl au_sR rfl ?_
                    refine VX.nil ?_
                    refine AnyV.more [7] (by kernel_rfl) (by simp) ?_
                    refine allI_cons ?_ ?_
                    · refine anyV_op rfl ?_
                      refine VX.store rfl rfl rfl rfl rfl au_sR rfl ?_
                      refine VX.nil ?_
                      exact AnyV.fin (by kernel_rfl) (tile_leaf 2 3 1 trivial rfl rfl rfl rfl rfl rfl rfl rfl rfl rfl rfl rfl rfl)
                    exact trivial
                  exact trivial
                exact trivial
              exact trivial
            refine allI_cons ?_ ?_
            · refine anyV_op rfl ?_
              refine VX.new rfl rfl ?_
              refine VX.nil ?_
              refine AnyV.more [2] (by kernel_rfl) (by simp) ?_
              refine allI_cons ?_ ?_
              · refine anyV_op rfl ?_
                first | refine VX.meek rfl ?_ | refine VX.loadI rfl rfl au_l ?_ | refine VX.loadP rfl rfl rfl au_l ?_
                refine VX.nil ?_
                refine AnyV.more [3] (by kernel_rfl) (by simp) ?_
                refine allI_cons ?_ ?_
                · refine anyV_op rfl ?_
                  refine VX.callP0 rfl rfl rfl (planeOf_p tw th tpx htw2 hth2 htl htb) ?_
                  refine VX.nil ?_
                  refine AnyV.more [6] (by kernel_rfl) (by simp) ?_
                  refine allI_cons ?_ ?_
                  · refine anyV_op rfl ?_
                    refine VX.store rfl rfl rfl rfl rfl au_sR rfl ?_
                    refine VX.nil ?_
                    refine AnyV.more [7] (by kernel_rfl) (by simp) ?_
                    refine allI_cons ?_ ?_
                    · refine anyV_op rfl ?_
                      refine VX.store rfl rfl rfl rfl rfl au_sR rfl ?_
                      refine VX.nil ?_
                      exact AnyV.fin (by kernel_rfl) (tile_leaf 2 3 1 trivial rfl rfl rfl rfl rfl rfl rfl rfl rfl rfl rfl rfl rfl)
                    exact trivial
                  exact trivial
                exact trivial
              exact trivial
            exact trivial
          refine allI_cons ?_ ?_
          · refine anyV_op rfl ?_
            refine VX.new rfl rfl ?_
            refine VX.nil ?_
            refine AnyV.more [2, 4] (by kernel_rfl) (by simp) ?_
            refine allI_cons ?_ ?_
            · refine anyV_op rfl ?_
              first | refine VX.meek rfl ?_ | refine VX.loadI rfl rfl au_l ?_ | refine VX.loadP rfl rfl rfl au_l ?_
              refine VX.nil ?_
              refine AnyV.more [3, 4] (by kernel_rfl) (by simp) ?_
              refine allI_cons ?_ ?_
              · refine anyV_op rfl ?_
                refine VX.callP0 rfl rfl rfl (planeOf_p tw th tpx htw2 hth2 htl htb) ?_
                refine VX.nil ?_
                refine AnyV.more [4] (by kernel_rfl) (by simp) ?_
                refine allI_cons ?_ ?_
                · refine anyV_op rfl ?_
                  refine VX.new rfl rfl ?_
                  refine VX.nil ?_
                  refine AnyV.more [6] (by kernel_rfl) (by simp) ?_
                  refine allI_cons ?_ ?_
                  · refine anyV_op rfl ?_
                    refine VX.store rfl rfl rfl rfl rfl au_sR rfl ?_
                    refine VX.nil ?_
                    refine AnyV.more [7] (by kernel_rfl) (by simp) ?_
                    refine allI_cons ?_ ?_
                    · refine anyV_op rfl ?_
                      refine VX.store rfl rfl rfl rfl rfl au_sR rfl ?_
                      refine VX.nil ?_
                      exact AnyV.fin (by kernel_rfl) (tile_leaf 3 2 1 trivial rfl rfl rfl rfl rfl rfl rfl rfl rfl rfl rfl rfl rfl)
                    exact trivial
                  exact trivial
                exact trivial
              refine allI_cons ?_ ?_
              · refine anyV_op rfl ?_
                refine VX.new rfl rfl ?_
                refine VX.nil ?_
                refine AnyV.more [3] (by kernel_rfl) (by simp) ?_
                refine allI_cons ?_ ?_
                · refine anyV_op rfl ?_
                  refine VX.callP0 rfl rfl rfl (planeOf_p tw th tpx htw2 hth2 htl htb) ?_
                  refine VX.nil ?_
                  refine AnyV.more [6] (by kernel_rfl) (by simp) ?_
                  refine allI_cons ?_ ?_
                  · refine anyV_op rfl ?_
                    refine VX.store rfl rfl rfl rfl rfl au_sR rfl ?_
                    refine VX.nil ?_
                    refine AnyV.more [7] (by kernel_rfl) (by simp) ?_
                    refine allI_cons ?_ ?_
                    · refine anyV_op rfl ?_
                      refine VX.store rfl rfl rfl rfl rfl au_sR rfl ?_
                      refine VX.nil ?_
                      exact AnyV.fin (by kernel_rfl) (tile_leaf 3 2 1 trivial rfl rfl rfl rfl rfl rfl rfl rfl rfl rfl rfl rfl rfl)
                    exact trivial
                  exact trivial
                exact trivial
              exact trivial
            refine allI_cons ?_ ?_
            · refine anyV_op rfl ?_
              refine VX.new rfl rfl ?_
              refine VX.nil ?_
              refine AnyV.more [2] (by kernel_rfl) (by simp) ?_
              refine allI_cons ?_ ?_
              · refine anyV_op rfl ?_
                first | refine VX.meek rfl ?_ | refine VX.loadI rfl rfl au_l ?_ | refine VX.loadP rfl rfl rfl au_l ?_
                refine VX.nil ?_
                refine AnyV.more [3] (by kernel_rfl) (by simp) ?_
                refine allI_cons ?_ ?_
                · refine anyV_op rfl ?_
                  refine VX.callP0 rfl rfl rfl (planeOf_p tw th tpx htw2 hth2 htl htb) ?_
                  refine VX.nil ?_
                  refine AnyV.more [6] (by kernel_rfl) (by simp) ?_
                  refine allI_cons ?_ ?_
                  · refine anyV_op rfl ?_
                    refine VX.store rfl rfl rfl rfl rfl au_sR rfl ?_
                    refine VX.nil ?_
                    refine AnyV.more [7] (by kernel_rfl) (by simp) ?_
                    refine allI_cons ?_ ?_
                    · refine anyV_op rfl ?_
                      refine VX.store rfl rfl rfl rfl rfl au_sR rfl ?_
                      refine VX.nil ?_
                      exact AnyV.fin (by kernel_rfl) (tile_leaf 3 2 1 trivial rfl rfl rfl rfl rfl rfl rfl rfl rfl rfl rfl rfl rfl)
                    exact trivial
                  exact trivial
                exact trivial
              exact trivial
            exact trivial
          exact trivial
        refine allI_cons ?_ ?_
        · refine anyV_op rfl ?_
          first | refine VX.meek rfl ?_ | refine VX.loadI rfl rfl au_l ?_ | refine VX.loadP rfl rfl rfl au_l ?_
          refine VX.nil ?_
          refine AnyV.more [1, 4, 5] (by kernel_rfl) (by simp) ?_
          refine allI_cons ?_ ?_
          · refine anyV_op rfl ?_
            refine VX.callT rfl rfl (CallT.frame (planeOf_t w h px hw hh hl hpb) [] rfl au_ci au_ci ?_)
            rintro _ _ ⟨rfl, rfl⟩
            refine frK au_co au_co ?_
            refine VX.nil ?_
            refine AnyV.more [3, 4, 5] (by kernel_rfl) (by simp) ?_
            refine allI_cons ?_ ?_
            · refine anyV_op rfl ?_
              refine VX.callP0 rfl rfl rfl (planeOf_p tw th tpx htw2 hth2 htl htb) ?_
              refine VX.nil ?_
              refine AnyV.more [4, 5] (by kernel_rfl) (by simp) ?_
              refine allI_cons ?_ ?_
              · refine anyV_op rfl ?_
                refine VX.new rfl rfl ?_
                refine VX.nil ?_
                refine AnyV.more [5] (by kernel_rfl) (by simp) ?_
                refine allI_cons ?_ ?_
                · refine anyV_op rfl ?_
                  refine VX.new rfl rfl ?_
                  refine VX.nil ?_
                  refine AnyV.more [6] (by kernel_rfl) (by simp) ?_
                  refine allI_cons ?_ ?_
                  · refine anyV_op rfl ?_
                    refine VX.store rfl rfl rfl rfl rfl au_sR rfl ?_
                    refine VX.nil ?_
                    refine AnyV.more [7] (by kernel_rfl) (by simp) ?_
                    refine allI_cons ?_ ?_
                    · refine anyV_op rfl ?_
                      refine VX.store rfl rfl rfl rfl rfl au_sR rfl ?_
                      refine VX.nil ?_
                      exact AnyV.fin (by kernel_rfl) (tile_leaf 2 3 1 trivial rfl rfl rfl rfl rfl rfl rfl rfl rfl rfl rfl rfl rfl)
                    exact trivial
                  exact trivial
                exact trivial
              refine allI_cons ?_ ?_
              · refine anyV_op rfl ?_
                refine VX.new rfl rfl ?_
                refine VX.nil ?_
                refine AnyV.more [4] (by kernel_rfl) (by simp) ?_
                refine allI_cons ?_ ?_
                · refine anyV_op rfl ?_
                  refine VX.new rfl rfl ?_
                  refine VX.nil ?_
                  refine AnyV.more [6] (by kernel_rfl) (by simp) ?_
                  refine allI_cons ?_ ?_
                  · refine anyV_op rfl ?_
                    refine VX.store rfl rfl rfl rfl rfl au_sR rfl ?_
                    refine VX.nil ?_
                    refine AnyV.more [7] (by kernel_rfl) (by simp) ?_
                    refine allI_cons ?_ ?_
                    · refine anyV_op rfl ?_
                      refine VX.store rfl rfl rfl rfl rfl au_sR rfl ?_
                      refine VX.nil ?_
                      exact AnyV.fin (by kernel_rfl) (tile_leaf 3 2 1 trivial rfl rfl rfl rfl rfl rfl rfl rfl rfl rfl rfl rfl rfl)
                    exact trivial
                  exact trivial
                exact trivial
              exact trivial
            refine allI_cons ?_ ?_
            · refine anyV_op rfl ?_
              refine VX.new rfl rfl ?_
              refine VX.nil ?_
              refine AnyV.more [3, 5] (by kernel_rfl) (by simp) ?_
              refine allI_cons ?_ ?_
              · refine anyV_op rfl ?_
                refine VX.callP0 rfl rfl rfl (planeOf_p tw th tpx htw2 hth2 htl htb) ?_
                refine VX.nil ?_
                refine AnyV.more [5] (by kernel_rfl) (by simp) ?_
                refine allI_cons ?_ ?_
                · refine anyV_op rfl ?_
                  refine VX.new rfl rfl ?_
                  refine VX.nil ?_
                  refine AnyV.more [6] (by kernel_rfl) (by simp) ?_
                  refine allI_cons ?_ ?_
                  · refine anyV_op rfl ?_
                    refine VX.store rfl rfl rfl rfl rfl au_sR rfl ?_
                    refine VX.nil ?_
                    refine AnyV.more [7] (by kernel_rfl) (by simp) ?_
                    refine allI_cons ?_ ?_
                    · refine anyV_op rfl ?_
                      refine VX.store rfl rfl rfl rfl rfl au_sR rfl ?_
                      refine VX.nil ?_
                      exact AnyV.fin (by kernel_rfl) (tile_leaf 2 3 1 trivial rfl rfl rfl rfl rfl rfl rfl rfl rfl rfl rfl rfl rfl)
                    exact trivial
                  exact trivial
                exact trivial
              refine allI_cons ?_ ?_
              · refine anyV_op rfl ?_
                refine VX.new rfl rfl ?_
                refine VX.nil ?_
                refine AnyV.more [3] (by kernel_rfl) (by simp) ?_
                refine allI_cons ?_ ?_
                · refine anyV_op rfl ?_
                  refine VX.callP0 rfl rfl rfl (planeOf_p tw th tpx htw2 hth2 htl htb) ?_
                  refine VX.nil ?_
                  refine AnyV.more [6] (by kernel_rfl) (by simp) ?_
                  refine allI_cons ?_ ?_
                  · refine anyV_op rfl ?_
                    refine VX.store rfl rfl rfl rfl rfl au_sR rfl ?_
                    refine VX.nil ?_
                    refine AnyV.more [7] (by kernel_rfl) (by simp) ?_
                    refine allI_cons ?_ ?_
                    · refine anyV_op rfl ?_
                      refine VX.store rfl rfl rfl rfl rfl au_sR rfl ?_
                      refine VX.nil ?_
                      exact AnyV.fin (by kernel_rfl) (tile_leaf 2 3 1 trivial rfl rfl rfl rfl rfl rfl rfl rfl rfl rfl rfl rfl rfl)
                    exact trivial
                  exact trivial
                exact trivial
              exact trivial
            refine allI_cons ?_ ?_
            · refine anyV_op rfl ?_
              refine VX.new rfl rfl ?_
              refine VX.nil ?_
              refine AnyV.more [3, 4] (by kernel_rfl) (by simp) ?_
              refine allI_cons ?_ ?_
              · refine anyV_op rfl ?_
                refine VX.callP0 rfl rfl rfl (planeOf_p tw th tpx htw2 hth2 htl htb) ?_
                refine VX.nil ?_
                refine AnyV.more [4] (by kernel_rfl) (by simp) ?_
                refine allI_cons ?_ ?_
                · refine anyV_op rfl ?_
                  refine VX.new rfl rfl ?_
                  refine VX.nil ?_
                  refine AnyV.more [6] (by kernel_rfl) (by simp) ?_
                  refine allI_cons ?_ ?_
                  · refine anyV_op rfl ?_
                    refine VX.store rfl rfl rfl rfl rfl au_sR rfl ?_
                    refine VX.nil ?_
                    refine AnyV.more [7] (by kernel_rfl) (by simp) ?_
                    refine allI_cons ?_ ?_
                    · refine anyV_op rfl ?_
                      refine VX.store rfl rfl rfl rfl rfl au_sR rfl ?_
                      refine VX.nil ?_
                      exact AnyV.fin (by kernel_rfl) (tile_leaf 3 2 1 trivial rfl rfl rfl rfl rfl rfl rfl rfl rfl rfl rfl rfl rfl)
                    exact trivial
                  exact trivial
                exact trivial
              refine allI_cons ?_ ?_
              · refine anyV_op rfl ?_
                refine VX.new rfl rfl ?_
                refine VX.nil ?_
                refine AnyV.more [3] (by kernel_rfl) (by simp) ?_
                refine allI_cons ?_ ?_
                · refine anyV_op rfl ?_
                  refine VX.callP0 rfl rfl rfl (planeOf_p tw th tpx htw2 hth2 htl htb) ?_
                  refine VX.nil ?_
                  refine AnyV.more [6] (by kernel_rfl) (by simp) ?_
                  refine allI_cons ?_ ?_
                  · refine anyV_op rfl ?_
                    refine VX.store rfl rfl rfl rfl rfl au_sR rfl ?_
                    refine VX.nil ?_
                    refine AnyV.more [7] (by kernel_rfl) (by simp) ?_
                    refine allI_cons ?_ ?_
                    · refine anyV_op rfl ?_
                      refine VX.store rfl rfl rfl rfl rfl au_sR rfl ?_
                      refine VX.nil ?_
                      exact AnyV.fin (by kernel_rfl) (tile_leaf 3 2 1 trivial rfl rfl rfl rfl rfl rfl rfl rfl rfl rfl rfl rfl rfl)
                    exact trivial
                  exact trivial
                exact trivial
              exact trivial
            exact trivial
          refine allI_cons ?_ ?_
          · refine anyV_op rfl ?_
            refine VX.new rfl rfl ?_
            refine VX.nil ?_
            refine AnyV.more [1, 5] (by kernel_rfl) (by simp) ?_
            refine allI_cons ?_ ?_
            · refine anyV_op rfl ?_
              refine VX.callT rfl rfl (CallT.frame (planeOf_t w h px hw hh hl hpb) [] rfl au_ci au_ci ?_)
              rintro _ _ ⟨rfl, rfl⟩
              refine frK au_co au_co ?_
              refine VX.nil ?_
              refine AnyV.more [3, 5] (by kernel_rfl) (by simp) ?_
              refine allI_cons ?_ ?_
              · refine anyV_op rfl ?_
                refine VX.callP0 rfl rfl rfl (planeOf_p tw th tpx htw2 hth2 htl htb) ?_
                refine VX.nil ?_
                refine AnyV.more [5] (by kernel_rfl) (by simp) ?_
                refine allI_cons ?_ ?_
                · refine anyV_op rfl ?_
                  refine VX.new rfl rfl ?_
                  refine VX.nil ?_
                  refine AnyV.more [6] (by kernel_rfl) (by simp) ?_
                  refine allI_cons ?_ ?_
                  · refine anyV_op rfl ?_
                    refine VX.store rfl rfl rfl rfl rfl au_sR rfl ?_
                    refine VX.nil ?_
                    refine AnyV.more [7] (by kernel_rfl) (by simp) ?_
                    refine allI_cons ?_ ?_
                    · refine anyV_op rfl ?_
                      refine VX.store rfl rfl rfl rfl rfl au_sR rfl ?_
                      refine VX.nil ?_
                      exact AnyV.fin (by kernel_rfl) (tile_leaf 1 3 2 trivial rfl rfl rfl rfl rfl rfl rfl rfl rfl rfl rfl rfl rfl)
                    exact trivial
                  exact trivial
                exact trivial
              refine allI_cons ?_ ?_
              · refine anyV_op rfl ?_
                refine VX.new rfl rfl ?_
                refine VX.nil ?_
                refine AnyV.more [3] (by kernel_rfl) (by simp) ?_
                refine allI_cons ?_ ?_
                · refine anyV_op rfl ?_
                  refine VX.callP0 rfl rfl rfl (planeOf_p tw th tpx htw2 hth2 htl htb) ?_
                  refine VX.nil ?_
                  refine AnyV.more [6] (by kernel_rfl) (by simp) ?_
                  refine allI_cons ?_ ?_
                  · refine anyV_op rfl ?_
                    refine VX.store rfl rfl rfl rfl rfl au_sR rfl ?_
                    refine VX.nil ?_
                    refine AnyV.more [7] (by kernel_rfl) (by simp) ?_
                    refine allI_cons ?_ ?_
                    · refine anyV_op rfl ?_
                      refine VX.store rfl rfl rfl rfl rfl au_sR rfl ?_
                      refine VX.nil ?_
                      exact AnyV.fin (by kernel_rfl) (tile_leaf 1 3 2 trivial rfl rfl rfl rfl rfl rfl rfl rfl rfl rfl rfl rfl rfl)
                    exact trivial
                  exact trivial
                exact trivial
              exact trivial
            refine allI_cons ?_ ?_
            · refine anyV_op rfl ?_
              refine VX.new rfl rfl ?_
              refine VX.nil ?_
              refine AnyV.more [1] (by kernel_rfl) (by simp) ?_
              refine allI_cons ?_ ?_
              · refine anyV_op rfl ?_
                refine VX.callT rfl rfl (CallT.frame (planeOf_t w h px hw hh hl hpb) [] rfl au_ci au_ci ?_)
                rintro _ _ ⟨rfl, rfl⟩
                refine frK au_co au_co ?_
                refine VX.nil ?_
                refine AnyV.more [3] (by kernel_rfl) (by simp) ?_
                refine allI_cons ?_ ?_
                · refine anyV_op rfl ?_
                  refine VX.callP0 rfl rfl rfl (planeOf_p tw th tpx htw2 hth2 htl htb) ?_
                  refine VX.nil ?_
                  refine AnyV.more [6] (by kernel_rfl) (by simp) ?_
                  refine allI_cons ?_ ?_
                  · refine anyV_op rfl ?_
                    refine VX.store rfl rfl rfl rfl rfl au_sR rfl ?_
                    refine VX.nil ?_
                    refine AnyV.more [7] (by kernel_rfl) (by simp) ?_
                    refine allI_cons ?_ ?_
                    · refine anyV_op rfl ?_
                      refine VX.store rfl rfl rfl rfl rfl au_sR rfl ?_
                      refine VX.nil ?_
                      exact AnyV.fin (by kernel_rfl) (tile_leaf 1 2 3 trivial rfl rfl rfl rfl rfl rfl rfl rfl rfl rfl rfl rfl rfl)
                    exact trivial
                  exact trivial
                exact trivial
              exact trivial
            exact trivial
          refine allI_cons ?_ ?_
          · refine anyV_op rfl ?_
            refine VX.new rfl rfl ?_
            refine VX.nil ?_
            refine AnyV.more [1, 4] (by kernel_rfl) (by simp) ?_
            refine allI_cons ?_ ?_
            · refine anyV_op rfl ?_
              refine VX.callT rfl rfl (CallT.frame (planeOf_t w h px hw hh hl hpb) [] rfl au_ci au_ci ?_)
              rintro _ _ ⟨rfl, rfl⟩
              refine frK au_co au_co ?_
              refine VX.nil ?_
              refine AnyV.more [3, 4] (by kernel_rfl) (by simp) ?_
              refine allI_cons ?_ ?_
              · refine anyV_op rfl ?_
                refine VX.callP0 rfl rfl rfl (planeOf_p tw th tpx htw2 hth2 htl htb) ?_
                refine VX.nil ?_
                refine AnyV.more [4] (by kernel_rfl) (by simp) ?_
                refine allI_cons ?_ ?_
                · refine anyV_op rfl ?_
                  refine VX.new rfl rfl ?_
                  refine VX.nil ?_
                  refine AnyV.more [6] (by kernel_rfl) (by simp) ?_
                  refine allI_cons ?_ ?_
                  · refine anyV_op rfl ?_
                    refine VX.store rfl rfl rfl rfl rfl au_sR rfl ?_
                    refine VX.nil ?_
                    refine AnyV.more [7] (by kernel_rfl) (by simp) ?_
                    refine allI_cons ?_ ?_
                    · refine anyV_op rfl ?_
                      refine VX.store rfl rfl rfl rfl rfl au_sR rfl ?_
                      refine VX.nil ?_
                      exact AnyV.fin (by kernel_rfl) (tile_leaf 3 1 2 trivial rfl rfl rfl rfl rfl rfl rfl rfl rfl rfl rfl rfl rfl)
                    exact trivial
                  exact trivial
                exact trivial
              refine allI_cons ?_ ?_
              · refine anyV_op rfl ?_
                refine VX.new rfl rfl ?_
                refine VX.nil ?_
                refine AnyV.more [3] (by kernel_rfl) (by simp) ?_
                refine allI_cons ?_ ?_
                · refine anyV_op rfl ?_
                  refine VX.callP0 rfl rfl rfl (planeOf_p tw th tpx htw2 hth2 htl htb) ?_
                  refine VX.nil ?_
                  refine AnyV.more [6] (by kernel_rfl) (by simp) ?_
                  refine allI_cons ?_ ?_
                  · refine anyV_op rfl ?_
                    refine VX.store rfl rfl rfl rfl rfl au_sR rfl ?_
                    refine VX.nil ?_
                    refine AnyV.more [7] (by kernel_rfl) (by simp) ?_
                    refine allI_cons ?_ ?_
                    · refine anyV_op rfl ?_
                      refine VX.store rfl rfl rfl rfl rfl au_sR rfl ?_
                      refine VX.nil ?_
                      exact AnyV.fin (by kernel_rfl) (tile_leaf 3 1 2 trivial rfl rfl rfl rfl rfl rfl rfl rfl rfl rfl rfl rfl rfl)
                    exact trivial
                  exact trivial
                exact trivial
              exact trivial
            refine allI_cons ?_ ?_
            · refine anyV_op rfl ?_
              refine VX.new rfl rfl ?_
              refine VX.nil ?_
              refine AnyV.more [1] (by kernel_rfl) (by simp) ?_
              refine allI_cons ?_ ?_
              · refine anyV_op rfl ?_
                refine VX.callT rfl rfl (CallT.frame (planeOf_t w h px hw hh hl hpb) [] rfl au_ci au_ci ?_)
                rintro _ _ ⟨rfl, rfl⟩
                refine frK au_co au_co ?_
                refine VX.nil ?_
                refine AnyV.more [3] (by kernel_rfl) (by simp) ?_
                refine allI_cons ?_ ?_
                · refine anyV_op rfl ?_
                  refine VX.callP0 rfl rfl rfl (planeOf_p tw th tpx htw2 hth2 htl htb) ?_
                  refine VX.nil ?_
                  refine AnyV.more [6] (by kernel_rfl) (by simp) ?_
                  refine allI_cons ?_ ?_
                  · refine anyV_op rfl ?_
                    refine VX.store rfl rfl rfl rfl rfl au_sR rfl ?_
                    refine VX.nil ?_
                    refine AnyV.more [7] (by kernel_rfl) (by simp) ?_
                    refine allI_cons ?_ ?_
                    · refine anyV_op rfl ?_
                      refine VX.store rfl rfl rfl rfl rfl au_sR rfl ?_
                      refine VX.nil ?_
                      exact AnyV.fin (by kernel_rfl) (tile_leaf 2 1 3 trivial rfl rfl rfl rfl rfl rfl rfl rfl rfl rfl rfl rfl rfl)
                    exact trivial
                  exact trivial
                exact trivial
              exact trivial
            exact trivial
          exact trivial
        refine allI_cons ?_ ?_
        · refine anyV_op rfl ?_
          refine VX.new rfl rfl ?_
          refine VX.nil ?_
          refine AnyV.more [1, 2, 5] (by kernel_rfl) (by simp) ?_
          refine allI_cons ?_ ?_
          · refine anyV_op rfl ?_
            refine VX.callT rfl rfl (CallT.frame (planeOf_t w h px hw hh hl hpb) [] rfl au_ci au_ci ?_)
            rintro _ _ ⟨rfl, rfl⟩
            refine frK au_co au_co ?_
            refine VX.nil ?_
            refine AnyV.more [2, 5] (by kernel_rfl) (by simp) ?_
            refine allI_cons ?_ ?_
            · refine anyV_op rfl ?_
              first | refine VX.meek rfl ?_ | refine VX.loadI rfl rfl au_l ?_ | refine VX.loadP rfl rfl rfl au_l ?_
              refine VX.nil ?_
              refine AnyV.more [3, 5] (by kernel_rfl) (by simp) ?_
              refine allI_cons ?_ ?_
              · refine anyV_op rfl ?_
                refine VX.callP0 rfl rfl rfl (planeOf_p tw th tpx htw2 hth2 htl htb) ?_
                refine VX.nil ?_
                refine AnyV.more [5] (by kernel_rfl) (by simp) ?_
                refine allI_cons ?_ ?_
                · refine anyV_op rfl ?_
                  refine VX.new rfl rfl ?_
                  refine VX.nil ?_
                  refine AnyV.more [6] (by kernel_rfl) (by simp) ?_
                  refine allI_cons ?_ ?_
                  · refine anyV_op rfl ?_
                    refine VX.store rfl rfl rfl rfl rfl au_sR rfl ?_
                    refine VX.nil ?_
                    refine AnyV.more [7] (by kernel_rfl) (by simp) ?_
                    refine allI_cons ?_ ?_
                    · refine anyV_op rfl ?_
                      refine VX.store rfl rfl rfl rfl rfl au_sR rfl ?_
                      refine VX.nil ?_
                      exact AnyV.fin (by kernel_rfl) (tile_leaf 1 3 2 trivial rfl rfl rfl rfl rfl rfl rfl rfl rfl rfl rfl rfl rfl)
                    exact trivial
                  exact trivial
                exact trivial
              refine allI_cons ?_ ?_
              · refine anyV_op rfl ?_
                refine VX.new rfl rfl ?_
                refine VX.nil ?_
                refine AnyV.more [3] (by kernel_rfl) (by simp) ?_
                refine allI_cons ?_ ?_
                · refine anyV_op rfl ?_
                  refine VX.callP0 rfl rfl rfl (planeOf_p tw th tpx htw2 hth2 htl htb) ?_
                  refine VX.nil ?_
                  refine AnyV.more [6] (by kernel_rfl) (by simp) ?_
                  refine allI_cons ?_ ?_
                  · refine anyV_op rfl ?_
                    refine VX.store rfl rfl rfl rfl rfl au_sR rfl ?_
                    refine VX.nil ?_
                    refine AnyV.more [7] (by kernel_rfl) (by simp) ?_
                    refine allI_cons ?_ ?_
                    · refine anyV_op rfl ?_
                      refine VX.store rfl rfl rfl rfl rfl au_sR rfl ?_
                      refine VX.nil ?_
                      exact AnyV.fin (by kernel_rfl) (tile_leaf 1 3 2 trivial rfl rfl rfl rfl rfl rfl rfl rfl rfl rfl rfl rfl rfl)
                    exact trivial
                  exact trivial
                exact trivial
              exact trivial
            refine allI_cons ?_ ?_
            · refine anyV_op rfl ?_
              refine VX.new rfl rfl ?_
              refine VX.nil ?_
              refine AnyV.more [2] (by kernel_rfl) (by simp) ?_
              refine allI_cons ?_ ?_
              · refine anyV_op rfl ?_
                first | refine VX.meek rfl ?_ | refine VX.loadI rfl rfl au_l ?_ | refine VX.loadP rfl rfl rfl au_l ?_
                refine VX.nil ?_
                refine AnyV.more [3] (by kernel_rfl) (by simp) ?_
                refine allI_cons ?_ ?_
                · refine anyV_op rfl ?_
                  refine VX.callP0 rfl rfl rfl (planeOf_p tw th tpx htw2 hth2 htl htb) ?_
                  refine VX.nil ?_
                  refine AnyV.more [6] (by kernel_rfl) (by simp) ?_
                  refine allI_cons ?_ ?_
                  · refine anyV_op rfl ?_
                    refine VX.store rfl rfl rfl rfl rfl au_sR rfl ?_
                    refine VX.nil ?_
                    refine AnyV.more [7] (by kernel_rfl) (by simp) ?_
                    refine allI_cons ?_ ?_
                    · refine anyV_op rfl ?_
                      refine VX.store rfl rfl rfl rfl rfl au_sR rfl ?_
                      refine VX.nil ?_
                      exact AnyV.fin (by kernel_rfl) (tile_leaf 1 3 2 trivial rfl rfl rfl rfl rfl rfl rfl rfl rfl rfl rfl rfl rfl)
                    exact trivial
                  exact trivial
                exact trivial
              exact trivial
            exact trivial
          refine allI_cons ?_ ?_
          · refine anyV_op rfl ?_
            first | refine VX.meek rfl ?_ | refine VX.loadI rfl rfl au_l ?_ | refine VX.loadP rfl rfl rfl au_l ?_
            refine VX.nil ?_
            refine AnyV.more [1, 5] (by kernel_rfl) (by simp) ?_
            refine allI_cons ?_ ?_
            · refine anyV_op rfl ?_
              refine VX.callT rfl rfl (CallT.frame (planeOf_t w h px hw hh hl hpb) [] rfl au_ci au_ci ?_)
              rintro _ _ ⟨rfl, rfl⟩
              refine frK au_co au_co ?_
              refine VX.nil ?_
              refine AnyV.more [3, 5] (by kernel_rfl) (by simp) ?_
              refine allI_cons ?_ ?_
              · refine anyV_op rfl ?_
                refine VX.callP0 rfl rfl rfl (planeOf_p tw th tpx htw2 hth2 htl htb) ?_
                refine VX.nil ?_
                refine AnyV.more [5] (by kernel_rfl) (by simp) ?_
                refine allI_cons ?_ ?_
                · refine anyV_op rfl ?_
                  refine VX.new rfl rfl ?_
                  refine VX.nil ?_
                  refine AnyV.more [6] (by kernel_rfl) (by simp) ?_
                  refine allI_cons ?_ ?_
                  · refine anyV_op rfl ?_
                    refine VX.store rfl rfl rfl rfl rfl au_sR rfl ?_
                    refine VX.nil ?_
                    refine AnyV.more [7] (by kernel_rfl) (by simp) ?_
                    refine allI_cons ?_ ?_
                    · refine anyV_op rfl ?_
                      refine VX.store rfl rfl rfl rfl rfl au_sR rfl ?_
                      refine VX.nil ?_
                      exact AnyV.fin (by kernel_rfl) (tile_leaf 1 3 2 trivial rfl rfl rfl rfl rfl rfl rfl rfl rfl rfl rfl rfl rfl)
                    exact trivial
                  exact trivial
                exact trivial
              refine allI_cons ?_ ?_
              · refine anyV_op rfl ?_
                refine VX.new rfl rfl ?_
                refine VX.nil ?_
                refine AnyV.more [3] (by kernel_rfl) (by simp) ?_
                refine allI_cons ?_ ?_
                · refine anyV_op rfl ?_
                  refine VX.callP0 rfl rfl rfl (planeOf_p tw th tpx htw2 hth2 htl htb) ?_
                  refine VX.nil ?_
                  refine AnyV.more [6] (by kernel_rfl) (by simp) ?_
                  refine allI_cons ?_ ?_
                  · refine anyV_op rfl ?_
                    refine VX.store rfl rfl rfl rfl rfl au_sR rfl ?_
                    refine VX.nil ?_
                    refine AnyV.more [7] (by kernel_rfl) (by simp) ?_
                    refine allI_cons ?_ ?_
                    · refine anyV_op rfl ?_
                      refine VX.store rfl rfl rfl rfl rfl au_sR rfl ?_
                      refine VX.nil ?_
                      exact AnyV.fin (by kernel_rfl) (tile_leaf 1 3 2 trivial rfl rfl rfl rfl rfl rfl rfl rfl rfl rfl rfl rfl rfl)
                    exact trivial
                  exact trivial
                exact trivial
              exact trivial
            refine allI_cons ?_ ?_
            · refine anyV_op rfl ?_
              refine VX.new rfl rfl ?_
              refine VX.nil ?_
              refine AnyV.more [1] (by kernel_rfl) (by simp) ?_
              refine allI_cons ?_ ?_
              · refine anyV_op rfl ?_
                refine VX.callT rfl rfl (CallT.frame (planeOf_t w h px hw hh hl hpb) [] rfl au_ci au_ci ?_)
                rintro _ _ ⟨rfl, rfl⟩
                refine frK au_co au_co ?_
                refine VX.nil ?_
                refine AnyV.more [3] (by kernel_rfl) (by simp) ?_
                refine allI_cons ?_ ?_
                · refine anyV_op rfl ?_
                  refine VX.callP0 rfl rfl rfl (planeOf_p tw th tpx htw2 hth2 htl htb) ?_
                  refine VX.nil ?_
                  refine AnyV.more [6] (by kernel_rfl) (by simp) ?_
                  refine allI_cons ?_ ?_
                  · refine anyV_op rfl ?_
                    refine VX.store rfl rfl rfl rfl rfl au_sR rfl ?_
                    refine VX.nil ?_
                    refine AnyV.more [7] (by kernel_rfl) (by simp) ?_
                    refine allI_cons ?_ ?_
                    · refine anyV_op rfl ?_
                      refine VX.store rfl rfl rfl rfl rfl au_sR rfl ?_
                      refine VX.nil ?_
                      exact AnyV.fin (by kernel_rfl) (tile_leaf 1 2 3 trivial rfl rfl rfl rfl rfl rfl rfl rfl rfl rfl rfl rfl rfl)
                    exact trivial
                  exact trivial
                exact trivial
              exact trivial
            exact trivial
          refine allI_cons ?_ ?_
          · refine anyV_op rfl ?_
            refine VX.new rfl rfl ?_
            refine VX.nil ?_
            refine AnyV.more [1, 2] (by kernel_rfl) (by simp) ?_
            refine allI_cons ?_ ?_
            · refine anyV_op rfl ?_
              refine VX.callT rfl rfl (CallT.frame (planeOf_t w h px hw hh hl hpb) [] rfl au_ci au_ci ?_)
              rintro _ _ ⟨rfl, rfl⟩
              refine frK au_co au_co ?_
              refine VX.nil ?_
              refine AnyV.more [2] (by kernel_rfl) (by simp) ?_
              refine allI_cons ?_ ?_
              · refine anyV_op rfl ?_
                first | refine VX.meek rfl ?_ | refine VX.loadI rfl rfl au_l ?_ | refine VX.loadP rfl rfl rfl au_l ?_
                refine VX.nil ?_
                refine AnyV.more [3] (by kernel_rfl) (by simp) ?_
                refine allI_cons ?_ ?_
                · refine anyV_op rfl ?_
                  refine VX.callP0 rfl rfl rfl (planeOf_p tw th tpx htw2 hth2 htl htb) ?_
                  refine VX.nil ?_
                  refine AnyV.more [6] (by kernel_rfl) (by simp) ?_
                  refine allI_cons ?_ ?_
                  · refine anyV_op rfl ?_
                    refine VX.store rfl rfl rfl rfl rfl au_sR rfl ?_
                    refine VX.nil ?_
                    refine AnyV.more [7] (by kernel_rfl) (by simp) ?_
                    refine allI_cons ?_ ?_
                    · refine anyV_op rfl ?_
                      refine VX.store rfl rfl rfl rfl rfl au_sR rfl ?_
                      refine VX.nil ?_
                      exact AnyV.fin (by kernel_rfl) (tile_leaf 1 2 3 trivial rfl rfl rfl rfl rfl rfl rfl rfl rfl rfl rfl rfl rfl)
                    exact trivial
                  exact trivial
                exact trivial
              exact trivial
            refine allI_cons ?_ ?_
            · refine anyV_op rfl ?_
              first | refine VX.meek rfl ?_ | refine VX.loadI rfl rfl au_l ?_ | refine VX.loadP rfl rfl rfl au_l ?_
              refine VX.nil ?_
              refine AnyV.more [1] (by kernel_rfl) (by simp) ?_
              refine allI_cons ?_ ?_
              · refine anyV_op rfl ?_
                refine VX.callT rfl rfl (CallT.frame (planeOf_t w h px hw hh hl hpb) [] rfl au_ci au_ci ?_)
                rintro _ _ ⟨rfl, rfl⟩
                refine frK au_co au_co ?_
                refine VX.nil ?_
                refine AnyV.more [3] (by kernel_rfl) (by simp) ?_
                refine allI_cons ?_ ?_
                · refine anyV_op rfl ?_
                  refine VX.callP0 rfl rfl rfl (planeOf_p tw th tpx htw2 hth2 htl htb) ?_
                  refine VX.nil ?_
                  refine AnyV.more [6] (by kernel_rfl) (by simp) ?_
                  refine allI_cons ?_ ?_
                  · refine anyV_op rfl ?_
                    refine VX.store rfl rfl rfl rfl rfl au_sR rfl ?_
                    refine VX.nil ?_
                    refine AnyV.more [7] (by kernel_rfl) (by simp) ?_
                    refine allI_cons ?_ ?_
                    · refine anyV_op rfl ?_
                      refine VX.store rfl rfl rfl rfl rfl au_sR rfl ?_
                      refine VX.nil ?_
                      exact AnyV.fin (by kernel_rfl) (tile_leaf 1 2 3 trivial rfl rfl rfl rfl rfl rfl rfl rfl rfl rfl rfl rfl rfl)
                    exact trivial
                  exact trivial
                exact trivial
              exact trivial
            exact trivial
          exact trivial
        refine allI_cons ?_ ?_
        · refine anyV_op rfl ?_
          refine VX.new rfl rfl ?_
          refine VX.nil ?_
          refine AnyV.more [1, 2, 4] (by kernel_rfl) (by simp) ?_
          refine allI_cons ?_ ?_
          · refine anyV_op rfl ?_
            refine VX.callT rfl rfl (CallT.frame (planeOf_t w h px hw hh hl hpb) [] rfl au_ci au_ci ?_)
            rintro _ _ ⟨rfl, rfl⟩
            refine frK au_co au_co ?_
            refine VX.nil ?_
            refine AnyV.more [2, 4] (by kernel_rfl) (by simp) ?_
            refine allI_cons ?_ ?_
            · refine anyV_op rfl ?_
              first | refine VX.meek rfl ?_ | refine VX.loadI rfl rfl au_l ?_ | refine VX.loadP rfl rfl rfl au_l ?_
              refine VX.nil ?_
              refine AnyV.more [3, 4] (by kernel_rfl) (by simp) ?_
              refine allI_cons ?_ ?_
              · refine anyV_op rfl ?_
                refine VX.callP0 rfl rfl rfl (planeOf_p tw th tpx htw2 hth2 htl htb) ?_
                refine VX.nil ?_
                refine AnyV.more [4] (by kernel_rfl) (by simp) ?_
                refine allI_cons ?_ ?_
                · refine anyV_op rfl ?_
                  refine VX.new rfl rfl ?_
                  refine VX.nil ?_
                  refine AnyV.more [6] (by kernel_rfl) (by simp) ?_
                  refine allI_cons ?_ ?_
                  · refine anyV_op rfl ?_
                    refine VX.store rfl rfl rfl rfl rfl au_sR rfl ?_
                    refine VX.nil ?_
                    refine AnyV.more [7] (by kernel_rfl) (by simp) ?_
                    refine allI_cons ?_ ?_
                    · refine anyV_op rfl ?_
                      refine VX.store rfl rfl rfl rfl rfl au_sR rfl ?_
                      refine VX.nil ?_
                      exact AnyV.fin (by kernel_rfl) (tile_leaf 3 1 2 trivial rfl rfl rfl rfl rfl rfl rfl rfl rfl rfl rfl rfl rfl)
                    exact trivial
                  exact trivial
                exact trivial
              refine allI_cons ?_ ?_
              · refine anyV_op rfl ?_
                refine VX.new rfl rfl ?_
                refine VX.nil ?_
                refine AnyV.more [3] (by kernel_rfl) (by simp) ?_
                refine allI_cons ?_ ?_
                · refine anyV_op rfl ?_
                  refine VX.callP0 rfl rfl rfl (planeOf_p tw th tpx htw2 hth2 htl htb) ?_
                  refine VX.nil ?_
                  refine AnyV.more [6] (by kernel_rfl) (by simp) ?_
                  refine allI_cons ?_ ?_
                  · refine anyV_op rfl ?_
                    refine VX.store rfl rfl rfl rfl rfl au_sR rfl ?_
                    refine VX.nil ?_
                    refine AnyV.more [7] (by kernel_rfl) (by simp) ?_
                    refine allI_cons ?_ ?_
                    · refine anyV_op rfl ?_
                      refine VX.store rfl rfl rfl rfl rfl au_sR rfl ?_
                      refine VX.nil ?_
                      exact AnyV.fin (by kernel_rfl) (tile_leaf 3 1 2 trivial rfl rfl rfl rfl rfl rfl rfl rfl rfl rfl rfl rfl rfl)
                    exact trivial
                  exact trivial
                exact trivial
              exact trivial
            refine allI_cons ?_ ?_
            · refine anyV_op rfl ?_
              refine VX.new rfl rfl ?_
              refine VX.nil ?_
              refine AnyV.more [2] (by kernel_rfl) (by simp) ?_
              refine allI_cons ?_ ?_
              · refine anyV_op rfl ?_
                first | refine VX.meek rfl ?_ | refine VX.loadI rfl rfl au_l ?_ | refine VX.loadP rfl rfl rfl au_l ?_
                refine VX.nil ?_
                refine AnyV.more [3] (by kernel_rfl) (by simp) ?_
                refine allI_cons ?_ ?_
                · refine anyV_op rfl ?_
                  refine VX.callP0 rfl rfl rfl (planeOf_p tw th tpx htw2 hth2 htl htb) ?_
                  refine VX.nil ?_
                  refine AnyV.more [6] (by kernel_rfl) (by simp) ?_
                  refine allI_cons ?_ ?_
                  · refine anyV_op rfl ?_
                    refine VX.store rfl rfl rfl rfl rfl au_sR rfl ?_
                    refine VX.nil ?_
                    refine AnyV.more [7] (by kernel_rfl) (by simp) ?_
                    refine allI_cons ?_ ?_
                    · refine anyV_op rfl ?_
                      refine VX.store rfl rfl rfl rfl rfl au_sR rfl ?_
                      refine VX.nil ?_
                      exact AnyV.fin (by kernel_rfl) (tile_leaf 3 1 2 trivial rfl rfl rfl rfl rfl rfl rfl rfl rfl rfl rfl rfl rfl)
                    exact trivial
                  exact trivial
                exact trivial
              exact trivial
            exact trivial
          refine allI_cons ?_ ?_
          · refine anyV_op rfl ?_
            first | refine VX.meek rfl ?_ | refine VX.loadI rfl rfl au_l ?_ | refine VX.loadP rfl rfl rfl au_l ?_
            refine VX.nil ?_
            refine AnyV.more [1, 4] (by kernel_rfl) (by simp) ?_
            refine allI_cons ?_ ?_
            · refine anyV_op rfl ?_
              refine VX.callT rfl rfl (CallT.frame (planeOf_t w h px hw hh hl hpb) [] rfl au_ci au_ci ?_)
              rintro _ _ ⟨rfl, rfl⟩
              refine frK au_co au_co ?_
              refine VX.nil ?_
              refine AnyV.more [3, 4] (by kernel_rfl) (by simp) ?_
              refine allI_cons ?_ ?_
              · refine anyV_op rfl ?_
                refine VX.callP0 rfl rfl rfl (planeOf_p tw th tpx htw2 hth2 htl htb) ?_
                refine VX.nil ?_
                refine AnyV.more [4] (by kernel_rfl) (by simp) ?_
                refine allI_cons ?_ ?_
                · refine anyV_op rfl ?_
                  refine VX.new rfl rfl ?_
                  refine VX.nil ?_
                  refine AnyV.more [6] (by kernel_rfl) (by simp) ?_
                  refine allI_cons ?_ ?_
                  · refine anyV_op rfl ?_
                    refine VX.store rfl rfl rfl rfl rfl au_sR rfl ?_
                    refine VX.nil ?_
                    refine AnyV.more [7] (by kernel_rfl) (by simp) ?_
                    refine allI_cons ?_ ?_
                    · refine anyV_op rfl ?_
                      refine VX.store rfl rfl rfl rfl rfl au_sR rfl ?_
                      refine VX.nil ?_
                      exact AnyV.fin (by kernel_rfl) (tile_leaf 3 1 2 trivial rfl rfl rfl rfl rfl rfl rfl rfl rfl rfl rfl rfl rfl)
                    exact trivial
                  exact trivial
                exact trivial
              refine allI_cons ?_ ?_
              · refine anyV_op rfl ?_
                refine VX.new rfl rfl ?_
                refine VX.nil ?_
                refine AnyV.more [3] (by kernel_rfl) (by simp) ?_
                refine allI_cons ?_ ?_
                · refine anyV_op rfl ?_
                  refine VX.callP0 rfl rfl rfl (planeOf_p tw th tpx htw2 hth2 htl htb) ?_
                  refine VX.nil ?_
                  refine AnyV.more [6] (by kernel_rfl) (by simp) ?_
                  refine allI_cons ?_ ?_
                  · refine anyV_op rfl ?_
                    refine VX.store rfl rfl rfl rfl rfl au_sR rfl ?_
                    refine VX.nil ?_
                    refine AnyV.more [7] (by kernel_rfl) (by simp) ?_
                    refine allI_cons ?_ ?_
                    · refine anyV_op rfl ?_
                      refine VX.store rfl rfl rfl rfl rfl au_sR rfl ?_
                      refine VX.nil ?_
                      exact AnyV.fin (by kernel_rfl) (tile_leaf 3 1 2 trivial rfl rfl rfl rfl rfl rfl rfl rfl rfl rfl rfl rfl rfl)
                    exact trivial
                  exact trivial
                exact trivial
              exact trivial
            refine allI_cons ?_ ?_
            · refine anyV_op rfl ?_
              refine VX.new rfl rfl ?_
              refine VX.nil ?_
              refine AnyV.more [1] (by kernel_rfl) (by simp) ?_
              refine allI_cons ?_ ?_
              · refine anyV_op rfl ?_
                refine VX.callT rfl rfl (CallT.frame (planeOf_t w h px hw hh hl hpb) [] rfl au_ci au_ci ?_)
                rintro _ _ ⟨rfl, rfl⟩
                refine frK au_co au_co ?_
                refine VX.nil ?_
                refine AnyV.more [3] (by kernel_rfl) (by simp) ?_
                refine allI_cons ?_ ?_
                · refine anyV_op rfl ?_
                  refine VX.callP0 rfl rfl rfl (planeOf_p tw th tpx htw2 hth2 htl htb) ?_
                  refine VX.nil ?_
                  refine AnyV.more [6] (by kernel_rfl) (by simp) ?_
                  refine allI_cons ?_ ?_
                  · refine anyV_op rfl ?_
                    refine VX.store rfl rfl rfl rfl rfl au_sR rfl ?_
                    refine VX.nil ?_
                    refine AnyV.more [7] (by kernel_rfl) (by simp) ?_
                    refine allI_cons ?_ ?_
                    · refine anyV_op rfl ?_
                      refine VX.store rfl rfl rfl rfl rfl au_sR rfl ?_
                      refine VX.nil ?_
                      exact AnyV.fin (by kernel_rfl) (tile_leaf 2 1 3 trivial rfl rfl rfl rfl rfl rfl rfl rfl rfl rfl rfl rfl rfl)
                    exact trivial
                  exact trivial
                exact trivial
              exact trivial
            exact trivial
          refine allI_cons ?_ ?_
          · refine anyV_op rfl ?_
            refine VX.new rfl rfl ?_
            refine VX.nil ?_
            refine AnyV.more [1, 2] (by kernel_rfl) (by simp) ?_
            refine allI_cons ?_ ?_
            · refine anyV_op rfl ?_
              refine VX.callT rfl rfl (CallT.frame (planeOf_t w h px hw hh hl hpb) [] rfl au_ci au_ci ?_)
              rintro _ _ ⟨rfl, rfl⟩
              refine frK au_co au_co ?_
              refine VX.nil ?_
              refine AnyV.more [2] (by kernel_rfl) (by simp) ?_
              refine allI_cons ?_ ?_
              · refine anyV_op rfl ?_
                first | refine VX.meek rfl ?_ | refine VX.loadI rfl rfl au_l ?_ | refine VX.loadP rfl rfl rfl au_l ?_
                refine VX.nil ?_
                refine AnyV.more [3] (by kernel_rfl) (by simp) ?_
                refine allI_cons ?_ ?_
                · refine anyV_op rfl ?_
                  refine VX.callP0 rfl rfl rfl (planeOf_p tw th tpx htw2 hth2 htl htb) ?_
                  refine VX.nil ?_
                  refine AnyV.more [6] (by kernel_rfl) (by simp) ?_
                  refine allI_cons ?_ ?_
                  · refine anyV_op rfl ?_
                    refine VX.store rfl rfl rfl rfl rfl au_sR rfl ?_
                    refine VX.nil ?_
                    refine AnyV.more [7] (by kernel_rfl) (by simp) ?_
                    refine allI_cons ?_ ?_
                    · refine anyV_op rfl ?_
                      refine VX.store rfl rfl rfl rfl rfl au_sR rfl ?_
                      refine VX.nil ?_
                      exact AnyV.fin (by kernel_rfl) (tile_leaf 2 1 3 trivial rfl rfl rfl rfl rfl rfl rfl rfl rfl rfl rfl rfl rfl)
                    exact trivial
                  exact trivial
                exact trivial
              exact trivial
            refine allI_cons ?_ ?_
            · refine anyV_op rfl ?_
              first | refine VX.meek rfl ?_ | refine VX.loadI rfl rfl au_l ?_ | refine VX.loadP rfl rfl rfl au_l ?_
              refine VX.nil ?_
              refine AnyV.more [1] (by kernel_rfl) (by simp) ?_
              refine allI_cons ?_ ?_
              · refine anyV_op rfl ?_
                refine VX.callT rfl rfl (CallT.frame (planeOf_t w h px hw hh hl hpb) [] rfl au_ci au_ci ?_)
                rintro _ _ ⟨rfl, rfl⟩
                refine frK au_co au_co ?_
                refine VX.nil ?_
                refine AnyV.more [3] (by kernel_rfl) (by simp) ?_
                refine allI_cons ?_ ?_
                · refine anyV_op rfl ?_
                  refine VX.callP0 rfl rfl rfl (planeOf_p tw th tpx htw2 hth2 htl htb) ?_
                  refine VX.nil ?_
                  refine AnyV.more [6] (by kernel_rfl) (by simp) ?_
                  refine allI_cons ?_ ?_
                  · refine anyV_op rfl ?_
                    refine VX.store rfl rfl rfl rfl rfl au_sR rfl ?_
                    refine VX.nil ?_
                    refine AnyV.more [7] (by kernel_rfl) (by simp) ?_
                    refine allI_cons ?_ ?_
                    · refine anyV_op rfl ?_
                      refine VX.store rfl rfl rfl rfl rfl au_sR rfl ?_
                      refine VX.nil ?_
                      exact AnyV.fin (by kernel_rfl) (tile_leaf 2 1 3 trivial rfl rfl rfl rfl rfl rfl rfl rfl rfl rfl rfl rfl rfl)
                    exact trivial
                  exact trivial
                exact trivial
              exact trivial
            exact trivial
          exact trivial
        exact trivial
      refine allI_cons ?_ ?_
      · refine anyV_op rfl ?_
        first | refine VX.meek rfl ?_ | refine VX.loadI rfl rfl au_l ?_ | refine VX.loadP rfl rfl rfl au_l ?_
        refine VX.nil ?_
        refine AnyV.more [0, 4, 5] (by kernel_rfl) (by simp) ?_
        refine allI_cons ?_ ?_
        · refine anyV_op rfl ?_
          first | refine VX.meek rfl ?_ | refine VX.loadI rfl rfl au_l ?_ | refine VX.loadP rfl rfl rfl au_l ?_
          refine VX.nil ?_
          refine AnyV.more [1, 4, 5] (by kernel_rfl) (by simp) ?_
          refine allI_cons ?_ ?_
          · refine anyV_op rfl ?_
            refine VX.callT rfl rfl (CallT.frame (planeOf_t w h px hw hh hl hpb) [] rfl au_ci au_ci ?_)
            rintro _ _ ⟨rfl, rfl⟩
            refine frK au_co au_co ?_
            refine VX.nil ?_
            refine AnyV.more [3, 4, 5] (by kernel_rfl) (by simp) ?_
            refine allI_cons ?_ ?_
            · refine anyV_op rfl ?_
              refine VX.callP0 rfl rfl rfl (planeOf_p tw th tpx htw2 hth2 htl htb) ?_
              refine VX.nil ?_
              refine AnyV.more [4, 5] (by kernel_rfl) (by simp) ?_
              refine allI_cons ?_ ?_
              · refine anyV_op rfl ?_
                refine VX.new rfl rfl ?_
                refine VX.nil ?_
                refine AnyV.more [5] (by kernel_rfl) (by simp) ?_
                refine allI_cons ?_ ?_
                · refine anyV_op rfl ?_
                  refine VX.new rfl rfl ?_
                  refine VX.nil ?_
                  refine AnyV.more [6] (by kernel_rfl) (by simp) ?_
                  refine allI_cons ?_ ?_
                  · refine anyV_op rfl ?_
                    refine VX.store rfl rfl rfl rfl rfl au_sR rfl ?_
                    refine VX.nil ?_
                    refine AnyV.more [7] (by kernel_rfl) (by simp) ?_
                    refine allI_cons ?_ ?_
                    · refine anyV_op rfl ?_
                      refine VX.store rfl rfl rfl rfl rfl au_sR rfl ?_
                      refine VX.nil ?_
                      exact AnyV.fin (by kernel_rfl) (tile_leaf 2 3 1 trivial rfl rfl rfl rfl rfl rfl rfl rfl rfl rfl rfl rfl rfl)
                    exact trivial
                  exact trivial
                exact trivial
              refine allI_cons ?_ ?_
              · refine anyV_op rfl ?_
                refine VX.new rfl rfl ?_
                refine VX.nil ?_
                refine AnyV.more [4] (by kernel_rfl) (by simp) ?_
                refine allI_cons ?_ ?_
                · refine anyV_op rfl ?_
                  refine VX.new rfl rfl ?_
                  refine VX.nil ?_
                  refine AnyV.more [6] (by kernel_rfl) (by simp) ?_
                  refine allI_cons ?_ ?_
                  · refine anyV_op rfl ?_
                    refine VX.store rfl rfl rfl rfl rfl au_sR rfl ?_
                    refine VX.nil ?_
                    refine AnyV.more [7] (by kernel_rfl) (by simp) ?_
                    refine allI_cons ?_ ?_
                    · refine anyV_op rfl ?_
                      refine VX.store rfl rfl rfl rfl rfl au_sR rfl ?_
                      refine VX.nil ?_
                      exact AnyV.fin (by kernel_rfl) (tile_leaf 3 2 1 trivial rfl rfl rfl rfl rfl rfl rfl rfl rfl rfl rfl rfl rfl)
                    exact trivial
                  exact trivial
                exact trivial
              exact trivial
            refine allI_cons ?_ ?_
            · refine anyV_op rfl ?_
              refine VX.new rfl rfl ?_
              refine VX.nil ?_
              refine AnyV.more [3, 5] (by kernel_rfl) (by simp) ?_
              refine allI_cons ?_ ?_
              · refine anyV_op rfl ?_
                refine VX.callP0 rfl rfl rfl (planeOf_p tw th tpx htw2 hth2 htl htb) ?_
                refine VX.nil ?_
                refine AnyV.more [5] (by kernel_rfl) (by simp) ?_
                refine allI_cons ?_ ?_
                · refine anyV_op rfl ?_
                  refine VX.new rfl rfl ?_
                  refine VX.nil ?_
                  refine AnyV.more [6] (by kernel_rfl) (by simp) ?_
                  refine allI_cons ?_ ?_
                  · refine anyV_op rfl ?_
                    refine VX.store rfl rfl rfl rfl rfl au_sR rfl ?_
                    refine VX.nil ?_
                    refine AnyV.more [7] (by kernel_rfl) (by simp) ?_
                    refine allI_cons ?_ ?_
                    · refine anyV_op rfl ?_
                      refine VX.store rfl rfl rfl rfl rfl au_sR rfl ?_
                      refine VX.nil ?_
                      exact AnyV.fin (by kernel_rfl) (tile_leaf 2 3 1 trivial rfl rfl rfl rfl rfl rfl rfl rfl rfl rfl rfl rfl rfl)
                    exact trivial
                  exact trivial
                exact trivial
              refine allI_cons ?_ ?_
              · refine anyV_op rfl ?_
                refine VX.new rfl rfl ?_
                refine VX.nil ?_
                refine AnyV.more [3] (by kernel_rfl) (by simp) ?_
                refine allI_cons ?_ ?_
                · refine anyV_op rfl ?_
                  refine VX.callP0 rfl rfl rfl (planeOf_p tw th tpx htw2 hth2 htl htb) ?_
                  refine VX.nil ?_
                  refine AnyV.more [6] (by kernel_rfl) (by simp) ?_
                  refine allI_cons ?_ ?_
                  · refine anyV_op rfl ?_
                    refine VX.store rfl rfl rfl rfl rfl au_sR rfl ?_
                    refine VX.nil ?_
                    refine AnyV.more [7] (by kernel_rfl) (by simp) ?_
                    refine allI_cons ?_ ?_
                    · refine anyV_op rfl ?_
                      refine VX.store rfl rfl rfl rfl rfl au_sR rfl ?_
                      refine VX.nil ?_
                      exact AnyV.fin (by kernel_rfl) (tile_leaf 2 3 1 trivial rfl rfl rfl rfl rfl rfl rfl rfl rfl rfl rfl rfl rfl)
                    exact trivial
                  exact trivial
                exact trivial
              exact trivial
            refine allI_cons ?_ ?_
            · refine anyV_op rfl ?_
              refine VX.new rfl rfl ?_
              refine VX.nil ?_
              refine AnyV.more [3, 4] (by kernel_rfl) (by simp) ?_
              refine allI_cons ?_ ?_
              · refine anyV_op rfl ?_
                refine VX.callP0 rfl rfl rfl (planeOf_p tw th tpx htw2 hth2 htl htb) ?_
                refine VX.nil ?_
                refine AnyV.more [4] (by kernel_rfl) (by simp) ?_
                refine allI_cons ?_ ?_
                · refine anyV_op rfl ?_
                  refine VX.new rfl rfl ?_
                  refine VX.nil ?_
                  refine AnyV.more [6] (by kernel_rfl) (by simp) ?_
                  refine allI_cons ?_ ?_
                  · refine anyV_op rfl ?_
                    refine VX.store rfl rfl rfl rfl rfl au_sR rfl ?_
                    refine VX.nil ?_
                    refine AnyV.more [7] (by kernel_rfl) (by simp) ?_
                    refine allI_cons ?_ ?_
                    · refine anyV_op rfl ?_
                      refine VX.store rfl rfl rfl rfl rfl au_sR rfl ?_
                      refine VX.nil ?_
                      exact AnyV.fin (by kernel_rfl) (tile_leaf 3 2 1 trivial rfl rfl rfl rfl rfl rfl rfl rfl rfl rfl rfl rfl rfl)
                    exact trivial
                  exact trivial
                exact trivial
              refine allI_cons ?_ ?_
              · refine anyV_op rfl ?_
                refine VX.new rfl rfl ?_
                refine VX.nil ?_
                refine AnyV.more [3] (by kernel_rfl) (by simp) ?_
                refine allI_cons ?_ ?_
                · refine anyV_op rfl ?_
                  refine VX.callP0 rfl rfl rfl (planeOf_p tw th tpx htw2 hth2 htl htb) ?_
                  refine VX.nil ?_
                  refine AnyV.more [6] (by kernel_rfl) (by simp) ?_
                  refine allI_cons ?_ ?_
                  · refine anyV_op rfl ?_
                    refine VX.store rfl rfl rfl rfl rfl au_sR rfl ?_
                    refine VX.nil ?_
                    refine AnyV.more [7] (by kernel_rfl) (by simp) ?_
                    refine allI_cons ?_ ?_
                    · refine anyV_op rfl ?_
                      refine VX.store rfl rfl rfl rfl rfl au_sR rfl ?_
                      refine VX.nil ?_
                      exact AnyV.fin (by kernel_rfl) (tile_leaf 3 2 1 trivial rfl rfl rfl rfl rfl rfl rfl rfl rfl rfl rfl rfl rfl)
                    exact trivial
                  exact trivial
                exact trivial
              exact trivial
            exact trivial
          refine allI_cons ?_ ?_
          · refine anyV_op rfl ?_
            refine VX.new rfl rfl ?_
            refine VX.nil ?_
            refine AnyV.more [1, 5] (by kernel_rfl) (by simp) ?_
            refine allI_cons ?_ ?_
            · refine anyV_op rfl ?_
              refine VX.callT rfl rfl (CallT.frame (planeOf_t w h px hw hh hl hpb) [] rfl au_ci au_ci ?_)
              rintro _ _ ⟨rfl, rfl⟩
              refine frK au_co au_co ?_
              refine VX.nil ?_
              refine AnyV.more [3, 5] (by kernel_rfl) (by simp) ?_
              refine allI_cons ?_ ?_
              · refine anyV_op rfl ?_
                refine VX.callP0 rfl rfl rfl (planeOf_p tw th tpx htw2 hth2 htl htb) ?_
                refine VX.nil ?_
                refine AnyV.more [5] (by kernel_rfl) (by simp) ?_
                refine allI_cons ?_ ?_
                · refine anyV_op rfl ?_
                  refine VX.new rfl rfl ?_
                  refine VX.nil ?_
                  refine AnyV.more [6] (by kernel_rfl) (by simp) ?_
                  refine allI_cons ?_ ?_
                  · refine anyV_op rfl ?_
                    refine VX.store rfl rfl rfl rfl rfl au_sR rfl ?_
                    refine VX.nil ?_
                    refine AnyV.more [7] (by kernel_rfl) (by simp) ?_
                    refine allI_cons ?_ ?_
                    · refine anyV_op rfl ?_
                      refine VX.store rfl rfl rfl rfl rfl au_sR rfl ?_
                      refine VX.nil ?_
                      exact AnyV.fin (by kernel_rfl) (tile_leaf 1 3 2 trivial rfl rfl rfl rfl rfl rfl rfl rfl rfl rfl rfl rfl rfl)
                    exact trivial
                  exact trivial
                exact trivial
              refine allI_cons ?_ ?_
              · refine anyV_op rfl ?_
                refine VX.new rfl rfl ?_
                refine VX.nil ?_
                refine AnyV.more [3] (by kernel_rfl) (by simp) ?_
                refine allI_cons ?_ ?_
                · refine anyV_op rfl ?_
                  refine VX.callP0 rfl rfl rfl (planeOf_p tw th tpx htw2 hth2 htl htb) ?_
                  refine VX.nil ?_
                  refine AnyV.more [6] (by kernel_rfl) (by simp) ?_
                  refine allI_cons ?_ ?_
                  · refine anyV_op rfl ?_
                    refine VX.store rfl rfl rfl rfl rfl au_sR rfl ?_
                    refine VX.nil ?_
                    refine AnyV.more [7] (by kernel_rfl) (by simp) ?_
                    refine allI_cons ?_ ?_
                    · refine anyV_op rfl ?_
                      refine VX.store rfl rfl rfl rfl rfl au_sR rfl ?_
                      refine VX.nil ?_
                      exact AnyV.fin (by kernel_rfl) (tile_leaf 1 3 2 trivial rfl rfl rfl rfl rfl rfl rfl rfl rfl rfl rfl rfl rfl)
                    exact trivial
                  exact trivial
                exact trivial
              exact trivial
            refine allI_cons ?_ ?_
            · refine anyV_op rfl ?_
              refine VX.new rfl rfl ?_
              refine VX.nil ?_
              refine AnyV.more [1] (by kernel_rfl) (by simp) ?_
              refine allI_cons ?_ ?_
              · refine anyV_op rfl ?_
                refine VX.callT rfl rfl (CallT.frame (planeOf_t w h px hw hh hl hpb) [] rfl au_ci au_ci ?_)
                rintro _ _ ⟨rfl, rfl⟩
                refine frK au_co au_co ?_
                refine VX.nil ?_
                refine AnyV.more [3] (by kernel_rfl) (by simp) ?_
                refine allI_cons ?_ ?_
                · refine anyV_op rfl ?_
                  refine VX.callP0 rfl rfl rfl (planeOf_p tw th tpx htw2 hth2 htl htb) ?_
                  refine VX.nil ?_
                  refine AnyV.more [6] (by kernel_rfl) (by simp) ?_
                  refine allI_cons ?_ ?_
                  · refine anyV_op rfl ?_
                    refine VX.store rfl rfl rfl rfl rfl au_sR rfl ?_
                    refine VX.nil ?_
                    refine AnyV.more [7] (by kernel_rfl) (by simp) ?_
                    refine allI_cons ?_ ?_
                    · refine anyV_op rfl ?_
                      refine VX.store rfl rfl rfl rfl rfl au_sR rfl ?_
                      refine VX.nil ?_
                      exact AnyV.fin (by kernel_rfl) (tile_leaf 1 2 3 trivial rfl rfl rfl rfl rfl rfl rfl rfl rfl rfl rfl rfl rfl)
                    exact trivial
                  exact trivial
                exact trivial
              exact trivial
            exact trivial
          refine allI_cons ?_ ?_
          · refine anyV_op rfl ?_
            refine VX.new rfl rfl ?_
            refine VX.nil ?_
            refine AnyV.more [1, 4] (by kernel_rfl) (by simp) ?_
            refine allI_cons ?_ ?_
            · refine anyV_op rfl ?_
              refine VX.callT rfl rfl (CallT.frame (planeOf_t w h px hw hh hl hpb) [] rfl au_ci au_ci ?_)
              rintro _ _ ⟨rfl, rfl⟩
              refine frK au_co au_co ?_
              refine VX.nil ?_
              refine AnyV.more [3, 4] (by kernel_rfl) (by simp) ?_
              refine allI_cons ?_ ?_
              · refine anyV_op rfl ?_
                refine VX.callP0 rfl rfl rfl (planeOf_p tw th tpx htw2 hth2 htl htb) ?_
                refine VX.nil ?_
                refine AnyV.more [4] (by kernel_rfl) (by simp) ?_
                refine allI_cons ?_ ?_
                · refine anyV_op rfl ?_
                  refine VX.new rfl rfl ?_
                  refine VX.nil ?_
                  refine AnyV.more [6] (by kernel_rfl) (by simp) ?_
                  refine allI_cons ?_ ?_
                  · refine anyV_op rfl ?_
                    refine VX.store rfl rfl rfl rfl rfl au_sR rfl ?_
                    refine VX.nil ?_
                    refine AnyV.more [7] (by kernel_rfl) (by simp) ?_
                    refine allI_cons ?_ ?_
                    · refine anyV_op rfl ?_
                      refine VX.store rfl rfl rfl rfl rfl au_sR rfl ?_
                      refine VX.nil ?_
                      exact AnyV.fin (by kernel_rfl) (tile_leaf 3 1 2 trivial rfl rfl rfl rfl rfl rfl rfl rfl rfl rfl rfl rfl rfl)
                    exact trivial
                  exact trivial
                exact trivial
              refine allI_cons ?_ ?_
              · refine anyV_op rfl ?_
                refine VX.new rfl rfl ?_
                refine VX.nil ?_
                refine AnyV.more [3] (by kernel_rfl) (by simp) ?_
                refine allI_cons ?_ ?_
                · refine anyV_op rfl ?_
                  refine VX.callP0 rfl rfl rfl (planeOf_p tw th tpx htw2 hth2 htl htb) ?_
                  refine VX.nil ?_
                  refine AnyV.more [6] (by kernel_rfl) (by simp) ?_
                  refine allI_cons ?_ ?_
                  · refine anyV_op rfl ?_
                    refine VX.store rfl rfl rfl rfl rfl au_sR rfl ?_
                    refine VX.nil ?_
                    refine AnyV.more [7] (by kernel_rfl) (by simp) ?_
                    refine allI_cons ?_ ?_
                    · refine anyV_op rfl ?_
                      refine VX.store rfl rfl rfl rfl rfl au_sR rfl ?_
                      refine VX.nil ?_
                      exact AnyV.fin (by kernel_rfl) (tile_leaf 3 1 2 trivial rfl rfl rfl rfl rfl rfl rfl rfl rfl rfl rfl rfl rfl)
                    exact trivial
                  exact trivial
                exact trivial
              exact trivial
            refine allI_cons ?_ ?_
            · refine anyV_op rfl ?_
              refine VX.new rfl rfl ?_
              refine VX.nil ?_
              refine AnyV.more [1] (by kernel_rfl) (by simp) ?_
              refine allI_cons ?_ ?_
              · refine anyV_op rfl ?_
                refine VX.callT rfl rfl (CallT.frame (planeOf_t w h px hw hh hl hpb) [] rfl au_ci au_ci ?_)
                rintro _ _ ⟨rfl, rfl⟩
                refine frK au_co au_co ?_
                refine VX.nil ?_
                refine AnyV.more [3] (by kernel_rfl) (by simp) ?_
                refine allI_cons ?_ ?_
                · refine anyV_op rfl ?_
                  refine VX.callP0 rfl rfl rfl (planeOf_p tw th tpx htw2 hth2 htl htb) ?_
                  refine VX.nil ?_
                  refine AnyV.more [6] (by kernel_rfl) (by simp) ?_
                  refine allI_cons ?_ ?_
                  · refine anyV_op rfl ?_
                    refine VX.store rfl rfl rfl rfl rfl au_sR rfl ?_
                    refine VX.nil ?_
                    refine AnyV.more [7] (by kernel_rfl) (by simp) ?_
                    refine allI_cons ?_ ?_
                    · refine anyV_op rfl ?_
                      refine VX.store rfl rfl rfl rfl rfl au_sR rfl ?_
                      refine VX.nil ?_
                      exact AnyV.fin (by kernel_rfl) (tile_leaf 2 1 3 trivial rfl rfl rfl rfl rfl rfl rfl rfl rfl rfl rfl rfl rfl)
                    exact trivial
                  exact trivial
                exact trivial
              exact trivial
            exact trivial
          exact trivial
        refine allI_cons ?_ ?_
        · refine anyV_op rfl ?_
          refine VX.new rfl rfl ?_
          refine VX.nil ?_
          refine AnyV.more [0, 5] (by kernel_rfl) (by simp) ?_
          refine allI_cons ?_ ?_
          · refine anyV_op rfl ?_
            first | refine VX.meek rfl ?_ | refine VX.loadI rfl rfl au_l ?_ | refine VX.loadP rfl rfl rfl au_l ?_
            refine VX.nil ?_
            refine AnyV.more [1, 5] (by kernel_rfl) (by simp) ?_
            refine allI_cons ?_ ?_
            · refine anyV_op rfl ?_
              refine VX.callT rfl rfl (CallT.frame (planeOf_t w h px hw hh hl hpb) [] rfl au_ci au_ci ?_)
              rintro _ _ ⟨rfl, rfl⟩
              refine frK au_co au_co ?_
              refine VX.nil ?_
              refine AnyV.more [3, 5] (by kernel_rfl) (by simp) ?_
              refine allI_cons ?_ ?_
              · refine anyV_op rfl ?_
                refine VX.callP0 rfl rfl rfl (planeOf_p tw th tpx htw2 hth2 htl htb) ?_
                refine VX.nil ?_
                refine AnyV.more [5] (by kernel_rfl) (by simp) ?_
                refine allI_cons ?_ ?_
                · refine anyV_op rfl ?_
                  refine VX.new rfl rfl ?_
                  refine VX.nil ?_
                  refine AnyV.more [6] (by kernel_rfl) (by simp) ?_
                  refine allI_cons ?_ ?_
                  · refine anyV_op rfl ?_
                    refine VX.store rfl rfl rfl rfl rfl au_sR rfl ?_
                    refine VX.nil ?_
                    refine AnyV.more [7] (by kernel_rfl) (by simp) ?_
                    refine allI_cons ?_ ?_
                    · refine anyV_op rfl ?_
                      refine VX.store rfl rfl rfl rfl rfl au_sR rfl ?_
                      refine VX.nil ?_
                      exact AnyV.fin (by kernel_rfl) (tile_leaf 1 3 2 trivial rfl rfl rfl rfl rfl rfl rfl rfl rfl rfl rfl rfl rfl)
                    exact trivial
                  exact trivial
                exact trivial
              refine allI_cons ?_ ?_
              · refine anyV_op rfl ?_
                refine VX.new rfl rfl ?_
                refine VX.nil ?_
                refine AnyV.more [3] (by kernel_rfl) (by simp) ?_
                refine allI_cons ?_ ?_
                · refine anyV_op rfl ?_
                  refine VX.callP0 rfl rfl rfl (planeOf_p tw th tpx htw2 hth2 htl htb) ?_
                  refine VX.nil ?_
                  refine AnyV.more [6] (by kernel_rfl) (by simp) ?_
                  refine allI_cons ?_ ?_
                  · refine anyV_op rfl ?_
                    refine VX.store rfl rfl rfl rfl rfl au_sR rfl ?_
                    refine VX.nil ?_
                    refine AnyV.more [7] (by kernel_rfl) (by simp) ?_
                    refine allI_cons ?_ ?_
                    · refine anyV_op rfl ?_
                      refine VX.store rfl rfl rfl rfl rfl au_sR rfl ?_
                      refine VX.nil ?_
                      exact AnyV.fin (by kernel_rfl) (tile_leaf 1 3 2 trivial rfl rfl rfl rfl rfl rfl rfl rfl rfl rfl rfl rfl rfl)
                    exact trivial
                  exact trivial
                exact trivial
              exact trivial
            refine allI_cons ?_ ?_
            · refine anyV_op rfl ?_
              refine VX.new rfl rfl ?_
              refine VX.nil ?_
              refine AnyV.more [1] (by kernel_rfl) (by simp) ?_
              refine allI_cons ?_ ?_
              · refine anyV_op rfl ?_
                refine VX.callT rfl rfl (CallT.frame (planeOf_t w h px hw hh hl hpb) [] rfl au_ci au_ci ?_)
                rintro _ _ ⟨rfl, rfl⟩
                refine frK au_co au_co ?_
                refine VX.nil ?_
                refine AnyV.more [3] (by kernel_rfl) (by simp) ?_
                refine allI_cons ?_ ?_
                · refine anyV_op rfl ?_
                  refine VX.callP0 rfl rfl rfl (planeOf_p tw th tpx htw2 hth2 htl htb) ?_
                  refine VX.nil ?_
                  refine AnyV.more [6] (by kernel_rfl) (by simp) ?_
                  refine allI_cons ?_ ?_
                  · refine anyV_op rfl ?_
                    refine VX.store rfl rfl rfl rfl rfl au_sR rfl ?_
                    refine VX.nil ?_
                    refine AnyV.more [7] (by kernel_rfl) (by simp) ?_
                    refine allI_cons ?_ ?_
                    · refine anyV_op rfl ?_
                      refine VX.store rfl rfl rfl rfl rfl au_sR rfl ?_
                      refine VX.nil ?_
                      exact AnyV.fin (by kernel_rfl) (tile_leaf 1 2 3 trivial rfl rfl rfl rfl rfl rfl rfl rfl rfl rfl rfl rfl rfl)
                    exact trivial
                  exact trivial
                exact trivial
              exact trivial
            exact trivial
          refine allI_cons ?_ ?_
          · refine anyV_op rfl ?_
            refine VX.new rfl rfl ?_
            refine VX.nil ?_
            refine AnyV.more [0] (by kernel_rfl) (by simp) ?_
            refine allI_cons ?_ ?_
            · refine anyV_op rfl ?_
              first | refine VX.meek rfl ?_ | refine VX.loadI rfl rfl au_l ?_ | refine VX.loadP rfl rfl rfl au_l ?_
              refine VX.nil ?_
              refine AnyV.more [1] (by kernel_rfl) (by simp) ?_
              refine allI_cons ?_ ?_
              · refine anyV_op rfl ?_
                refine VX.callT rfl rfl (CallT.frame (planeOf_t w h px hw hh hl hpb) [] rfl au_ci au_ci ?_)
                rintro _ _ ⟨rfl, rfl⟩
                refine frK au_co au_co ?_
                refine VX.nil ?_
                refine AnyV.more [3] (by kernel_rfl) (by simp) ?_
                refine allI_cons ?_ ?_
                · refine anyV_op rfl ?_
                  refine VX.callP0 rfl rfl rfl (planeOf_p tw th tpx htw2 hth2 htl htb) ?_
                  refine VX.nil ?_
                  refine AnyV.more [6] (by kernel_rfl) (by simp) ?_
                  refine allI_cons ?_ ?_
                  · refine anyV_op rfl ?_
                    refine VX.store rfl rfl rfl rfl rfl au_sR rfl ?_
                    refine VX.nil ?_
                    refine AnyV.more [7] (by kernel_rfl) (by simp) ?_
                    refine allI_cons ?_ ?_
                    · refine anyV_op rfl ?_
                      refine VX.store rfl rfl rfl rfl rfl au_sR rfl ?_
                      refine VX.nil ?_
                      exact AnyV.fin (by kernel_rfl) (tile_leaf 1 2 3 trivial rfl rfl rfl rfl rfl rfl rfl rfl rfl rfl rfl rfl rfl)
                    exact trivial
                  exact trivial
                exact trivial
              exact trivial
            exact trivial
          exact trivial
        refine allI_cons ?_ ?_
        · refine anyV_op rfl ?_
          refine VX.new rfl rfl ?_
          refine VX.nil ?_
          refine AnyV.more [0, 4] (by kernel_rfl) (by simp) ?_
          refine allI_cons ?_ ?_
          · refine anyV_op rfl ?_
            first | refine VX.meek rfl ?_ | refine VX.loadI rfl rfl au_l ?_ | refine VX.loadP rfl rfl rfl au_l ?_
            refine VX.nil ?_
            refine AnyV.more [1, 4] (by kernel_rfl) (by simp) ?_
            refine allI_cons ?_ ?_
            · refine anyV_op rfl ?_
              refine VX.callT rfl rfl (CallT.frame (planeOf_t w h px hw hh hl hpb) [] rfl au_ci au_ci ?_)
              rintro _ _ ⟨rfl, rfl⟩
              refine frK au_co au_co ?_
              refine VX.nil ?_
              refine AnyV.more [3, 4] (by kernel_rfl) (by simp) ?_
              refine allI_cons ?_ ?_
              · refine anyV_op rfl ?_
                refine VX.callP0 rfl rfl rfl (planeOf_p tw th tpx htw2 hth2 htl htb) ?_
                refine VX.nil ?_
                refine AnyV.more [4] (by kernel_rfl) (by simp) ?_
                refine allI_cons ?_ ?_
                · refine anyV_op rfl ?_
                  refine VX.new rfl rfl ?_
                  refine VX.nil ?_
                  refine AnyV.more [6] (by kernel_rfl) (by simp) ?_
                  refine allI_cons ?_ ?_
                  · refine anyV_op rfl ?_
                    refine VX.store rfl rfl rfl rfl rfl au_sR rfl ?_
                    refine VX.nil ?_
                    refine AnyV.more [7] (by kernel_rfl) (by simp) ?_
                    refine allI_cons ?_ ?_
                    · refine anyV_op rfl ?_
                      refine VX.store rfl rfl rfl rfl rfl au_sR rfl ?_
                      refine VX.nil ?_
                      exact AnyV.fin (by kernel_rfl) (tile_leaf 3 1 2 trivial rfl rfl rfl rfl rfl rfl rfl rfl rfl rfl rfl rfl rfl)
                    exact trivial
                  exact trivial
                exact trivial
              refine allI_cons ?_ ?_
              · refine anyV_op rfl ?_
                refine VX.new rfl rfl ?_
                refine VX.nil ?_
                refine AnyV.more [3] (by kernel_rfl) (by simp) ?_
                refine allI_cons ?_ ?_
                · refine anyV_op rfl ?_
                  refine VX.callP0 rfl rfl rfl (planeOf_p tw th tpx htw2 hth2 htl htb) ?_
                  refine VX.nil ?_
                  refine AnyV.more [6] (by kernel_rfl) (by simp) ?_
                  refine allI_cons ?_ ?_
                  · refine anyV_op rfl ?_
                    refine VX.store rfl rfl rfl rfl rfl au_sR rfl ?_
                    refine VX.nil ?_
                    refine AnyV.more [7] (by kernel_rfl) (by simp) ?_
                    refine allI_cons ?_ ?_
                    · refine anyV_op rfl ?_
                      refine VX.store rfl rfl rfl rfl rfl au_sR rfl ?_
                      refine VX.nil ?_
                      exact AnyV.fin (by kernel_rfl) (tile_leaf 3 1 2 trivial rfl rfl rfl rfl rfl rfl rfl rfl rfl rfl rfl rfl rfl)
                    exact trivial
                  exact trivial
                exact trivial
              exact trivial
            refine allI_cons ?_ ?_
            · refine anyV_op rfl ?_
              refine VX.new rfl rfl ?_
              refine VX.nil ?_
              refine AnyV.more [1] (by kernel_rfl) (by simp) ?_
              refine allI_cons ?_ ?_
              · refine anyV_op rfl ?_
                refine VX.callT rfl rfl (CallT.frame (planeOf_t w h px hw hh hl hpb) [] rfl au_ci au_ci ?_)
                rintro _ _ ⟨rfl, rfl⟩
                refine frK au_co au_co ?_
                refine VX.nil ?_
                refine AnyV.more [3] (by kernel_rfl) (by simp) ?_
                refine allI_cons ?_ ?_
                · refine anyV_op rfl ?_
                  refine VX.callP0 rfl rfl rfl (planeOf_p tw th tpx htw2 hth2 htl htb) ?_
                  refine VX.nil ?_
                  refine AnyV.more [6] (by kernel_rfl) (by simp) ?_
                  refine allI_cons ?_ ?_
                  · refine anyV_op rfl ?_
                    refine VX.store rfl rfl rfl rfl rfl au_sR rfl ?_
                    refine VX.nil ?_
                    refine AnyV.more [7] (by kernel_rfl) (by simp) ?_
                    refine allI_cons ?_ ?_
                    · refine anyV_op rfl ?_
                      refine VX.store rfl rfl rfl rfl rfl au_sR rfl ?_
                      refine VX.nil ?_
                      exact AnyV.fin (by kernel_rfl) (tile_leaf 2 1 3 trivial rfl rfl rfl rfl rfl rfl rfl rfl rfl rfl rfl rfl rfl)
                    exact trivial
                  exact trivial
                exact trivial
              exact trivial
            exact trivial
          refine allI_cons ?_ ?_
          · refine anyV_op rfl ?_
            refine VX.new rfl rfl ?_
            refine VX.nil ?_
            refine AnyV.more [0] (by kernel_rfl) (by simp) ?_
            refine allI_cons ?_ ?_
            · refine anyV_op rfl ?_
              first | refine VX.meek rfl ?_ | refine VX.loadI rfl rfl au_l ?_ | refine VX.loadP rfl rfl rfl au_l ?_
              refine VX.nil ?_
              refine AnyV.more [1] (by kernel_rfl) (by simp) ?_
              refine allI_cons ?_ ?_
              · refine anyV_op rfl ?_
                refine VX.callT rfl rfl (CallT.frame (planeOf_t w h px hw hh hl hpb) [] rfl au_ci au_ci ?_)
                rintro _ _ ⟨rfl, rfl⟩
                refine frK au_co au_co ?_
                refine VX.nil ?_
                refine AnyV.more [3] (by kernel_rfl) (by simp) ?_
                refine allI_cons ?_ ?_
                · refine anyV_op rfl ?_
                  refine VX.callP0 rfl rfl rfl (planeOf_p tw th tpx htw2 hth2 htl htb) ?_
                  refine VX.nil ?_
                  refine AnyV.more [6] (by kernel_rfl) (by simp) ?_
                  refine allI_cons ?_ ?_
                  · refine anyV_op rfl ?_
                    refine VX.store rfl rfl rfl rfl rfl au_sR rfl ?_
                    refine VX.nil ?_
                    refine AnyV.more [7] (by kernel_rfl) (by simp) ?_
                    refine allI_cons ?_ ?_
                    · refine anyV_op rfl ?_
                      refine VX.store rfl rfl rfl rfl rfl au_sR rfl ?_
                      refine VX.nil ?_
                      exact AnyV.fin (by kernel_rfl) (tile_leaf 2 1 3 trivial rfl rfl rfl rfl rfl rfl rfl rfl rfl rfl rfl rfl rfl)
                    exact trivial
                  exact trivial
                exact trivial
              exact trivial
            exact trivial
          exact trivial
        exact trivial
      refine allI_cons ?_ ?_
      · refine anyV_op rfl ?_
        refine VX.new rfl rfl ?_
        refine VX.nil ?_
        refine AnyV.more [0, 2, 5] (by kernel_rfl) (by simp) ?_
        refine allI_cons ?_ ?_
        · refine anyV_op rfl ?_
          first | refine VX.meek rfl ?_ | refine VX.loadI rfl rfl au_l ?_ | refine VX.loadP rfl rfl rfl au_l ?_
          refine VX.nil ?_
          refine AnyV.more [1, 2, 5] (by kernel_rfl) (by simp) ?_
          refine allI_cons ?_ ?_
          · refine anyV_op rfl ?_
            refine VX.callT rfl rfl (CallT.frame (planeOf_t w h px hw hh hl hpb) [] rfl au_ci au_ci ?_)
            rintro _ _ ⟨rfl, rfl⟩
            refine frK au_co au_co ?_
            refine VX.nil ?_
            refine AnyV.more [2, 5] (by kernel_rfl) (by simp) ?_
            refine allI_cons ?_ ?_
            · refine anyV_op rfl ?_
              first | refine VX.meek rfl ?_ | refine VX.loadI rfl rfl au_l ?_ | refine VX.loadP rfl rfl rfl au_l ?_
              refine VX.nil ?_
              refine AnyV.more [3, 5] (by kernel_rfl) (by simp) ?_
              refine allI_cons ?_ ?_
              · refine anyV_op rfl ?_
                refine VX.callP0 rfl rfl rfl (planeOf_p tw th tpx htw2 hth2 htl htb) ?_
                refine VX.nil ?_
                refine AnyV.more [5] (by kernel_rfl) (by simp) ?_
                refine allI_cons ?_ ?_
                · refine anyV_op rfl ?_
                  refine VX.new rfl rfl ?_
                  refine VX.nil ?_
                  refine AnyV.more [6] (by kernel_rfl) (by simp) ?_
                  refine allI_cons ?_ ?_
                  · refine anyV_op rfl ?_
                    refine VX.store rfl rfl rfl rfl rfl au_sR rfl ?_
                    refine VX.nil ?_
                    refine AnyV.more [7] (by kernel_rfl) (by simp) ?_
                    refine allI_cons ?_ ?_
                    · refine anyV_op rfl ?_
                      refine VX.store rfl rfl rfl rfl rfl au_sR rfl ?_
                      refine VX.nil ?_
                      exact AnyV.fin (by kernel_rfl) (tile_leaf 1 3 2 trivial rfl rfl rfl rfl rfl rfl rfl rfl rfl rfl rfl rfl rfl)
                    exact trivial
                  exact trivial
                exact trivial
              refine allI_cons ?_ ?_
              · refine anyV_op rfl ?_
                refine VX.new rfl rfl ?_
                refine VX.nil ?_
                refine AnyV.more [3] (by kernel_rfl) (by simp) ?_
                refine allI_cons ?_ ?_
                · refine anyV_op rfl ?_
                  refine VX.callP0 rfl rfl rfl (planeOf_p tw th tpx htw2 hth2 htl htb) ?_
                  refine VX.nil ?_
                  refine AnyV.more [6] (by kernel_rfl) (by simp) ?_
                  refine allI_cons ?_ ?_
                  · refine anyV_op rfl ?_
                    refine VX.store rfl rfl rfl rfl rfl au_sR rfl ?_
                    refine VX.nil ?_
                    refine AnyV.more [7] (by kernel_rfl) (by simp) ?_
                    refine allI_cons ?_ ?_
                    · refine anyV_op rfl ?_
                      refine VX.store rfl rfl rfl rfl rfl au_sR rfl ?_
                      refine VX.nil ?_
                      exact AnyV.fin (by kernel_rfl) (tile_leaf 1 3 2 trivial rfl rfl rfl rfl rfl rfl rfl rfl rfl rfl rfl rfl rfl)
                    exact trivial
                  exact trivial
                exact trivial
              exact trivial
            refine allI_cons ?_ ?_
            · refine anyV_op rfl ?_
              refine VX.new rfl rfl ?_
              refine VX.nil ?_
              refine AnyV.more [2] (by kernel_rfl) (by simp) ?_
              refine allI_cons ?_ ?_
              · refine anyV_op rfl ?_
                first | refine VX.meek rfl ?_ | refine VX.loadI rfl rfl au_l ?_ | refine VX.loadP rfl rfl rfl au_l ?_
                refine VX.nil ?_
                refine AnyV.more [3] (by kernel_rfl) (by simp) ?_
                refine allI_cons ?_ ?_
                · refine anyV_op rfl ?_
                  refine VX.callP0 rfl rfl rfl (planeOf_p tw th tpx htw2 hth2 htl htb) ?_
                  refine VX.nil ?_
                  refine AnyV.more [6] (by kernel_rfl) (by simp) ?_
                  refine allI_cons ?_ ?_
                  · refine anyV_op rfl ?_
                    refine VX.store rfl rfl rfl rfl rfl au_sR rfl ?_
                    refine VX.nil ?_
                    refine AnyV.more [7] (by kernel_rfl) (by simp) ?_
                    refine allI_cons ?_ ?_
                    · refine anyV_op rfl ?_
                      refine VX.store rfl rfl rfl rfl rfl au_sR rfl ?_
                      refine VX.nil ?_
                      exact AnyV.fin (by kernel_rfl) (tile_leaf 1 3 2 trivial rfl rfl rfl rfl rfl rfl rfl rfl rfl rfl rfl rfl rfl)
                    exact trivial
                  exact trivial
                exact trivial
              exact trivial
            exact trivial
          refine allI_cons ?_ ?_
          · refine anyV_op rfl ?_
            first | refine VX.meek rfl ?_ | refine VX.loadI rfl rfl au_l ?_ | refine VX.loadP rfl rfl rfl au_l ?_
            refine VX.nil ?_
            refine AnyV.more [1, 5] (by kernel_rfl) (by simp) ?_
            refine allI_cons ?_ ?_
            · refine anyV_op rfl ?_
              refine VX.callT rfl rfl (CallT.frame (planeOf_t w h px hw hh hl hpb) [] rfl au_ci au_ci ?_)
              rintro _ _ ⟨rfl, rfl⟩
              refine frK au_co au_co ?_
              refine VX.nil ?_
              refine AnyV.more [3, 5] (by kernel_rfl) (by simp) ?_
              refine allI_cons ?_ ?_
              · refine anyV_op rfl ?_
                refine VX.callP0 rfl rfl rfl (planeOf_p tw th tpx htw2 hth2 htl htb) ?_
                refine VX.nil ?_
                refine AnyV.more [5] (by kernel_rfl) (by simp) ?_
                refine allI_cons ?_ ?_
                · refine anyV_op rfl ?_
                  refine VX.new rfl rfl ?_
                  refine VX.nil ?_
                  refine AnyV.more [6] (by kernel_rfl) (by simp) ?_
                  refine allI_cons ?_ ?_
                  · refine anyV_op rfl ?_
                    refine VX.store rfl rfl rfl rfl rfl au_sR rfl ?_
                    refine VX.nil ?_
                    refine AnyV.more [7] (by kernel_rfl) (by simp) ?_
                    refine allI_cons ?_ ?_
                    · refine anyV_op rfl ?_
                      refine VX.store rfl rfl rfl rfl rfl au_sR rfl ?_
                      refine VX.nil ?_
                      exact AnyV.fin (by kernel_rfl) (tile_leaf 1 3 2 trivial rfl rfl rfl rfl rfl rfl rfl rfl rfl rfl rfl rfl rfl)
                    exact trivial
                  exact trivial
                exact trivial
              refine allI_cons ?_ ?_
              · refine anyV_op rfl ?_
                refine VX.new rfl rfl ?_
                refine VX.nil ?_
                refine AnyV.more [3] (by kernel_rfl) (by simp) ?_
                refine allI_cons ?_ ?_
                · refine anyV_op rfl ?_
                  refine VX.callP0 rfl rfl rfl (planeOf_p tw th tpx htw2 hth2 htl htb) ?_
                  refine VX.nil ?_
                  refine AnyV.more [6] (by kernel_rfl) (by simp) ?_
                  refine allI_cons ?_ ?_
                  · refine anyV_op rfl ?_
                    refine VX.store rfl rfl rfl rfl rfl au_sR rfl ?_
                    refine VX.nil ?_
                    refine AnyV.more [7] (by kernel_rfl) (by simp) ?_
                    refine allI_cons ?_ ?_
                    · refine anyV_op rfl ?_
                      refine VX.store rfl rfl rfl rfl rfl au_sR rfl ?_
                      refine VX.nil ?_
                      exact AnyV.fin (by kernel_rfl) (tile_leaf 1 3 2 trivial rfl rfl rfl rfl rfl rfl rfl rfl rfl rfl rfl rfl rfl)
                    exact trivial
                  exact trivial
                exact trivial
              exact trivial
            refine allI_cons ?_ ?_
            · refine anyV_op rfl ?_
              refine VX.new rfl rfl ?_
              refine VX.nil ?_
              refine AnyV.more [1] (by kernel_rfl) (by simp) ?_
              refine allI_cons ?_ ?_
              · refine anyV_op rfl ?_
                refine VX.callT rfl rfl (CallT.frame (planeOf_t w h px hw hh hl hpb) [] rfl au_ci au_ci ?_)
                rintro _ _ ⟨rfl, rfl⟩
                refine frK au_co au_co ?_
                refine VX.nil ?_
                refine AnyV.more [3] (by kernel_rfl) (by simp) ?_
                refine allI_cons ?_ ?_
                · refine anyV_op rfl ?_
                  refine VX.callP0 rfl rfl rfl (planeOf_p tw th tpx htw2 hth2 htl htb) ?_
                  refine VX.nil ?_
                  refine AnyV.more [6] (by kernel_rfl) (by simp) ?_
                  refine allI_cons ?_ ?_
                  · refine anyV_op rfl ?_
                    refine VX.store rfl rfl rfl rfl rfl au_sR rfl ?_
                    refine VX.nil ?_
                    refine AnyV.more [7] (by kernel_rfl) (by simp) ?_
                    refine allI_cons ?_ ?_
                    · refine anyV_op rfl ?_
                      refine VX.store rfl rfl rfl rfl rfl au_sR rfl ?_
                      refine VX.nil ?_
                      exact AnyV.fin (by kernel_rfl) (tile_leaf 1 2 3 trivial rfl rfl rfl rfl rfl rfl rfl rfl rfl rfl rfl rfl rfl)
                    exact trivial
                  exact trivial
                exact trivial
              exact trivial
            exact trivial
          refine allI_cons ?_ ?_
          · refine anyV_op rfl ?_
            refine VX.new rfl rfl ?_
            refine VX.nil ?_
            refine AnyV.more [1, 2] (by kernel_rfl) (by simp) ?_
            refine allI_cons ?_ ?_
            · refine anyV_op rfl ?_
              refine VX.callT rfl rfl (CallT.frame (planeOf_t w h px hw hh hl hpb) [] rfl au_ci au_ci ?_)
              rintro _ _ ⟨rfl, rfl⟩
              refine frK au_co au_co ?_
              refine VX.nil ?_
              refine AnyV.more [2] (by kernel_rfl) (by simp) ?_
              refine allI_cons ?_ ?_
              · refine anyV_op rfl ?_
                first | refine VX.meek rfl ?_ | refine VX.loadI rfl rfl au_l ?_ | refine VX.loadP rfl rfl rfl au_l ?_
                refine VX.nil ?_
                refine AnyV.more [3] (by kernel_rfl) (by simp) ?_
                refine allI_cons ?_ ?_
                · refine anyV_op rfl ?_
                  refine VX.callP0 rfl rfl rfl (planeOf_p tw th tpx htw2 hth2 htl htb) ?_
                  refine VX.nil ?_
                  refine AnyV.more [6] (by kernel_rfl) (by simp) ?_
                  refine allI_cons ?_ ?_
                  · refine anyV_op rfl ?_
                    refine VX.store rfl rfl rfl rfl rfl au_sR rfl ?_
                    refine VX.nil ?_
                    refine AnyV.more [7] (by kernel_rfl) (by simp) ?_
                    refine allI_cons ?_ ?_
                    · refine anyV_op rfl ?_
                      refine VX.store rfl rfl rfl rfl rfl au_sR rfl ?_
                      refine VX.nil ?_
                      exact AnyV.fin (by kernel_rfl) (tile_leaf 1 2 3 trivial rfl rfl rfl rfl rfl rfl rfl rfl rfl rfl rfl rfl rfl)
                    exact trivial
                  exact trivial
                exact trivial
              exact trivial
            refine allI_cons ?_ ?_
            · refine anyV_op rfl ?_
              first | refine VX.meek rfl ?_ | refine VX.loadI rfl rfl au_l ?_ | refine VX.loadP rfl rfl rfl au_l ?_
              refine VX.nil ?_
              refine AnyV.more [1] (by kernel_rfl) (by simp) ?_
              refine allI_cons ?_ ?_
              · refine anyV_op rfl ?_
                refine VX.callT rfl rfl (CallT.frame (planeOf_t w h px hw hh hl hpb) [] rfl au_ci au_ci ?_)
                rintro _ _ ⟨rfl, rfl⟩
                refine frK au_co au_co ?_
                refine VX.nil ?_
                refine AnyV.more [3] (by kernel_rfl) (by simp) ?_
                refine allI_cons ?_ ?_
                · refine anyV_op rfl ?_
                  refine VX.callP0 rfl rfl rfl (planeOf_p tw th tpx htw2 hth2 htl htb) ?_
                  refine VX.nil ?_
                  refine AnyV.more [6] (by kernel_rfl) (by simp) ?_
                  refine allI_cons ?_ ?_
                  · refine anyV_op rfl ?_
                    refine VX.store rfl rfl rfl rfl rfl au_sR rfl ?_
                    refine VX.nil ?_
                    refine AnyV.more [7] (by kernel_rfl) (by simp) ?_
                    refine allI_cons ?_ ?_
                    · refine anyV_op rfl ?_
                      refine VX.store rfl rfl rfl rfl rfl au_sR rfl ?_
                      refine VX.nil ?_
                      exact AnyV.fin (by kernel_rfl) (tile_leaf 1 2 3 trivial rfl rfl rfl rfl rfl rfl rfl rfl rfl rfl rfl rfl rfl)
                    exact trivial
                  exact trivial
                exact trivial
              exact trivial
            exact trivial
          exact trivial
        refine allI_cons ?_ ?_
        · refine anyV_op rfl ?_
          first | refine VX.meek rfl ?_ | refine VX.loadI rfl rfl au_l ?_ | refine VX.loadP rfl rfl rfl au_l ?_
          refine VX.nil ?_
          refine AnyV.more [0, 5] (by kernel_rfl) (by simp) ?_
          refine allI_cons ?_ ?_
          · refine anyV_op rfl ?_
            first | refine VX.meek rfl ?_ | refine VX.loadI rfl rfl au_l ?_ | refine VX.loadP rfl rfl rfl au_l ?_
            refine VX.nil ?_
            refine AnyV.more [1, 5] (by kernel_rfl) (by simp) ?_
            refine allI_cons ?_ ?_
            · refine anyV_op rfl ?_
              refine VX.callT rfl rfl (CallT.frame (planeOf_t w h px hw hh hl hpb) [] rfl au_ci au_ci ?_)
              rintro _ _ ⟨rfl, rfl⟩
              refine frK au_co au_co ?_
              refine VX.nil ?_
              refine AnyV.more [3, 5] (by kernel_rfl) (by simp) ?_
              refine allI_cons ?_ ?_
              · refine anyV_op rfl ?_
                refine VX.callP0 rfl rfl rfl (planeOf_p tw th tpx htw2 hth2 htl htb) ?_
                refine VX.nil ?_
                refine AnyV.more [5] (by kernel_rfl) (by simp) ?_
                refine allI_cons ?_ ?_
                · refine anyV_op rfl ?_
                  refine VX.new rfl rfl ?_
                  refine VX.nil ?_
                  refine AnyV.more [6] (by kernel_rfl) (by simp) ?_
                  refine allI_cons ?_ ?_
                  · refine anyV_op rfl ?_
                    refine VX.store rfl rfl rfl rfl rfl au_sR rfl ?_
                    refine VX.nil ?_
                    refine AnyV.more [7] (by kernel_rfl) (by simp) ?_
                    refine allI_cons ?_ ?_
                    · refine anyV_op rfl ?_
                      refine VX.store rfl rfl rfl rfl rfl au_sR rfl ?_
                      refine VX.nil ?_
                      exact AnyV.fin (by kernel_rfl) (tile_leaf 1 3 2 trivial rfl rfl rfl rfl rfl rfl rfl rfl rfl rfl rfl rfl rfl)
                    exact trivial
                  exact trivial
                exact trivial
              refine allI_cons ?_ ?_
              · refine anyV_op rfl ?_
                refine VX.new rfl rfl ?_
                refine VX.nil ?_
                refine AnyV.more [3] (by kernel_rfl) (by simp) ?_
                refine allI_cons ?_ ?_
                · refine anyV_op rfl ?_
                  refine VX.callP0 rfl rfl rfl (planeOf_p tw th tpx htw2 hth2 htl htb) ?_
                  refine VX.nil ?_
                  refine AnyV.more [6] (by kernel_rfl) (by simp) ?_
                  refine allI_cons ?_ ?_
                  · refine anyV_op rfl ?_
                    refine VX.store rfl rfl rfl rfl rfl au_sR rfl ?_
                    refine VX.nil ?_
                    refine AnyV.more [7] (by kernel_rfl) (by simp) ?_
                    refine allI_cons ?_ ?_
                    · refine anyV_op rfl ?_
                      refine VX.store rfl rfl rfl rfl rfl au_sR rfl ?_
                      refine VX.nil ?_
                      exact AnyV.fin (by kernel_rfl) (tile_leaf 1 3 2 trivial rfl rfl rfl rfl rfl rfl rfl rfl rfl rfl rfl rfl rfl)
                    exact trivial
                  exact trivial
                exact trivial
              exact trivial
            refine allI_cons ?_ ?_
            · refine anyV_op rfl ?_
              refine VX.new rfl rfl ?_
              refine VX.nil ?_
              refine AnyV.more [1] (by kernel_rfl) (by simp) ?_
              refine allI_cons ?_ ?_
              · refine anyV_op rfl ?_
                refine VX.callT rfl rfl (CallT.frame (planeOf_t w h px hw hh hl hpb) [] rfl au_ci au_ci ?_)
                rintro _ _ ⟨rfl, rfl⟩
                refine frK au_co au_co ?_
                refine VX.nil ?_
                refine AnyV.more [3] (by kernel_rfl) (by simp) ?_
                refine allI_cons ?_ ?_
                · refine anyV_op rfl ?_
                  refine VX.callP0 rfl rfl rfl (planeOf_p tw th tpx htw2 hth2 htl htb) ?_
                  refine VX.nil ?_
                  refine AnyV.more [6] (by kernel_rfl) (by simp) ?_
                  refine allI_cons ?_ ?_
                  · refine anyV_op rfl ?_
                    refine VX.store rfl rfl rfl rfl rfl au_sR rfl ?_
                    refine VX.nil ?_
                    refine AnyV.more [7] (by kernel_rfl) (by simp) ?_
                    refine allI_cons ?_ ?_
                    · refine anyV_op rfl ?_
                      refine VX.store rfl rfl rfl rfl rfl au_sR rfl ?_
                      refine VX.nil ?_
                      exact AnyV.fin (by kernel_rfl) (tile_leaf 1 2 3 trivial rfl rfl rfl rfl rfl rfl rfl rfl rfl rfl rfl rfl rfl)
                    exact trivial
                  exact trivial
                exact trivial
              exact trivial
            exact trivial
          refine allI_cons ?_ ?_
          · refine anyV_op rfl ?_
            refine VX.new rfl rfl ?_
            refine VX.nil ?_
            refine AnyV.more [0] (by kernel_rfl) (by simp) ?_
            refine allI_cons ?_ ?_
            · refine anyV_op rfl ?_
              first | refine VX.meek rfl ?_ | refine VX.loadI rfl rfl au_l ?_ | refine VX.loadP rfl rfl rfl au_l ?_
              refine VX.nil ?_
              refine AnyV.more [1] (by kernel_rfl) (by simp) ?_
              refine allI_cons ?_ ?_
              · refine anyV_op rfl ?_
                refine VX.callT rfl rfl (CallT.frame (planeOf_t w h px hw hh hl hpb) [] rfl au_ci au_ci ?_)
                rintro _ _ ⟨rfl, rfl⟩
                refine frK au_co au_co ?_
                refine VX.nil ?_
                refine AnyV.more [3] (by kernel_rfl) (by simp) ?_
                refine allI_cons ?_ ?_
                · refine anyV_op rfl ?_
                  refine VX.callP0 rfl rfl rfl (planeOf_p tw th tpx htw2 hth2 htl htb) ?_
                  refine VX.nil ?_
                  refine AnyV.more [6] (by kernel_rfl) (by simp) ?_
                  refine allI_cons ?_ ?_
                  · refine anyV_op rfl ?_
                    refine VX.store rfl rfl rfl rfl rfl au_sR rfl ?_
                    refine VX.nil ?_
                    refine AnyV.more [7] (by kernel_rfl) (by simp) ?_
                    refine allI_cons ?_ ?_
                    · refine anyV_op rfl ?_
                      refine VX.store rfl rfl rfl rfl rfl au_sR rfl ?_
                      refine VX.nil ?_
                      exact AnyV.fin (by kernel_rfl) (tile_leaf 1 2 3 trivial rfl rfl rfl rfl rfl rfl rfl rfl rfl rfl rfl rfl rfl)
                    exact trivial
                  exact trivial
                exact trivial
              exact trivial
            exact trivial
          exact trivial
        refine allI_cons ?_ ?_
        · refine anyV_op rfl ?_
          refine VX.new rfl rfl ?_
          refine VX.nil ?_
          refine AnyV.more [0, 2] (by kernel_rfl) (by simp) ?_
          refine allI_cons ?_ ?_
          · refine anyV_op rfl ?_
            first | refine VX.meek rfl ?_ | refine VX.loadI rfl rfl au_l ?_ | refine VX.loadP rfl rfl rfl au_l ?_
            refine VX.nil ?_
            refine AnyV.more [1, 2] (by kernel_rfl) (by simp) ?_
            refine allI_cons ?_ ?_
            · refine anyV_op rfl ?_
              refine VX.callT rfl rfl (CallT.frame (planeOf_t w h px hw hh hl hpb) [] rfl au_ci au_ci ?_)
              rintro _ _ ⟨rfl, rfl⟩
              refine frK au_co au_co ?_
              refine VX.nil ?_
              refine AnyV.more [2] (by kernel_rfl) (by simp) ?_
              refine allI_cons ?_ ?_
              · refine anyV_op rfl ?_
                first | refine VX.meek rfl ?_ | refine VX.loadI rfl rfl au_l ?_ | refine VX.loadP rfl rfl rfl au_l ?_
                refine VX.nil ?_
                refine AnyV.more [3] (by kernel_rfl) (by simp) ?_
                refine allI_cons ?_ ?_
                · refine anyV_op rfl ?_
                  refine VX.callP0 rfl rfl rfl (planeOf_p tw th tpx htw2 hth2 htl htb) ?_
                  refine VX.nil ?_
                  refine AnyV.more [6] (by kernel_rfl) (by simp) ?_
                  refine allI_cons ?_ ?_
                  · refine anyV_op rfl ?_
                    refine VX.store rfl rfl rfl rfl rfl au_sR rfl ?_
                    refine VX.nil ?_
                    refine AnyV.more [7] (by kernel_rfl) (by simp) ?_
                    refine allI_cons ?_ ?_
                    · refine anyV_op rfl ?_
                      refine VX.store rfl rfl rfl rfl rfl au_sR rfl ?_
                      refine VX.nil ?_
                      exact AnyV.fin (by kernel_rfl) (tile_leaf 1 2 3 trivial rfl rfl rfl rfl rfl rfl rfl rfl rfl rfl rfl rfl rfl)
                    exact trivial
                  exact trivial
                exact trivial
              exact trivial
            refine allI_cons ?_ ?_
            · refine anyV_op rfl ?_
              first | refine VX.meek rfl ?_ | refine VX.loadI rfl rfl au_l ?_ | refine VX.loadP rfl rfl rfl au_l ?_
              refine VX.nil ?_
              refine AnyV.more [1] (by kernel_rfl) (by simp) ?_
              refine allI_cons ?_ ?_
              · refine anyV_op rfl ?_
                refine VX.callT rfl rfl (CallT.frame (planeOf_t w h px hw hh hl hpb) [] rfl au_ci au_ci ?_)
                rintro _ _ ⟨rfl, rfl⟩
                refine frK au_co au_co ?_
                refine VX.nil ?_
                refine AnyV.more [3] (by kernel_rfl) (by simp) ?_
                refine allI_cons ?_ ?_
                · refine anyV_op rfl ?_
                  refine VX.callP0 rfl rfl rfl (planeOf_p tw th tpx htw2 hth2 htl htb) ?_
                  refine VX.nil ?_
                  refine AnyV.more [6] (by kernel_rfl) (by simp) ?_
                  refine allI_cons ?_ ?_
                  · refine anyV_op rfl ?_
                    refine VX.store rfl rfl rfl rfl rfl au_sR rfl ?_
                    refine VX.nil ?_
                    refine AnyV.more [7] (by kernel_rfl) (by simp) ?_
                    refine allI_cons ?_ ?_
                    · refine anyV_op rfl ?_
                      refine VX.store rfl rfl rfl rfl rfl au_sR rfl ?_
                      refine VX.nil ?_
                      exact AnyV.fin (by kernel_rfl) (tile_leaf 1 2 3 trivial rfl rfl rfl rfl rfl rfl rfl rfl rfl rfl rfl rfl rfl)
                    exact trivial
                  exact trivial
                exact trivial
              exact trivial
            exact trivial
          refine allI_cons ?_ ?_
          · refine anyV_op rfl ?_
            first | refine VX.meek rfl ?_ | refine VX.loadI rfl rfl au_l ?_ | refine VX.loadP rfl rfl rfl au_l ?_
            refine VX.nil ?_
            refine AnyV.more [0] (by kernel_rfl) (by simp) ?_
            refine allI_cons ?_ ?_
            · refine anyV_op rfl ?_
              first | refine VX.meek rfl ?_ | refine VX.loadI rfl rfl au_l ?_ | refine VX.loadP rfl rfl rfl au_l ?_
              refine VX.nil ?_
              refine AnyV.more [1] (by kernel_rfl) (by simp) ?_
              refine allI_cons ?_ ?_
              · refine anyV_op rfl ?_
                refine VX.callT rfl rfl (CallT.frame (planeOf_t w h px hw hh hl hpb) [] rfl au_ci au_ci ?_)
                rintro _ _ ⟨rfl, rfl⟩
                refine frK au_co au_co ?_
                refine VX.nil ?_
                refine AnyV.more [3] (by kernel_rfl) (by simp) ?_
                refine allI_cons ?_ ?_
                · refine anyV_op rfl ?_
                  refine VX.callP0 rfl rfl rfl (planeOf_p tw th tpx htw2 hth2 htl htb) ?_
                  refine VX.nil ?_
                  refine AnyV.more [6] (by kernel_rfl) (by simp) ?_
                  refine allI_cons ?_ ?_
                  · refine anyV_op rfl ?_
                    refine VX.store rfl rfl rfl rfl rfl au_sR rfl ?_
                    refine VX.nil ?_
                    refine AnyV.more [7] (by kernel_rfl) (by simp) ?_
                    refine allI_cons ?_ ?_
                    · refine anyV_op rfl ?_
                      refine VX.store rfl rfl rfl rfl rfl au_sR rfl ?_
                      refine VX.nil ?_
                      exact AnyV.fin (by kernel_rfl) (tile_leaf 1 2 3 trivial rfl rfl rfl rfl rfl rfl rfl rfl rfl rfl rfl rfl rfl)
                    exact trivial
                  exact trivial
                exact trivial
              exact trivial
            exact trivial
          exact trivial
        exact trivial
      refine allI_cons ?_ ?_
      · refine anyV_op rfl ?_
        refine VX.new rfl rfl ?_
        refine VX.nil ?_
        refine AnyV.more [0, 2, 4] (by kernel_rfl) (by simp) ?_
        refine allI_cons ?_ ?_
        · refine anyV_op rfl ?_
          first | refine VX.meek rfl ?_ | refine VX.loadI rfl rfl au_l ?_ | refine VX.loadP rfl rfl rfl au_l ?_
          refine VX.nil ?_
          refine AnyV.more [1, 2, 4] (by kernel_rfl) (by simp) ?_
          refine allI_cons ?_ ?_
          · refine anyV_op rfl ?_
            refine VX.callT rfl rfl (CallT.frame (planeOf_t w h px hw hh hl hpb) [] rfl au_ci au_ci ?_)
            rintro _ _ ⟨rfl, rfl⟩
            refine frK au_co au_co ?_
            refine VX.nil ?_
            refine AnyV.more [2, 4] (by kernel_rfl) (by simp) ?_
            refine allI_cons ?_ ?_
            · refine anyV_op rfl ?_
              first | refine VX.meek rfl ?_ | refine VX.loadI rfl rfl au_l ?_ | refine VX.loadP rfl rfl rfl au_l ?_
              refine VX.nil ?_
              refine AnyV.more [3, 4] (by kernel_rfl) (by simp) ?_
              refine allI_cons ?_ ?_
              · refine anyV_op rfl ?_
                refine VX.callP0 rfl rfl rfl (planeOf_p tw th tpx htw2 hth2 htl htb) ?_
                refine VX.nil ?_
                refine AnyV.more [4] (by kernel_rfl) (by simp) ?_
                refine allI_cons ?_ ?_
                · refine anyV_op rfl ?_
                  refine VX.new rfl rfl ?_
                  refine VX.nil ?_
                  refine AnyV.more [6] (by kernel_rfl) (by simp) ?_
                  refine allI_cons ?_ ?_
                  · refine anyV_op rfl ?_
                    refine VX.store rfl rfl rfl rfl rfl au_sR rfl ?_
                    refine VX.nil ?_
                    refine AnyV.more [7] (by kernel_rfl) (by simp) ?_
                    refine allI_cons ?_ ?_
                    · refine anyV_op rfl ?_
                      refine VX.store rfl rfl rfl rfl rfl au_sR rfl ?_
                      refine VX.nil ?_
                      exact AnyV.fin (by kernel_rfl) (tile_leaf 3 1 2 trivial rfl rfl rfl rfl rfl rfl rfl rfl rfl rfl rfl rfl rfl)
                    exact trivial
                  exact trivial
                exact trivial
              refine allI_cons ?_ ?_
              · refine anyV_op rfl ?_
                refine VX.new rfl rfl ?_
                refine VX.nil ?_
                refine AnyV.more [3] (by kernel_rfl) (by simp) ?_
                refine allI_cons ?_ ?_
                · refine anyV_op rfl ?_
                  refine VX.callP0 rfl rfl rfl (planeOf_p tw th tpx htw2 hth2 htl htb) ?_
                  refine VX.nil ?_
                  refine AnyV.more [6] (by kernel_rfl) (by simp) ?_
                  refine allI_cons ?_ ?_
                  · refine anyV_op rfl ?_
                    refine VX.store rfl rfl rfl rfl rfl au_sR rfl ?_
                    refine VX.nil ?_
                    refine AnyV.more [7] (by kernel_rfl) (by simp) ?_
                    refine allI_cons ?_ ?_
                    · refine anyV_op rfl ?_
                      refine VX.store rfl rfl rfl rfl rfl au_sR rfl ?_
                      refine VX.nil ?_
                      exact AnyV.fin (by kernel_rfl) (tile_leaf 3 1 2 trivial rfl rfl rfl rfl rfl rfl rfl rfl rfl rfl rfl rfl rfl)
                    exact trivial
                  exact trivial
                exact trivial
              exact trivial
            refine allI_cons ?_ ?_
            · refine anyV_op rfl ?_
              refine VX.new rfl rfl ?_
              refine VX.nil ?_
              refine AnyV.more [2] (by kernel_rfl) (by simp) ?_
              refine allI_cons ?_ ?_
              · refine anyV_op rfl ?_
                first | refine VX.meek rfl ?_ | refine VX.loadI rfl rfl au_l ?_ | refine VX.loadP rfl rfl rfl au_l ?_
                refine VX.nil ?_
                refine AnyV.more [3] (by kernel_rfl) (by simp) ?_
                refine allI_cons ?_ ?_
                · refine anyV_op rfl ?_
                  refine VX.callP0 rfl rfl rfl (planeOf_p tw th tpx htw2 hth2 htl htb) ?_
                  refine VX.nil ?_
                  refine AnyV.more [6] (by kernel_rfl) (by simp) ?_
                  refine allI_cons ?_ ?_
                  · refine anyV_op rfl ?_
                    refine VX.store rfl rfl rfl rfl rfl au_sR rfl ?_
                    refine VX.nil ?_
                    refine AnyV.more [7] (by kernel_rfl) (by simp) ?_
                    refine allI_cons ?_ ?_
                    · refine anyV_op rfl ?_
                      refine VX.store rfl rfl rfl rfl rfl au_sR rfl ?_
                      refine VX.nil ?_
                      exact AnyV.fin (by kernel_rfl) (tile_leaf 3 1 2 trivial rfl rfl rfl rfl rfl rfl rfl rfl rfl rfl rfl rfl rfl)
                    exact trivial
                  exact trivial
                exact trivial
              exact trivial
            exact trivial
          refine allI_cons ?_ ?_
          · refine anyV_op rfl ?_
            first | refine VX.meek rfl ?_ | refine VX.loadI rfl rfl au_l ?_ | refine VX.loadP rfl rfl rfl au_l ?_
            refine VX.nil ?_
            refine AnyV.more [1, 4] (by kernel_rfl) (by simp) ?_
            refine allI_cons ?_ ?_
            · refine anyV_op rfl ?_
              refine VX.callT rfl rfl (CallT.frame (planeOf_t w h px hw hh hl hpb) [] rfl au_ci au_ci ?_)
              rintro _ _ ⟨rfl, rfl⟩
              refine frK au_co au_co ?_
              refine VX.nil ?_
              refine AnyV.more [3, 4] (by kernel_rfl) (by simp) ?_
              refine allI_cons ?_ ?_
              · refine anyV_op rfl ?_
                refine VX.callP0 rfl rfl rfl (planeOf_p tw th tpx htw2 hth2 htl htb) ?_
                refine VX.nil ?_
                refine AnyV.more [4] (by kernel_rfl) (by simp) ?_
                refine allI_cons ?_ ?_
                · refine anyV_op rfl ?_
                  refine VX.new rfl rfl ?_
                  refine VX.nil ?_
                  refine AnyV.more [6] (by kernel_rfl) (by simp) ?_
                  refine allI_cons ?_ ?_
                  · refine anyV_op rfl ?_
                    refine VX.store rfl rfl rfl rfl rfl au_sR rfl ?_
                    refine VX.nil ?_
                    refine AnyV.more [7] (by kernel_rfl) (by simp) ?_
                    refine allI_cons ?_ ?_
                    · refine anyV_op rfl ?_
                      refine VX.store rfl rfl rfl rfl rfl au_sR rfl ?_
                      refine VX.nil ?_
                      exact AnyV.fin (by kernel_rfl) (tile_leaf 3 1 2 trivial rfl rfl rfl rfl rfl rfl rfl rfl rfl rfl rfl rfl rfl)
                    exact trivial
                  exact trivial
                exact trivial
              refine allI_cons ?_ ?_
              · refine anyV_op rfl ?_
                refine VX.new rfl rfl ?_
                refine VX.nil ?_
                refine AnyV.more [3] (by kernel_rfl) (by simp) ?_
                refine allI_cons ?_ ?_
                · refine anyV_op rfl ?_
                  refine VX.callP0 rfl rfl rfl (planeOf_p tw th tpx htw2 hth2 htl htb) ?_
                  refine VX.nil ?_
                  refine AnyV.more [6] (by kernel_rfl) (by simp) ?_
                  refine allI_cons ?_ ?_
                  · refine anyV_op rfl ?_
                    refine VX.store rfl rfl rfl rfl rfl au_sR rfl ?_
                    refine VX.nil ?_
                    refine AnyV.more [7] (by kernel_rfl) (by simp) ?_
                    refine allI_cons ?_ ?_
                    · refine anyV_op rfl ?_
                      refine VX.store rfl rfl rfl rfl rfl au_sR rfl ?_
                      refine VX.nil ?_
                      exact AnyV.fin (by kernel_rfl) (tile_leaf 3 1 2 trivial rfl rfl rfl rfl rfl rfl rfl rfl rfl rfl rfl rfl rfl)
                    exact trivial
                  exact trivial
                exact trivial
              exact trivial
            refine allI_cons ?_ ?_
            · refine anyV_op rfl ?_
              refine VX.new rfl rfl ?_
              refine VX.nil ?_
              refine AnyV.more [1] (by kernel_rfl) (by simp) ?_
              refine allI_cons ?_ ?_
              · refine anyV_op rfl ?_
                refine VX.callT rfl rfl (CallT.frame (planeOf_t w h px hw hh hl hpb) [] rfl au_ci au_ci ?_)
                rintro _ _ ⟨rfl, rfl⟩
                refine frK au_co au_co ?_
                refine VX.nil ?_
                refine AnyV.more [3] (by kernel_rfl) (by simp) ?_
                refine allI_cons ?_ ?_
                · refine anyV_op rfl ?_
                  refine VX.callP0 rfl rfl rfl (planeOf_p tw th tpx htw2 hth2 htl htb) ?_
                  refine VX.nil ?_
                  refine AnyV.more [6] (by kernel_rfl) (by simp) ?_
                  refine allI_cons ?_ ?_
                  · refine anyV_op rfl ?_
                    refine VX.store rfl rfl rfl rfl rfl au_sR rfl ?_
                    refine VX.nil ?_
                    refine AnyV.more [7] (by kernel_rfl) (by simp) ?_
                    refine allI_cons ?_ ?_
                    · refine anyV_op rfl ?_
                      refine VX.store rfl rfl rfl rfl rfl au_sR rfl ?_
                      refine VX.nil ?_
                      exact AnyV.fin (by kernel_rfl) (tile_leaf 2 1 3 trivial rfl rfl rfl rfl rfl rfl rfl rfl rfl rfl rfl rfl rfl)
                    exact trivial
                  exact trivial
                exact trivial
              exact trivial
            exact trivial
          refine allI_cons ?_ ?_
          · refine anyV_op rfl ?_
            refine VX.new rfl rfl ?_
            refine VX.nil ?_
            refine AnyV.more [1, 2] (by kernel_rfl) (by simp) ?_
            refine allI_cons ?_ ?_
            · refine anyV_op rfl ?_
              refine VX.callT rfl rfl (CallT.frame (planeOf_t w h px hw hh hl hpb) [] rfl au_ci au_ci ?_)
              rintro _ _ ⟨rfl, rfl⟩
              refine frK au_co au_co ?_
              refine VX.nil ?_
              refine AnyV.more [2] (by kernel_rfl) (by simp) ?_
              refine allI_cons ?_ ?_
              · refine anyV_op rfl ?_
                first | refine VX.meek rfl ?_ | refine VX.loadI rfl rfl au_l ?_ | refine VX.loadP rfl rfl rfl au_l ?_
                refine VX.nil ?_
                refine AnyV.more [3] (by kernel_rfl) (by simp) ?_
                refine allI_cons ?_ ?_
                · refine anyV_op rfl ?_
                  refine VX.callP0 rfl rfl rfl (planeOf_p tw th tpx htw2 hth2 htl htb) ?_
                  refine VX.nil ?_
                  refine AnyV.more [6] (by kernel_rfl) (by simp) ?_
                  refine allI_cons ?_ ?_
                  · refine anyV_op rfl ?_
                    refine VX.store rfl rfl rfl rfl rfl au_sR rfl ?_
                    refine VX.nil ?_
                    refine AnyV.more [7] (by kernel_rfl) (by simp) ?_
                    refine allI_cons ?_ ?_
                    · refine anyV_op rfl ?_
                      refine VX.store rfl rfl rfl rfl rfl au_sR rfl ?_
                      refine VX.nil ?_
                      exact AnyV.fin (by kernel_rfl) (tile_leaf 2 1 3 trivial rfl rfl rfl rfl rfl rfl rfl rfl rfl rfl rfl rfl rfl)
                    exact trivial
                  exact trivial
                exact trivial
              exact trivial
            refine allI_cons ?_ ?_
            · refine anyV_op rfl ?_
              first | refine VX.meek rfl ?_ | refine VX.loadI rfl rfl au_l ?_ | refine VX.loadP rfl rfl rfl au_l ?_
              refine VX.nil ?_
              refine AnyV.more [1] (by kernel_rfl) (by simp) ?_
              refine allI_cons ?_ ?_
              · refine anyV_op rfl ?_
                refine VX.callT rfl rfl (CallT.frame (planeOf_t w h px hw hh hl hpb) [] rfl au_ci au_ci ?_)
                rintro _ _ ⟨rfl, rfl⟩
                refine frK au_co au_co ?_
                refine VX.nil ?_
                refine AnyV.more [3] (by kernel_rfl) (by simp) ?_
                refine allI_cons ?_ ?_
                · refine anyV_op rfl ?_
                  refine VX.callP0 rfl rfl rfl (planeOf_p tw th tpx htw2 hth2 htl htb) ?_
                  refine VX.nil ?_
                  refine AnyV.more [6] (by kernel_rfl) (by simp) ?_
                  refine allI_cons ?_ ?_
                  · refine anyV_op rfl ?_
                    refine VX.store rfl rfl rfl rfl rfl au_sR rfl ?_
                    refine VX.nil ?_
                    refine AnyV.more [7] (by kernel_rfl) (by simp) ?_
                    refine allI_cons ?_ ?_
                    · refine anyV_op rfl ?_
                      refine VX.store rfl rfl rfl rfl rfl au_sR rfl ?_
                      refine VX.nil ?_
                      exact AnyV.fin (by kernel_rfl) (tile_leaf 2 1 3 trivial rfl rfl rfl rfl rfl rfl rfl rfl rfl rfl rfl rfl rfl)
                    exact trivial
                  exact trivial
                exact trivial
              exact trivial
            exact trivial
          exact trivial
        refine allI_cons ?_ ?_
        · refine anyV_op rfl ?_
          first | refine VX.meek rfl ?_ | refine VX.loadI rfl rfl au_l ?_ | refine VX.loadP rfl rfl rfl au_l ?_
          refine VX.nil ?_
          refine AnyV.more [0, 4] (by kernel_rfl) (by simp) ?_
          refine allI_cons ?_ ?_
          · refine anyV_op rfl ?_
            first | refine VX.meek rfl ?_ | refine VX.loadI rfl rfl au_l ?_ | refine VX.loadP rfl rfl rfl au_l ?_
            refine VX.nil ?_
            refine AnyV.more [1, 4] (by kernel_rfl) (by simp) ?_
            refine allI_cons ?_ ?_
            · refine anyV_op rfl ?_
              refine VX.callT rfl rfl (CallT.frame (planeOf_t w h px hw hh hl hpb) [] rfl au_ci au_ci ?_)
              rintro _ _ ⟨rfl, rfl⟩
              refine frK au_co au_co ?_
              refine VX.nil ?_
              refine AnyV.more [3, 4] (by kernel_rfl) (by simp) ?_
              refine allI_cons ?_ ?_
              · refine anyV_op rfl ?_
                refine VX.callP0 rfl rfl rfl (planeOf_p tw th tpx htw2 hth2 htl htb) ?_
                refine VX.nil ?_
                refine AnyV.more [4] (by kernel_rfl) (by simp) ?_
                refine allI_cons ?_ ?_
                · refine anyV_op rfl ?_
                  refine VX.new rfl rfl ?_
                  refine VX.nil ?_
                  refine AnyV.more [6] (by kernel_rfl) (by simp) ?_
                  refine allI_cons ?_ ?_
                  · refine anyV_op rfl ?_
                    refine VX.store rfl rfl rfl rfl rfl au_sR rfl ?_
                    refine VX.nil ?_
                    refine AnyV.more [7] (by kernel_rfl) (by simp) ?_
                    refine allI_cons ?_ ?_
                    · refine anyV_op rfl ?_
                      refine VX.store rfl rfl rfl rfl rfl au_sR rfl ?_
                      refine VX.nil ?_
                      exact AnyV.fin (by kernel_rfl) (tile_leaf 3 1 2 trivial rfl rfl rfl rfl rfl rfl rfl rfl rfl rfl rfl rfl rfl)
                    exact trivial
                  exact trivial
                exact trivial
              refine allI_cons ?_ ?_
              · refine anyV_op rfl ?_
                refine VX.new rfl rfl ?_
                refine VX.nil ?_
                refine AnyV.more [3] (by kernel_rfl) (by simp) ?_
                refine allI_cons ?_ ?_
                · refine anyV_op rfl ?_
                  refine VX.callP0 rfl rfl rfl (planeOf_p tw th tpx htw2 hth2 htl htb) ?_
                  refine VX.nil ?_
                  refine AnyV.more [6] (by kernel_rfl) (by simp) ?_
                  refine allI_cons ?_ ?_
                  · refine anyV_op rfl ?_
                    refine VX.store rfl rfl rfl rfl rfl au_sR rfl ?_
                    refine VX.nil ?_
                    refine AnyV.more [7] (by kernel_rfl) (by simp) ?_
                    refine allI_cons ?_ ?_
                    · refine anyV_op rfl ?_
                      refine VX.store rfl rfl rfl rfl rfl au_sR rfl ?_
                      refine VX.nil ?_
                      exact AnyV.fin (by kernel_rfl) (tile_leaf 3 1 2 trivial rfl rfl rfl rfl rfl rfl rfl rfl rfl rfl rfl rfl rfl)
                    exact trivial
                  exact trivial
                exact trivial
              exact trivial
            refine allI_cons ?_ ?_
            · refine anyV_op rfl ?_
              refine VX.new rfl rfl ?_
              refine VX.nil ?_
              refine AnyV.more [1] (by kernel_rfl) (by simp) ?_
              refine allI_cons ?_ ?_
              · refine anyV_op rfl ?_
                refine VX.callT rfl rfl (CallT.frame (planeOf_t w h px hw hh hl hpb) [] rfl au_ci au_ci ?_)
                rintro _ _ ⟨rfl, rfl⟩
                refine frK au_co au_co ?_
                refine VX.nil ?_
                refine AnyV.more [3] (by kernel_rfl) (by simp) ?_
                refine allI_cons ?_ ?_
                · refine anyV_op rfl ?_
                  refine VX.callP0 rfl rfl rfl (planeOf_p tw th tpx htw2 hth2 htl htb) ?_
                  refine VX.nil ?_
                  refine AnyV.more [6] (by kernel_rfl) (by simp) ?_
                  refine allI_cons ?_ ?_
                  · refine anyV_op rfl ?_
                    refine VX.store rfl rfl rfl rfl rfl au_sR rfl ?_
                    refine VX.nil ?_
                    refine AnyV.more [7] (by kernel_rfl) (by simp) ?_
                    refine allI_cons ?_ ?_
                    · refine anyV_op rfl ?_
                      refine VX.store rfl rfl rfl rfl rfl au_sR rfl ?_
                      refine VX.nil ?_
                      exact AnyV.fin (by kernel_rfl) (tile_leaf 2 1 3 trivial rfl rfl rfl rfl rfl rfl rfl rfl rfl rfl rfl rfl rfl)
                    exact trivial
                  exact trivial
                exact trivial
              exact trivial
            exact trivial
          refine allI_cons ?_ ?_
          · refine anyV_op rfl ?_
            refine VX.new rfl rfl ?_
            refine VX.nil ?_
            refine AnyV.more [0] (by kernel_rfl) (by simp) ?_
            refine allI_cons ?_ ?_
            · refine anyV_op rfl ?_
              first | refine VX.meek rfl ?_ | refine VX.loadI rfl rfl au_l ?_ | refine VX.loadP rfl rfl rfl au_l ?_
              refine VX.nil ?_
              refine AnyV.more [1] (by kernel_rfl) (by simp) ?_
              refine allI_cons ?_ ?_
              · refine anyV_op rfl ?_
                refine VX.callT rfl rfl (CallT.frame (planeOf_t w h px hw hh hl hpb) [] rfl au_ci au_ci ?_)
                rintro _ _ ⟨rfl, rfl⟩
                refine frK au_co au_co ?_
                refine VX.nil ?_
                refine AnyV.more [3] (by kernel_rfl) (by simp) ?_
                refine allI_cons ?_ ?_
                · refine anyV_op rfl ?_
                  refine VX.callP0 rfl rfl rfl (planeOf_p tw th tpx htw2 hth2 htl htb) ?_
                  refine VX.nil ?_
                  refine AnyV.more [6] (by kernel_rfl) (by simp) ?_
                  refine allI_cons ?_ ?_
                  · refine anyV_op rfl ?_
                    refine VX.store rfl rfl rfl rfl rfl au_sR rfl ?_
                    refine VX.nil ?_
                    refine AnyV.more [7] (by kernel_rfl) (by simp) ?_
                    refine allI_cons ?_ ?_
                    · refine anyV_op rfl ?_
                      refine VX.store rfl rfl rfl rfl rfl au_sR rfl ?_
                      refine VX.nil ?_
                      exact AnyV.fin (by kernel_rfl) (tile_leaf 2 1 3 trivial rfl rfl rfl rfl rfl rfl rfl rfl rfl rfl rfl rfl rfl)
                    exact trivial
                  exact trivial
                exact trivial
              exact trivial
            exact trivial
          exact trivial
        refine allI_cons ?_ ?_
        · refine anyV_op rfl ?_
          refine VX.new rfl rfl ?_
          refine VX.nil ?_
          refine AnyV.more [0, 2] (by kernel_rfl) (by simp) ?_
          refine allI_cons ?_ ?_
          · refine anyV_op rfl ?_
            first | refine VX.meek rfl ?_ | refine VX.loadI rfl rfl au_l ?_ | refine VX.loadP rfl rfl rfl au_l ?_
            refine VX.nil ?_
            refine AnyV.more [1, 2] (by kernel_rfl) (by simp) ?_
            refine allI_cons ?_ ?_
            · refine anyV_op rfl ?_
              refine VX.callT rfl rfl (CallT.frame (planeOf_t w h px hw hh hl hpb) [] rfl au_ci au_ci ?_)
              rintro _ _ ⟨rfl, rfl⟩
              refine frK au_co au_co ?_
              refine VX.nil ?_
              refine AnyV.more [2] (by kernel_rfl) (by simp) ?_
              refine allI_cons ?_ ?_
              · refine anyV_op rfl ?_
                first | refine VX.meek rfl ?_ | refine VX.loadI rfl rfl au_l ?_ | refine VX.loadP rfl rfl rfl au_l ?_
                refine VX.nil ?_
                refine AnyV.more [3] (by kernel_rfl) (by simp) ?_
                refine allI_cons ?_ ?_
                · refine anyV_op rfl ?_
                  refine VX.callP0 rfl rfl rfl (planeOf_p tw th tpx htw2 hth2 htl htb) ?_
                  refine VX.nil ?_
                  refine AnyV.more [6] (by kernel_rfl) (by simp) ?_
                  refine allI_cons ?_ ?_
                  · refine anyV_op rfl ?_
                    refine VX.store rfl rfl rfl rfl rfl au_sR rfl ?_
                    refine VX.nil ?_
                    refine AnyV.more [7] (by kernel_rfl) (by simp) ?_
                    refine allI_cons ?_ ?_
                    · refine anyV_op rfl ?_
                      refine VX.store rfl rfl rfl rfl rfl au_sR rfl ?_
                      refine VX.nil ?_
                      exact AnyV.fin (by kernel_rfl) (tile_leaf 2 1 3 trivial rfl rfl rfl rfl rfl rfl rfl rfl rfl rfl rfl rfl rfl)
                    exact trivial
                  exact trivial
                exact trivial
              exact trivial
            refine allI_cons ?_ ?_
            · refine anyV_op rfl ?_
              first | refine VX.meek rfl ?_ | refine VX.loadI rfl rfl au_l ?_ | refine VX.loadP rfl rfl rfl au_l ?_
              refine VX.nil ?_
              refine AnyV.more [1] (by kernel_rfl) (by simp) ?_
              refine allI_cons ?_ ?_
              · refine anyV_op rfl ?_
                refine VX.callT rfl rfl (CallT.frame (planeOf_t w h px hw hh hl hpb) [] rfl au_ci au_ci ?_)
                rintro _ _ ⟨rfl, rfl⟩
                refine frK au_co au_co ?_
                refine VX.nil ?_
                refine AnyV.more [3] (by kernel_rfl) (by simp) ?_
                refine allI_cons ?_ ?_
                · refine anyV_op rfl ?_
                  refine VX.callP0 rfl rfl rfl (planeOf_p tw th tpx htw2 hth2 htl htb) ?_
                  refine VX.nil ?_
                  refine AnyV.more [6] (by kernel_rfl) (by simp) ?_
                  refine allI_cons ?_ ?_
                  · refine anyV_op rfl ?_
                    refine VX.store rfl rfl rfl rfl rfl au_sR rfl ?_
                    refine VX.nil ?_
                    refine AnyV.more [7] (by kernel_rfl) (by simp) ?_
                    refine allI_cons ?_ ?_
                    · refine anyV_op rfl ?_
                      refine VX.store rfl rfl rfl rfl rfl au_sR rfl ?_
                      refine VX.nil ?_
                      exact AnyV.fin (by kernel_rfl) (tile_leaf 2 1 3 trivial rfl rfl rfl rfl rfl rfl rfl rfl rfl rfl rfl rfl rfl)
                    exact trivial
                  exact trivial
                exact trivial
              exact trivial
            exact trivial
          refine allI_cons ?_ ?_
          · refine anyV_op rfl ?_
            first | refine VX.meek rfl ?_ | refine VX.loadI rfl rfl au_l ?_ | refine VX.loadP rfl rfl rfl au_l ?_
            refine VX.nil ?_
            refine AnyV.more [0] (by kernel_rfl) (by simp) ?_
            refine allI_cons ?_ ?_
            · refine anyV_op rfl ?_
              first | refine VX.meek rfl ?_ | refine VX.loadI rfl rfl au_l ?_ | refine VX.loadP rfl rfl rfl au_l ?_
              refine VX.nil ?_
              refine AnyV.more [1] (by kernel_rfl) (by simp) ?_
              refine allI_cons ?_ ?_
              · refine anyV_op rfl ?_
                refine VX.callT rfl rfl (CallT.frame (planeOf_t w h px hw hh hl hpb) [] rfl au_ci au_ci ?_)
                rintro _ _ ⟨rfl, rfl⟩
                refine frK au_co au_co ?_
                refine VX.nil ?_
                refine AnyV.more [3] (by kernel_rfl) (by simp) ?_
                refine allI_cons ?_ ?_
                · refine anyV_op rfl ?_
                  refine VX.callP0 rfl rfl rfl (planeOf_p tw th tpx htw2 hth2 htl htb) ?_
                  refine VX.nil ?_
                  refine AnyV.more [6] (by kernel_rfl) (by simp) ?_
                  refine allI_cons ?_ ?_
                  · refine anyV_op rfl ?_
                    refine VX.store rfl rfl rfl rfl rfl au_sR rfl ?_
                    refine VX.nil ?_
                    refine AnyV.more [7] (by kernel_rfl) (by simp) ?_
                    refine allI_cons ?_ ?_
                    · refine anyV_op rfl ?_
                      refine VX.store rfl rfl rfl rfl rfl au_sR rfl ?_
                      refine VX.nil ?_
                      exact AnyV.fin (by kernel_rfl) (tile_leaf 2 1 3 trivial rfl rfl rfl rfl rfl rfl rfl rfl rfl rfl rfl rfl rfl)
                    exact trivial
                  exact trivial
                exact trivial
              exact trivial
            exact trivial
          exact trivial
        exact trivial
      exact trivial
    refine VC.seq ?_
    refine VC.reg tab_ok [] rfl ?_
    first | refine VX.meek rfl ?_ | refine VX.loadI rfl rfl au_l ?_ | refine VX.loadP rfl rfl rfl au_l ?_
    iterate 2 refine VX.meek rfl ?_
    first | refine VX.meek rfl ?_ | refine VX.loadI rfl rfl au_l ?_ | refine VX.loadP rfl rfl rfl au_l ?_
    iterate 2 refine VX.meek rfl ?_
    refine' VX.merge (d := 39) [_, _, _, _, _, _] rfl ?_ rfl ?_
    rotate_left
    · refine VX.guard rfl rfl (fun hb4_5 => ?_) (fun hb4_5 => ?_)
      · have ghb4_5 := hb4_5
        try simp only [au_std, Bool.not_true, Bool.not_false] at ghb4_5
        first | refine VX.meek rfl ?_ | refine VX.loadI rfl rfl au_l ?_ | refine VX.loadP rfl rfl rfl au_l ?_
        refine VX.guardT rfl rfl hb4_5 ?_
        refine VX.meek rfl ?_
        refine VX.guardT rfl rfl hb4_5 ?_
        refine VX.meek rfl ?_
        refine VX.guardT rfl rfl hb4_5 ?_
        first | refine VX.meek rfl ?_ | refine VX.loadI rfl rfl au_l ?_ | refine VX.loadP rfl rfl rfl au_l ?_
        refine VX.guardT rfl rfl hb4_5 ?_
        refine VX.meek rfl ?_
        refine VX.pickO rfl (fun _ => rfl) ?_
        exact VX.nil ⟨rfl, rfl⟩
      · refine VX.guardF rfl rfl hb4_5 ?_
        refine VX.guardF rfl rfl hb4_5 ?_
        refine VX.guardF rfl rfl hb4_5 ?_
        refine VX.guardF rfl rfl hb4_5 ?_
        exact VX.pickO rfl (fun h => absurd (h.symm.trans hb4_5) (by decide)) (VX.nil ⟨rfl, rfl⟩)
    refine VX.nil ?_
    refine VC.cond rfl (fun hc1 => ?_) (fun hc1 => ?_)
    · (try simp only [au_std] at hc1); have htw0 : tw = 0 := (by omega); rw [if_pos htw0]
      refine VC.reg tab_ok [] rfl ?_
      first | refine VX.meek rfl ?_ | refine VX.loadI rfl rfl au_l ?_ | refine VX.loadP rfl rfl rfl au_l ?_
      refine VX.store rfl rfl rfl rfl rfl au_sR rfl ?_
      refine VX.nil ?_
      refine VC.ret ?_
      refine ⟨trivial, _, rfl, Cv.agg (cv_g (Cv.pure (encL_pure cU _)))⟩
    · (try simp only [au_std] at hc1); have htw0 : ¬ tw = 0 := (by omega); have htw : 1 ≤ tw ∧ tw ≤ 128 := (by omega); have hth : 1 ≤ th ∧ th ≤ 128 := (by omega); rw [if_neg htw0]
      refine VC.skip ?_
      refine VC.drwC tab_ok [] [_, _, _, _, _, _, _] ([.d, .d]) [false, false, false, false, true, false, false] rfl (by kernel_rfl) (by kernel_rfl) (by kernel_rfl) (by repeat' first | exact seen_nil | refine seen_dead ?_ | refine seen_same ?_) ?_
      refine VD.meek rfl ?_
      refine VD.meek rfl ?_
      refine VD.callP rfl rfl (meet_p hc ht (by omega)) ?_
      refine VD.meek rfl ?_
      refine VD.call (t := rectT ⟨0, 0, w, h⟩) (F1 := [.c [I64 0, I64 0, NIL], .c (encL cU px), .c [I64 0, I64 0, I64 w, I64 h]]) rfl rfl ?_ ?_ ?_
      · refine CallT.frame (prect_t w h px (encL cU px)) [1] rfl au_ci au_ci ?_
        rintro _ _ ⟨rfl, rfl⟩
        refine frK au_co au_co ?_
        exact ⟨rfl, rfl⟩
      · exact (by repeat' first | exact seen_nil | refine seen_dead ?_ | refine seen_same ?_)
      refine VD.callP rfl rfl (hwi) ?_
      refine VD.meek rfl ?_
      refine VD.nil ?_
      refine VX.callT rfl rfl (CallT.frame (each_t w h px px R _ _ (tileF tw th tpx x y) hcs hw hh hl hr.1 hr.2 hlen hins hpb (tileF_bd htb) (fun s a b hs hb ha ha2 hb1 hb2 => tile1_t w h tw th px s tpx x y a b hw hh hl hs htw hth htl hx2 hy2 ha ha2 hb1 hb2)) [1] rfl au_ci au_ci ?_)
      rintro _ _ ⟨rfl, rfl⟩
      refine frK au_co au_co ?_
      refine VX.nil ?_
      refine VC.view ([(13, .iptr [.iptr (plC w h px (.islc (encL cU (paintL w (inL R) (tileF tw th tpx x y) px)) px.length none)) 0] 0), (12, .ptr 0 0)]) ([.c [I64 0, I64 0, NIL]]) [] rfl (by refine ⟨[some 0], rfl, by first | trivial | decide, rfl, ?_, ?_⟩ <;> (repeat' first | exact trivial | exact CvB_n | exact CvB_d | refine CvE_app ?_ ?_ | refine CvE_cons rfl ?_ ?_ | refine CvH_cons ?_ ?_ | refine CvB_c rfl ?_ | fail) <;> first | exact au_v | (first | exact CvL.pure rfl | exact Cv.iptr (CvL.cons (Cv.iptr (cv_pl (Cv.pure (encL_pure cU _)) (Cv.fslc0 ⟨rfl, by simp⟩ (CvL.pure (encL_pure cU _))))) CvL.nil))) ?_
      refine VC.reg tab_ok [] rfl ?_
      first | refine VX.meek rfl ?_ | refine VX.loadI rfl rfl au_l ?_ | refine VX.loadP rfl rfl rfl au_l ?_
      refine VX.callP0 rfl rfl rfl (pgrid_n w h px (paintL w (inL R) (tileF tw th tpx x y) px) px.length hpl hw hh hl (by rw [hpl, hl]) hpb hbd) ?_
      refine VX.store rfl rfl rfl rfl rfl au_sR rfl ?_
      refine VX.nil ?_
      refine VC.ret ?_
      refine ⟨trivial, _, rfl, Cv.agg (cv_g (Cv.pure (encL_pure cU _)))⟩
end
section
open Go.RowKit Go.Sort
set_option maxRecDepth 10000
end
section
open Go.RowKit Go.Sort
set_option maxRecDepth 10000
section
variable {P : Program} {tab : Tab} {im : List Nat} {ops : Array Oper} {l : List Oper} {E : Env} {Hm F : Hp} {K : Env → Hp → Prop} {wd : List Bool} {d : Nat} {ty : TypeId} {pos : String} {after : Array Edge}
theorem VD.add {x y : Operand} {t t2 : Nat} {a b : Int} (hx : E.opd x = some (I64 a)) (hy : E.opd y = some (I64 b)) (h : -9223372036854775808 ≤ a + b ∧ a + b ≤ 9223372036854775807) (k : VD P tab im ops Hm l wd ((d, I64 (a + b)) :: E) F K) : VD P tab im ops Hm (⟨some d, .binOp .add t x y t2, ty, pos, after, none⟩ :: l) (false :: wd) E F K :=
  VD.meek (t := I64 (a + b)) (by simp only [opM, hx, hy, mBin, binInt, wrap_in h]; rfl) k
theorem VD.mul {x y : Operand} {t t2 : Nat} {a b : Int} (hx : E.opd x = some (I64 a)) (hy : E.opd y = some (I64 b)) (h : -9223372036854775808 ≤ a * b ∧ a * b ≤ 9223372036854775807) (k : VD P tab im ops Hm l wd ((d, I64 (a * b)) :: E) F K) : VD P tab im ops Hm (⟨some d, .binOp .mul t x y t2, ty, pos, after, none⟩ :: l) (false :: wd) E F K :=
  VD.meek (t := I64 (a * b)) (by simp only [opM, hx, hy, mBin, binInt, wrap_in h]; rfl) k
end
def atG (w h : Nat) (px : List Int) (x y : Int) : Int := if inB' w h x y = true then px[(y * w + x).toNat]! else 0
theorem inB_iff {w h : Nat} {x y : Int} : inB' w h x y = true ↔ 0 ≤ x ∧ x < w ∧ 0 ≤ y ∧ y < h := by unfold inB'; simp only [Bool.and_eq_true, decide_eq_true_eq]; omega
theorem at23_p (w h : Nat) (px : List Int) (x y : Int) (hw : w ≤ 128) (hh : h ≤ 128) (hl : px.length = w * h) : CallP Tryz.prog 75 [gT w h px, I64 x, I64 y] (U8 (atG w h px x y)) := by
  refine CallP.intro2 au_pu au_pu ?_
  refine CallT.intro tab_ok Tryz.func75 rfl (by kernel_rfl) (Nat.le_of_ble_eq_true rfl) ?_
  refine VC.reg tab_ok [3] rfl ?_
  refine VX.newI rfl rfl ?_
  refine VX.meek rfl ?_
  refine VX.nil ?_
  refine VC.seq ?_
  refine VC.reg tab_ok [] rfl ?_
  iterate 3 refine VX.meek rfl ?_
  refine' VX.merge (d := 12) [_, _, _] rfl ?_ rfl ?_
  rotate_left
  · refine VX.guard rfl rfl (fun hb1_2 => ?_) (fun hb1_2 => ?_)
    · have ghb1_2 := hb1_2
      try simp only [au_std, Bool.not_true, Bool.not_false] at ghb1_2
      refine VX.meek rfl ?_
      refine VX.guardT rfl rfl hb1_2 ?_
      refine VX.meek rfl ?_
      refine VX.pickO rfl (fun _ => rfl) ?_
      exact VX.nil ⟨rfl, rfl⟩
    · refine VX.guardF rfl rfl hb1_2 ?_
      exact VX.pickO rfl (fun h => absurd (h.symm.trans hb1_2) (by decide)) (VX.nil ⟨rfl, rfl⟩)
  refine VX.meek rfl ?_
  refine' VX.merge (d := 18) [_, _, _, _, _] rfl ?_ rfl ?_
  rotate_left
  · refine VX.guard rfl rfl (fun hb1_6 => ?_) (fun hb1_6 => ?_)
    · have ghb1_6 := hb1_6
      try simp only [au_std, Bool.not_true, Bool.not_false] at ghb1_6
      refine VX.meek rfl ?_
      refine VX.guardT rfl rfl hb1_6 ?_
      refine VX.meek rfl ?_
      refine VX.guardT rfl rfl hb1_6 ?_
      first | refine VX.meek rfl ?_ | refine VX.loadI rfl rfl au_l ?_ | refine VX.loadP rfl rfl rfl au_l ?_
      refine VX.guardT rfl rfl hb1_6 ?_
      refine VX.meek rfl ?_
      refine VX.pickO rfl (fun _ => rfl) ?_
      exact VX.nil ⟨rfl, rfl⟩
    · refine VX.guardF rfl rfl hb1_6 ?_
      refine VX.guardF rfl rfl hb1_6 ?_
      refine VX.guardF rfl rfl hb1_6 ?_
      exact VX.pickO rfl (fun h => absurd (h.symm.trans hb1_6) (by decide)) (VX.nil ⟨rfl, rfl⟩)
  refine VX.meek rfl ?_
  refine' VX.merge (d := 24) [_, _, _, _, _] rfl ?_ rfl ?_
  rotate_left
  · refine VX.guard rfl rfl (fun hb1_12 => ?_) (fun hb1_12 => ?_)
    · have ghb1_12 := hb1_12
      try simp only [au_std, Bool.not_true, Bool.not_false] at ghb1_12
      refine VX.meek rfl ?_
      refine VX.guardT rfl rfl hb1_12 ?_
      refine VX.meek rfl ?_
      refine VX.guardT rfl rfl hb1_12 ?_
      first | refine VX.meek rfl ?_ | refine VX.loadI rfl rfl au_l ?_ | refine VX.loadP rfl rfl rfl au_l ?_
      refine VX.guardT rfl rfl hb1_12 ?_
      refine VX.meek rfl ?_
      refine VX.pickO rfl (fun _ => rfl) ?_
      exact VX.nil ⟨rfl, rfl⟩
    · refine VX.guardF rfl rfl hb1_12 ?_
      refine VX.guardF rfl rfl hb1_12 ?_
      refine VX.guardF rfl rfl hb1_12 ?_
      exact VX.pickO rfl (fun h => absurd (h.symm.trans hb1_12) (by decide)) (VX.nil ⟨rfl, rfl⟩)
  refine VX.nil ?_
  refine VC.cond rfl (fun hc0 => ?_) (fun hc0 => ?_)
  · (try simp only [au_std] at hc0); have hres : atG w h px x y = 0 := if_neg (by rw [inB_iff]; omega)
    refine VC.reg tab_ok [] rfl ?_
    refine VX.meek rfl ?_
    refine VX.nil ?_
    refine VC.ret ?_
    exact ⟨trivial, _, rfl, Cv.eq (congrArg U8 hres.symm) rfl⟩
  · (try simp only [au_std] at hc0); have hin := in_place (x := x) (y := y) hw hh (by omega) (by omega) (by omega) (by omega); have hres : atG w h px x y = px[(y * w + x).toNat]! := if_pos (by rw [inB_iff]; omega)
    refine VC.skip ?_
    refine VC.reg tab_ok [] rfl ?_
    refine VX.meek rfl ?_
    first | refine VX.meek rfl ?_ | refine VX.loadI rfl rfl au_l ?_ | refine VX.loadP rfl rfl rfl au_l ?_
    iterate 2 refine VX.meek rfl ?_
    first | refine VX.meek rfl ?_ | refine VX.loadI rfl rfl au_l ?_ | refine VX.loadP rfl rfl rfl au_l ?_
    first | refine VX.mul rfl rfl (by omega) ?_ | refine VX.meek rfl ?_
    refine VX.meek rfl ?_
    first | refine VX.add rfl rfl (by omega) ?_ | refine VX.meek rfl ?_
    first | refine VX.idxI rfl rfl rfl rfl rfl rfl (by omega) ?_ | refine VX.idxO0 rfl rfl rfl rfl rfl rfl rfl (by omega) ?_ | refine VX.idxO0 rfl rfl rfl rfl rfl rfl au_z (by omega) ?_ | refine VX.idxO rfl rfl rfl rfl rfl rfl rfl (by omega) ?_ | refine VX.idxI rfl rfl rfl rfl rfl au_z (by omega) ?_ | refine VX.idxO rfl rfl rfl rfl rfl rfl au_z (by omega) ?_ | refine VX.meek rfl ?_
    first | refine VX.meek rfl ?_ | refine VX.loadI rfl rfl au_l ?_ | refine VX.loadP rfl rfl rfl au_l ?_
    refine VX.meek rfl ?_
    refine VX.nil ?_
    refine VC.ret ?_
    exact ⟨trivial, _, rfl, Cv.eq (congrArg U8 hres.symm) rfl⟩
end
section
open Go.RowKit Go.Sort
set_option maxRecDepth 10000
def visV (V : Int → Int → Prop) (y x : Int) (a b : Int) : Prop := V a b ∧ (b < y ∨ (b = y ∧ a < x))
end
section
open Go.RowKit Go.Sort
set_option maxRecDepth 10000
end
section
open Go.RowKit Go.Sort
set_option maxRecDepth 10000
theorem gnew_p (w h : Nat) (p : Int) (hw : 1 ≤ w ∧ w ≤ 128) (hh : 1 ≤ h ∧ h ≤ 128) : CallP Tryz.prog 62 [I64 w, I64 h, U8 p] (.tup [gT w h (List.replicate (w * h) p), I64 0]) := new_yes w h p hw hh
theorem gset_n (w h : Nat) (px : List Int) (n : Nat) (hn : px.length = n) (x y p : Int) (hw : w ≤ 128) (hh : h ≤ 128) (hl : px.length = w * h) (hb : ∀ v ∈ px, 0 ≤ v ∧ v < 256) (hx : 0 ≤ x ∧ x < w) (hy : 0 ≤ y ∧ y < h) :
    CallP Tryz.prog 63 [.agg [I64 w, I64 h, .islc (encL cU px) n none], I64 x, I64 y, U8 p] (.agg [I64 w, I64 h, .islc (encL cU (px.set (y * w + x).toNat p)) n none]) := by
  have k := gset_p ⟨w, h, px⟩ ⟨hw, hh, hl, hb⟩ x y p
  have e : Pic.set ⟨w, h, px⟩ x y p = ⟨w, h, px.set (y * w + x).toNat p⟩ := if_pos (show inB' w h x y = true from inB_iff.2 ⟨hx.1, hx.2, hy.1, hy.2⟩)
  rw [e] at k
  subst hn
  have k2 : CallP Tryz.prog 63 [gT w h px, I64 x, I64 y, U8 p] (gT w h (px.set (y * w + x).toNat p)) := k
  simp only [gT, List.length_set] at k2
  exact k2
def putF (w : Nat) (px : List Int) : Int → Int → Int → Int := fun a b _ => px[(b * w + a).toNat]!
theorem repl_bd (n : Nat) : ∀ v ∈ List.replicate n (0 : Int), 0 ≤ v ∧ v < 256 := fun v hv => by rw [List.eq_of_mem_replicate hv]; omega
theorem repl_at (n i : Nat) : (List.replicate n (0 : Int))[i]! = 0 := by
  rw [List.getElem!_eq_getElem?_getD, List.getElem?_replicate]; split <;> rfl
theorem of23_p (w h : Nat) (px : List Int) (hw : 1 ≤ w ∧ w ≤ 128) (hh : 1 ≤ h ∧ h ≤ 128) (hl : px.length = w * h) (hb : ∀ v ∈ px, 0 ≤ v ∧ v < 256) : CallP Tryz.prog 19 [gT w h px] (gT w h px) := by
  have hpf : ∀ x y o, 0 ≤ o ∧ o < 256 → 0 ≤ putF w px x y o ∧ putF w px x y o < 256 := fun x y o _ => bang_bd hb _
  have hz : (List.replicate (w * h) (0 : Int)).length = w * h := List.length_replicate
  have hlen : ∀ y x, (paintL w (visV (fun _ _ => True) y x) (putF w px) (List.replicate (w * h) 0)).length = w * h := fun y x => by rw [paintL_len, hz]
  refine CallP.intro2 au_pu au_pu ?_
  refine CallT.intro tab_ok Tryz.func19 rfl (by kernel_rfl) (Nat.le_of_ble_eq_true rfl) ?_
  refine VC.reg tab_ok [1] rfl ?_
  refine VX.newI rfl rfl ?_
  refine VX.new rfl rfl ?_
  refine VX.nil ?_
  refine VC.reg tab_ok [] rfl ?_
  refine VX.meek rfl ?_
  first | refine VX.meek rfl ?_ | refine VX.loadI rfl rfl au_l ?_ | refine VX.loadP rfl rfl rfl au_l ?_
  refine VX.meek rfl ?_
  first | refine VX.meek rfl ?_ | refine VX.loadI rfl rfl au_l ?_ | refine VX.loadP rfl rfl rfl au_l ?_
  refine VX.callP0 rfl rfl rfl (gnew_p w h 0 hw hh) ?_
  iterate 3 refine VX.meek rfl ?_
  refine VX.new rfl rfl ?_
  refine VX.store rfl rfl rfl rfl rfl au_sR rfl ?_
  refine VX.meek rfl ?_
  refine VX.nil ?_
  refine VC.seq ?_
  refine VC.reg tab_ok [] rfl ?_
  refine VX.meek rfl ?_
  refine VX.nil ?_
  refine VC.block ?_
  refine VC.loopS (σ := Nat) (fun y => h - y) (fun y => y ≤ h) (fun y => [(5, I64 y), (2, .ptr 0 0), (3, .ptr 1 0)]) (fun y => [.c [I64 0, I64 0, NIL], .c [I64 w, I64 h, .islc (encL cU (paintL w (visV (fun _ _ => True) y 0) (putF w px) (List.replicate (w * h) 0))) (w * h) none]]) [1] rfl (0) ?_ ?_ ?_
  · refine ⟨[some 0, some 1], rfl, by first | trivial | decide, rfl, ?_, ?_⟩ <;> (repeat' first | exact trivial | exact CvB_n | exact CvB_d | refine CvE_app ?_ ?_ | refine CvE_cons rfl ?_ ?_ | refine CvH_cons ?_ ?_ | refine CvB_c rfl ?_ | fail) <;> first | exact au_v | (first | exact CvL.pure rfl | (refine cv_g (Cv.eq ?_ (encL_pure cU _)); rw [paint_none (h := h) hz (fun a b _ _ _ _ hh => by unfold visV at hh; omega), hz]))
  · (try dsimp only); omega
  rintro y hy
  refine VC.seq ?_
  refine VC.reg tab_ok [] rfl ?_
  iterate 2 refine VX.meek rfl ?_
  first | refine VX.meek rfl ?_ | refine VX.loadI rfl rfl au_l ?_ | refine VX.loadP rfl rfl rfl au_l ?_
  refine VX.meek rfl ?_
  refine VX.nil ?_
  refine VC.cond rfl (fun hc0 => ?_) (fun hc0 => ?_)
  · (try simp only [au_std] at hc0); have hyl : y < h := (by omega)
    refine VC.skip ?_
    refine VC.seq ?_
    refine VC.block ?_
    refine VC.reg tab_ok [] rfl ?_
    refine VX.meek rfl ?_
    refine VX.nil ?_
    refine VC.block ?_
    refine VC.loopS (σ := Nat) (fun x => w - x) (fun x => x ≤ w) (fun x => [(6, I64 x), (2, .ptr 0 0), (3, .ptr 1 0)]) (fun x => [.c [I64 0, I64 0, NIL], .c [I64 w, I64 h, .islc (encL cU (paintL w (visV (fun _ _ => True) y x) (putF w px) (List.replicate (w * h) 0))) (w * h) none]]) [1, 5] rfl (0) ?_ ?_ ?_
    · refine ⟨[some 0, some 1], rfl, by first | trivial | decide, rfl, ?_, ?_⟩ <;> (repeat' first | exact trivial | exact CvB_n | exact CvB_d | refine CvE_app ?_ ?_ | refine CvE_cons rfl ?_ ?_ | refine CvH_cons ?_ ?_ | refine CvB_c rfl ?_ | fail) <;> first | exact au_v | (first | exact CvL.pure rfl | exact cv_g (Cv.pure (encL_pure cU _)))
    · (try dsimp only); omega
    rintro x hx
    refine VC.seq ?_
    refine VC.reg tab_ok [] rfl ?_
    iterate 2 refine VX.meek rfl ?_
    first | refine VX.meek rfl ?_ | refine VX.loadI rfl rfl au_l ?_ | refine VX.loadP rfl rfl rfl au_l ?_
    refine VX.meek rfl ?_
    refine VX.nil ?_
    refine VC.cond rfl (fun hc1 => ?_) (fun hc1 => ?_)
    · (try simp only [au_std] at hc1); have hxl : x < w := (by omega); have hpi := place_lt (x := (x : Int)) (y := (y : Int)) (by omega) (by omega) (by omega) (show (y : Int) < h by omega)
      have hat : atG w h px x y = px[((y : Int) * w + x).toNat]! := if_pos (inB_iff.2 ⟨by omega, by omega, by omega, by omega⟩)
      have hvv : ∀ a b : Int, visV (fun _ _ => True) y (x + 1 : Nat) a b ↔ visV (fun _ _ => True) y x a b ∨ (a = x ∧ b = y) := (fun a b => by unfold visV; simp only [true_and]; omega)
      have hst : (paintL w (visV (fun _ _ => True) y x) (putF w px) (List.replicate (w * h) 0)).set ((y : Int) * w + x).toNat px[((y : Int) * w + x).toNat]! = paintL w (visV (fun _ _ => True) y (x + 1 : Nat)) (putF w px) (List.replicate (w * h) 0) := paint_put hz (by omega) (by omega) (by omega) (show (y : Int) < h by omega) rfl (fun a b _ _ _ _ => hvv a b)
      have hls := hlen y x
      refine VC.skip ?_
      refine VC.seq ?_
      refine VC.block ?_
      refine VC.reg tab_ok [] rfl ?_
      first | refine VX.meek rfl ?_ | refine VX.loadI rfl rfl au_l ?_ | refine VX.loadP rfl rfl rfl au_l ?_
      iterate 2 refine VX.meek rfl ?_
      refine VX.callP0 rfl rfl rfl ((show CallP Tryz.prog 75 [gT w h px, I64 x, I64 y] (U8 px[((y : Int) * w + x).toNat]!) from hat ▸ at23_p w h px x y hw.2 hh.2 hl)) ?_
      refine VX.meek rfl ?_
      refine VX.nil ?_
      refine VC.reg tab_ok [] rfl ?_
      iterate 2 refine VX.meek rfl ?_
      refine VX.nil ?_
      refine VC.cond rfl (fun hc2 => ?_) (fun hc2 => ?_)
      · (try simp only [au_std] at hc2)
        refine VC.regN tab_ok [] rfl ?_
        first | refine VX.meek rfl ?_ | refine VX.loadI rfl rfl au_l ?_ | refine VX.loadP rfl rfl rfl au_l ?_
        iterate 3 refine VX.meek rfl ?_
        refine VX.callP0 rfl rfl rfl (gset_n w h (paintL w (visV (fun _ _ => True) y x) (putF w px) (List.replicate (w * h) 0)) (w * h) hls x y px[((y : Int) * w + x).toNat]! hw.2 hh.2 hls (paintL_bd (repl_bd _) hpf) ⟨by omega, by omega⟩ ⟨by omega, by omega⟩) ?_
        refine VX.store rfl rfl rfl rfl rfl au_sR rfl ?_
        refine VX.nil ?_
        refine VC.regN tab_ok [] rfl ?_
        refine VX.meek rfl ?_
        first | refine VX.add rfl rfl (by omega) ?_ | refine VX.meek rfl ?_
        refine VX.meek rfl ?_
        refine VX.nil ?_
        refine ⟨x + 1, by (try dsimp only); omega, ?_, (by refine ⟨[some 0, some 1], rfl, by first | trivial | decide, rfl, ?_, ?_⟩ <;> (repeat' first | exact trivial | exact CvB_n | exact CvB_d | refine CvE_app ?_ ?_ | refine CvE_cons rfl ?_ ?_ | refine CvH_cons ?_ ?_ | refine CvB_c rfl ?_ | fail) <;> first | exact au_v | (first | exact CvL.pure rfl | (rw [← hst]; exact cv_g (Cv.pure (encL_pure cU _)))))⟩
        (try dsimp only); omega
      · (try simp only [au_std] at hc2); have hst2 : paintL w (visV (fun _ _ => True) y x) (putF w px) (List.replicate (w * h) 0) = paintL w (visV (fun _ _ => True) y (x + 1 : Nat)) (putF w px) (List.replicate (w * h) 0) := (by
          rw [← hst, hc2]
          refine listI_ext (by rw [List.length_set]) fun i hi => ?_
          rw [bang_set]
          split
          · rename_i hh
            rw [← hh.1, paintL_not ⟨by omega, by omega⟩ (by omega) (by rw [hz]; omega) (by unfold visV; simp only [true_and]; omega), repl_at]
          · rfl)
        refine VC.skip ?_
        refine VC.regN tab_ok [] rfl ?_
        refine VX.meek rfl ?_
        first | refine VX.add rfl rfl (by omega) ?_ | refine VX.meek rfl ?_
        refine VX.meek rfl ?_
        refine VX.nil ?_
        refine ⟨x + 1, by (try dsimp only); omega, ?_, (by refine ⟨[some 0, some 1], rfl, by first | trivial | decide, rfl, ?_, ?_⟩ <;> (repeat' first | exact trivial | exact CvB_n | exact CvB_d | refine CvE_app ?_ ?_ | refine CvE_cons rfl ?_ ?_ | refine CvH_cons ?_ ?_ | refine CvB_c rfl ?_ | fail) <;> first | exact au_v | (first | exact CvL.pure rfl | (rw [← hst2]; exact cv_g (Cv.pure (encL_pure cU _)))))⟩
        (try dsimp only); omega
    · (try simp only [au_std] at hc1); have hxw : (x : Int) = w := (by omega)
      refine VC.exit ?_
      refine VC.regN tab_ok [] rfl ?_
      refine VX.meek rfl ?_
      first | refine VX.add rfl rfl (by omega) ?_ | refine VX.meek rfl ?_
      refine VX.meek rfl ?_
      refine VX.nil ?_
      refine ⟨y + 1, by (try dsimp only); omega, ?_, (by refine ⟨[some 0, some 1], rfl, by first | trivial | decide, rfl, ?_, ?_⟩ <;> (repeat' first | exact trivial | exact CvB_n | exact CvB_d | refine CvE_app ?_ ?_ | refine CvE_cons rfl ?_ ?_ | refine CvH_cons ?_ ?_ | refine CvB_c rfl ?_ | fail) <;> first | exact au_v | (first | exact CvL.pure rfl | (refine cv_g (Cv.eq ?_ (encL_pure cU _)); rw [paint_congr (V := visV (fun _ _ => True) y x) (V' := visV (fun _ _ => True) (y + 1 : Nat) 0) (f := putF w px) (g := putF w px) hz (fun a b h1 h2 h3 h4 => by unfold visV; simp only [true_and]; omega) (fun _ _ _ _ _ _ _ => rfl)])))⟩
      (try dsimp only); omega
  · (try simp only [au_std] at hc0); obtain rfl : h = y := (by omega); have hfin : paintL w (visV (fun _ _ => True) h 0) (putF w px) (List.replicate (w * h) 0) = px := px_ext (h := h) (by rw [paintL_len, hz]) hl (fun a b h1 h2 h3 h4 => by
      have := (place_lt h1 h2 h3 h4).1
      rw [paintL_yes ⟨h1, h2⟩ h3 (by rw [hz]; omega) (by unfold visV; simp only [true_and]; omega)]; rfl)
    rw [hfin]
    refine VC.exit ?_
    refine VC.reg tab_ok [] rfl ?_
    first | refine VX.meek rfl ?_ | refine VX.loadI rfl rfl au_l ?_ | refine VX.loadP rfl rfl rfl au_l ?_
    refine VX.store rfl rfl rfl rfl rfl au_sR rfl ?_
    refine VX.nil ?_
    refine VC.ret ?_
    refine ⟨trivial, _, rfl, Cv.agg (cv_g ?_)⟩; rw [hl]; exact Cv.pure (encL_pure cU _)
end
end Go.Proofs.YtelhkfdpkjkpjaaGreat
