/-
  The proof's lemmas, part 6.
-/
import Derived.Test.YtelhkfdpkjkpjaaGreatYne
import Derived.OpenVars
import Derived.Carry
namespace Go.Proofs.YtelhkfdpkjkpjaaGreat
set_option linter.unusedSimpArgs false
set_option linter.unusedVariables false
section
open Go.RowKit Go.Sort
set_option maxRecDepth 10000
theorem inL_filter1 {l : List Rect} {x y : Int} : inL (l.filter countsB) x y ↔ ∃ r ∈ l, countsB r = true ∧ r.has x y := by
  unfold inL; simp only [List.mem_filter]
  constructor
  · rintro ⟨r, ⟨h1, h2⟩, h3⟩; exact ⟨r, h1, h2, h3⟩
  · rintro ⟨r, h1, h2, h3⟩; exact ⟨r, ⟨h1, h2⟩, h3⟩
theorem one_in {r : Rect} {x y : Int} : inL ([r].filter countsB) x y ↔ countsB r = true ∧ r.has x y := by
  rw [inL_filter1]
  constructor
  · rintro ⟨q, h1, h2⟩; rw [List.mem_singleton] at h1; subst h1; exact h2
  · intro h; exact ⟨r, List.mem_singleton.2 rfl, h⟩
theorem opL_sub {n m : Nat} {a b : List Rect} (ha : Reg n a) (hb : Reg m b) {x y : Int} : inL (opL subB a b) x y ↔ inL a x y ∧ ¬ inL b x y := by
  rw [opL_in (k := subB) rfl ha.1 hb.1 ha.2 hb.2 x y]
  unfold subB
  simp
theorem areaV_in {n m : Nat} {fr clip : List Rect} (hf : Reg n fr) (hc : Reg m clip) (s : Rect) (x y : Int) (sw sh w h : Nat) (a b : Int) : inL (areaV fr clip s x y sw sh w h) a b ↔ inL (wantR clip (toR s x y) w h) a b ∧ inL (thereR fr s sw sh x y) a b :=
  opL_and (want_reg hc _ w h) (there_reg hf s sw sh x y)
theorem areaM_in {n m : Nat} {fr clip : List Rect} (hf : Reg n fr) (hc : Reg m clip) (s : Rect) (x y : Int) (sw sh w h : Nat) (a b : Int) : inL (areaM fr clip s x y sw sh w h) a b ↔ noneB s x y = false ∧ inL (wantR clip (toR s x y) w h) a b ∧ ¬ inL (thereR fr s sw sh x y) a b := by
  unfold areaM
  split
  · rename_i h0
    exact ⟨fun k => absurd k inL_nil, fun k => by rw [h0] at k; exact absurd k.1 (by decide)⟩
  · rename_i h0
    rw [opL_sub (want_reg hc _ w h) (there_reg hf s sw sh x y)]
    exact ⟨fun k => ⟨by simpa using h0, k⟩, fun k => k.2⟩
theorem areaM_reg {n m : Nat} {fr clip : List Rect} (hf : Reg n fr) (hc : Reg m clip) (s : Rect) (x y : Int) (sw sh w h : Nat) : Reg (n + m + 10) (areaM fr clip s x y sw sh w h) := by
  unfold areaM
  split
  · exact Reg.nil.mono (Nat.zero_le _)
  · exact (opL_reg (k := subB) rfl (want_reg hc _ w h) (there_reg hf s sw sh x y)).mono (by omega)

end
section
open Go.RowKit Go.Sort
set_option maxRecDepth 10000
set_option maxHeartbeats 1000000
def pen0 : PenS := ⟨3, 255, 0, 1, 0, 0, 0, false, []⟩
theorem pen0_ok : PenOk pen0 := ⟨by decide, by decide, by decide, .inr rfl, by simp [pen0], by simp [pen0]⟩
theorem row24_p : CallP Tryz.prog 96 [.islc (encL cU [1, 2, 3, 4]) 4 none] (gT 4 1 [1, 2, 3, 4]) := by
  have hmk : CallP Tryz.prog 36 [.agg [U8 3, U8 0, .islc (encL cU [1, 2, 3, 4]) 4 none]] (gT 4 1 [1, 2, 3, 4]) := by
    have := make17_p 3 0 [1, 2, 3, 4] (by omega) (by omega) (by simp) (by intro v hv; simp at hv; omega)
    rw [show padL [1, 2, 3, 4] ((3 % 16 + 1) * (0 % 16 + 1)) = [1, 2, 3, 4] from by decide] at this
    exact this
  refine CallP.intro2 au_pu au_pu ?_
  refine CallT.intro tab_ok Tryz.func96 rfl (by kernel_rfl) (Nat.le_of_ble_eq_true rfl) ?_
  refine VC.reg tab_ok [] rfl ?_
  refine VX.new rfl rfl ?_
  refine VX.nil ?_
  refine VC.reg tab_ok [] rfl ?_
  iterate 2 refine VX.meek rfl ?_
  first | refine VX.sub rfl rfl (by omega) ?_ | refine VX.meek rfl ?_
  refine VX.meek (t := U8 3) rfl ?_
  iterate 2 refine VX.meek rfl ?_
  refine VX.callP0 rfl rfl rfl (hmk) ?_
  refine VX.store rfl rfl rfl rfl rfl au_sS rfl ?_
  refine VX.nil ?_
  refine VC.ret ?_
  exact ⟨trivial, _, rfl, Cv.agg (cv_g (Cv.pure rfl))⟩
theorem plane41 (a b : Int) : inL (bandOf [⟨0, 0, 4, 1⟩]) a b ↔ 0 ≤ a ∧ a < 4 ∧ 0 ≤ b ∧ b < 1 := in_plane0 (w := 4) (h := 1) (by omega) (by omega) a b
theorem ex_px : areaPx (bandOf [⟨0, 0, 4, 1⟩]) (bandOf [⟨0, 0, 4, 1⟩]) ⟨0, 0, 3, 1⟩ 1 0 4 1 4 1 pen0 [1, 2, 3, 4] [1, 2, 3, 4] = [1, 1, 2, 3] := by
  unfold areaPx
  rw [if_neg (by decide), paintL_dec (D := fun x y => decide (1 ≤ x) && decide (x < 4) && decide (0 ≤ y) && decide (y < 1)) (fun x y => by
    rw [areaV_in (Reg.of _) (Reg.of _), want_in (Reg.of _) _ (by omega) (by omega), there_in (Reg.of _) _ (by omega) (by omega), plane41, plane41, one_in, one_in]
    simp only [show countsB (toR ⟨0, 0, 3, 1⟩ 1 0) = true from by decide, show countsB ⟨0, 0, 3, 1⟩ = true from by decide, Bool.and_eq_true, decide_eq_true_eq, true_and]
    unfold Rect.has toR inQ
    dsimp only
    omega)]
  decide +kernel
theorem nil_of {l : List Rect} (hc : Canon l) (h : ∀ x y, ¬ inL l x y) : l = [] := canon_uniq hc canon_nil fun x y => ⟨fun k => absurd k (h x y), fun k => absurd k inL_nil⟩
theorem ex_m : areaM (bandOf [⟨0, 0, 4, 1⟩]) (bandOf [⟨0, 0, 4, 1⟩]) ⟨0, 0, 3, 1⟩ 1 0 4 1 4 1 = [] := by
  refine nil_of (areaM_reg (Reg.of _) (Reg.of _) _ _ _ _ _ _ _).canon fun x y k => ?_
  rw [areaM_in (Reg.of _) (Reg.of _), want_in (Reg.of _) _ (by omega) (by omega), there_in (Reg.of _) _ (by omega) (by omega), plane41, plane41, one_in, one_in] at k
  simp only [show countsB (toR ⟨0, 0, 3, 1⟩ 1 0) = true from by decide, show countsB ⟨0, 0, 3, 1⟩ = true from by decide, true_and] at k
  unfold Rect.has toR inQ at k
  dsimp only at k
  omega
theorem scrA_reg {m : Nat} {clip : List Rect} (hc : Reg m clip) (w h : Nat) : Reg (m + 2) (scrA clip w h) := opL_reg (k := and) rfl hc (Reg.of [⟨0, 0, (w : Int), (h : Int)⟩])
theorem scrT_in {m : Nat} {clip : List Rect} (hc : Reg m clip) {w h : Nat} (hw : w ≤ 128) (hh : h ≤ 128) (dx dy x y : Int) : inL (scrT clip w h dx dy) x y ↔ (inL clip (x - dx) (y - dy) ∧ 0 ≤ x - dx ∧ x - dx < w ∧ 0 ≤ y - dy ∧ y - dy < h) ∧ inQ x y := by
  unfold scrT
  rw [shift_in (scrA_reg hc w h).ok, scrA_in hc hw hh]
theorem scrT_reg {m : Nat} {clip : List Rect} (hc : Reg m clip) (w h : Nat) (dx dy : Int) : Reg (m + 2 + 2) (scrT clip w h dx dy) := (scrA_reg hc w h).shift dx dy
theorem scrV_in {m : Nat} {clip : List Rect} (hc : Reg m clip) (w h : Nat) (dx dy x y : Int) : inL (scrV clip w h dx dy) x y ↔ inL (scrA clip w h) x y ∧ inL (scrT clip w h dx dy) x y := opL_and (scrA_reg hc w h) (scrT_reg hc w h dx dy)
open Classical in
theorem scrM_in {m : Nat} {clip : List Rect} (hc : Reg m clip) (w h : Nat) (dx dy x y : Int) : inL (scrM clip w h dx dy) x y ↔ inL (scrA clip w h) x y ∧ (scrFar w h dx dy ∨ ¬ inL (scrT clip w h dx dy) x y) := by
  unfold scrM
  split
  · rename_i hf; exact ⟨fun k => ⟨k, .inl hf⟩, fun k => k.1⟩
  · rename_i hf
    rw [opL_sub (scrA_reg hc w h) (scrT_reg hc w h dx dy)]
    exact ⟨fun k => ⟨k.1, .inr k.2⟩, fun k => ⟨k.1, k.2.resolve_left hf⟩⟩
open Classical in
theorem scrM_reg {m : Nat} {clip : List Rect} (hc : Reg m clip) (w h : Nat) (dx dy : Int) : Reg (m + m + 10) (scrM clip w h dx dy) := by
  unfold scrM
  split
  · exact (scrA_reg hc w h).mono (by omega)
  · exact (opL_reg (k := subB) rfl (scrA_reg hc w h) (scrT_reg hc w h dx dy)).mono (by omega)
theorem ex_far : ¬ scrFar 4 1 1 0 := by unfold scrFar; simp
theorem ex_spx : scrPx (bandOf [⟨0, 0, 4, 1⟩]) 4 1 1 0 pen0 [1, 2, 3, 4] = [1, 1, 2, 3] := by
  unfold scrPx
  rw [if_neg ex_far, paintL_dec (D := fun x y => decide (1 ≤ x) && decide (x < 4) && decide (0 ≤ y) && decide (y < 1)) (fun x y => by
    rw [scrV_in (Reg.of _), scrA_in (Reg.of _) (by omega) (by omega), scrT_in (Reg.of _) (by omega) (by omega), plane41, plane41]
    unfold inQ
    simp only [Bool.and_eq_true, decide_eq_true_eq]
    omega)]
  decide +kernel
theorem ex_sm (x y : Int) : inL (scrM (bandOf [⟨0, 0, 4, 1⟩]) 4 1 1 0) x y ↔ x = 0 ∧ y = 0 := by
  rw [scrM_in (Reg.of _), scrA_in (Reg.of _) (by omega) (by omega), scrT_in (Reg.of _) (by omega) (by omega), plane41, plane41]
  have := ex_far
  unfold inQ
  constructor
  · rintro ⟨a, b | b⟩
    · exact absurd b this
    · omega
  · intro k; exact ⟨by omega, .inr (by omega)⟩
theorem awake24_p : CallP Tryz.prog 34 [] (BL true) := by
  have hb4 : ∀ v ∈ [(1 : Int), 2, 3, 4], 0 ≤ v ∧ v < 256 := by intro v hv; simp at hv; omega
  have hr : rI ⟨0, 0, 3, 1⟩ := ⟨by unfold i64; dsimp only; omega, by unfold i64; dsimp only; omega, by unfold i64; dsimp only; omega, by unfold i64; dsimp only; omega⟩
  have hwi : CallP Tryz.prog 42 [gT 4 1 [1, 2, 3, 4], regT (bandOf [⟨0, 0, 4, 1⟩]), regT (bandOf [⟨0, 0, 4, 1⟩]), rectT ⟨0, 0, 3, 1⟩, I64 1, I64 0, penT pen0] (.tup [gT 4 1 [1, 1, 2, 3], regT []]) := by
    have k := blitArea_p 4 1 4 1 [1, 2, 3, 4] [1, 2, 3, 4] (bandOf [⟨0, 0, 4, 1⟩]) (bandOf [⟨0, 0, 4, 1⟩]) ⟨0, 0, 3, 1⟩ 1 0 pen0 (by omega) (by omega) rfl hb4 (by omega) (by omega) rfl hb4 (Reg.of _) (Reg.of _) (by simp) hr (by unfold i64; omega) (by unfold i64; omega) pen0_ok ⟨by decide, by decide⟩
    rw [ex_px, ex_m] at k
    exact blitWithin_w 4 1 _ _ _ _ _ _ _ _ _ k
  have hsc : CallP Tryz.prog 43 [gT 4 1 [1, 2, 3, 4], regT (bandOf [⟨0, 0, 4, 1⟩]), I64 1, I64 0, penT pen0] (.tup [gT 4 1 [1, 1, 2, 3], regT (scrM (bandOf [⟨0, 0, 4, 1⟩]) 4 1 1 0)]) := by
    have k := blitScroll_p 4 1 [1, 2, 3, 4] (bandOf [⟨0, 0, 4, 1⟩]) 1 0 pen0 ⟨by omega, by omega⟩ ⟨by omega, by omega⟩ rfl hb4 (Reg.of _) (by simp) pen0_ok ⟨by decide, by decide⟩
    rw [ex_spx] at k
    exact k
  have hM := scrM_reg (Reg.of [⟨0, 0, 4, 1⟩]) 4 1 1 0
  have hMin := ex_sm
  have har := area_any (w := 4) (h := 1) hM (by simp) (by omega) (fun x y k => by have := (hMin x y).1 k; omega)
  have hMl : (scrM (bandOf [⟨0, 0, 4, 1⟩]) 4 1 1 0).length ≤ 1048576 := Nat.le_trans hM.len (by decide)
  have hhas := has_p _ hM.canon hM.ok hMl 0 0
  rw [decide_eq_true ((hMin 0 0).2 ⟨rfl, rfl⟩)] at hhas
  rw [show cntG (fun x y => decide (inL (scrM (bandOf [⟨0, 0, 4, 1⟩]) 4 1 1 0) x y)) 4 1 = cntG (fun x y => decide (x = 0 ∧ y = 0)) 4 1 from cntG_congr fun i j _ _ => decide_eq_decide.2 (hMin i j), show cntG (fun x y => decide (x = 0 ∧ y = 0)) 4 1 = 1 from by decide] at har
  generalize scrM (bandOf [⟨0, 0, 4, 1⟩]) 4 1 1 0 = M at *
  refine CallP.intro2 au_pu au_pu ?_
  refine CallT.intro tab_ok Tryz.func34 rfl (by kernel_rfl) (Nat.le_of_ble_eq_true rfl) ?_
  refine VC.reg tab_ok [] rfl ?_
  refine VX.meek rfl ?_
  refine VX.nil ?_
  refine VC.reg tab_ok [7, 10] rfl ?_
  refine VX.newI rfl rfl ?_
  refine VX.callP rfl rfl row24_p au_wk rfl ?_
  refine VX.meek rfl ?_
  refine VX.newI rfl rfl ?_
  refine VX.callP rfl rfl (of_p [⟨0, 0, 4, 1⟩] (by simp) (fun q hq => by rw [List.mem_singleton] at hq; subst hq; unfold i64; dsimp only; omega)) au_wk rfl ?_
  refine VX.new rfl rfl ?_
  refine VX.new rfl rfl ?_
  refine VX.store rfl rfl rfl rfl rfl au_sS rfl ?_
  refine VX.store rfl rfl rfl rfl rfl au_sS rfl ?_
  refine VX.nil ?_
  refine VC.drwS tab_ok [] [_, _, _, _, _, _, _, _, _, _, _, _] (_) rfl (by kernel_rfl) (by kernel_rfl) (by kernel_rfl) (seen_refl _) ?_
  refine VS.seg (l1 := [_, _, _, _, _, _, _, _, _]) rfl ?_
  first | refine VX.meek rfl ?_ | refine VX.loadI rfl rfl au_l ?_ | refine VX.loadP rfl rfl rfl au_l ?_
  first | refine VX.meek rfl ?_ | refine VX.loadI rfl rfl au_l ?_ | refine VX.loadP rfl rfl rfl au_l ?_
  first | refine VX.meek rfl ?_ | refine VX.loadI rfl rfl au_l ?_ | refine VX.loadP rfl rfl rfl au_l ?_
  refine VX.meek rfl ?_
  refine VX.callP0 rfl rfl rfl (newPen_p) ?_
  refine VX.callP0 rfl rfl rfl (hwi) ?_
  iterate 3 refine VX.meek rfl ?_
  refine VX.nil ?_
  refine VS.hid rfl ?_
  refine VS.seg (l1 := [_]) rfl ?_
  refine VX.new rfl rfl ?_
  refine VX.nil ?_
  refine VS.sto rfl rfl rfl rfl ?_
  refine VS.nil (⟨rfl, Nat.le_of_ble_eq_true rfl, rfl, trivial⟩) ?_
  refine VX.store rfl rfl rfl rfl rfl au_sS rfl ?_
  refine VX.nil ?_
  refine VC.drwS tab_ok [] [_, _, _, _, _, _, _, _, _, _] (_) rfl (by kernel_rfl) (by kernel_rfl) (by kernel_rfl) (seen_refl _) ?_
  refine VS.seg (l1 := [_, _, _, _, _, _, _]) rfl ?_
  first | refine VX.meek rfl ?_ | refine VX.loadI rfl rfl au_l ?_ | refine VX.loadP rfl rfl rfl au_l ?_
  first | refine VX.meek rfl ?_ | refine VX.loadI rfl rfl au_l ?_ | refine VX.loadP rfl rfl rfl au_l ?_
  refine VX.callP0 rfl rfl rfl (newPen_p) ?_
  refine VX.callP0 rfl rfl rfl (hsc) ?_
  iterate 3 refine VX.meek rfl ?_
  refine VX.nil ?_
  refine VS.hid rfl ?_
  refine VS.seg (l1 := [_]) rfl ?_
  refine VX.new rfl rfl ?_
  refine VX.nil ?_
  refine VS.sto rfl rfl rfl rfl ?_
  refine VS.nil (⟨rfl, Nat.le_of_ble_eq_true rfl, rfl, trivial⟩) ?_
  refine VX.store rfl rfl rfl rfl rfl au_sS rfl ?_
  refine VX.nil ?_
  refine VC.reg tab_ok [] rfl ?_
  first | refine VX.meek rfl ?_ | refine VX.loadI rfl rfl au_l ?_ | refine VX.loadP rfl rfl rfl au_l ?_
  refine VX.callP0 rfl rfl rfl (row_p 4 1 [1, 1, 2, 3] 0 (by omega) (by omega) rfl (by omega)) ?_
  iterate 2 refine VX.meek rfl ?_
  refine' VX.merge (d := 34) [_, _, _] rfl ?_ rfl ?_
  rotate_left
  · refine VX.guard rfl rfl (fun hb4_3 => ?_) (fun hb4_3 => ?_)
    · have ghb4_3 := hb4_3
      try simp only [au_std, Bool.not_true, Bool.not_false] at ghb4_3
      first | refine VX.meek rfl ?_ | refine VX.loadI rfl rfl au_l ?_ | refine VX.loadP rfl rfl rfl au_l ?_
      refine VX.guardT rfl rfl hb4_3 ?_
      refine VX.callP0 rfl rfl rfl (empty_p []) ?_
      refine VX.pickA rfl (fun _ => rfl) ?_
      exact VX.nil ⟨rfl, rfl⟩
    · refine VX.guardF rfl rfl hb4_3 ?_
      exact VX.pickA rfl (fun h => absurd (h.symm.trans hb4_3) (by decide)) (VX.nil ⟨rfl, rfl⟩)
  refine VX.meek rfl ?_
  refine' VX.merge (d := 39) [_, _, _, _] rfl ?_ rfl ?_
  rotate_left
  · refine VX.guard rfl rfl (fun hb4_7 => ?_) (fun hb4_7 => ?_)
    · have ghb4_7 := hb4_7
      try simp only [au_std, Bool.not_true, Bool.not_false] at ghb4_7
      first | refine VX.meek rfl ?_ | refine VX.loadI rfl rfl au_l ?_ | refine VX.loadP rfl rfl rfl au_l ?_
      refine VX.guardT rfl rfl hb4_7 ?_
      refine VX.callP0 rfl rfl rfl (row_p 4 1 [1, 1, 2, 3] 0 (by omega) (by omega) rfl (by omega)) ?_
      refine VX.guardT rfl rfl hb4_7 ?_
      refine VX.meek rfl ?_
      refine VX.pickA rfl (fun _ => rfl) ?_
      exact VX.nil ⟨rfl, rfl⟩
    · refine VX.guardF rfl rfl hb4_7 ?_
      refine VX.guardF rfl rfl hb4_7 ?_
      exact VX.pickA rfl (fun h => absurd (h.symm.trans hb4_7) (by decide)) (VX.nil ⟨rfl, rfl⟩)
  refine VX.meek rfl ?_
  refine' VX.merge (d := 44) [_, _, _, _] rfl ?_ rfl ?_
  rotate_left
  · refine VX.guard rfl rfl (fun hb4_12 => ?_) (fun hb4_12 => ?_)
    · have ghb4_12 := hb4_12
      try simp only [au_std, Bool.not_true, Bool.not_false] at ghb4_12
      first | refine VX.meek rfl ?_ | refine VX.loadI rfl rfl au_l ?_ | refine VX.loadP rfl rfl rfl au_l ?_
      refine VX.guardT rfl rfl hb4_12 ?_
      refine VX.callP0 rfl rfl rfl (har) ?_
      refine VX.guardT rfl rfl hb4_12 ?_
      refine VX.meek rfl ?_
      refine VX.pickA rfl (fun _ => rfl) ?_
      exact VX.nil ⟨rfl, rfl⟩
    · refine VX.guardF rfl rfl hb4_12 ?_
      refine VX.guardF rfl rfl hb4_12 ?_
      exact VX.pickA rfl (fun h => absurd (h.symm.trans hb4_12) (by decide)) (VX.nil ⟨rfl, rfl⟩)
  refine VX.meek rfl ?_
  refine' VX.merge (d := 48) [_, _, _] rfl ?_ rfl ?_
  rotate_left
  · refine VX.guard rfl rfl (fun hb4_17 => ?_) (fun hb4_17 => ?_)
    · have ghb4_17 := hb4_17
      try simp only [au_std, Bool.not_true, Bool.not_false] at ghb4_17
      first | refine VX.meek rfl ?_ | refine VX.loadI rfl rfl au_l ?_ | refine VX.loadP rfl rfl rfl au_l ?_
      refine VX.guardT rfl rfl hb4_17 ?_
      refine VX.callP0 rfl rfl rfl (hhas) ?_
      refine VX.pickA rfl (fun _ => rfl) ?_
      exact VX.nil ⟨rfl, rfl⟩
    · refine VX.guardF rfl rfl hb4_17 ?_
      exact VX.pickA rfl (fun h => absurd (h.symm.trans hb4_17) (by decide)) (VX.nil ⟨rfl, rfl⟩)
  refine VX.meek rfl ?_
  refine VX.nil ?_
  refine VC.ret ?_
  exact ⟨trivial, _, rfl, Cv.eq (congrArg BL (by decide +kernel)) rfl⟩
end
section
open Go.RowKit Go.Sort
set_option maxRecDepth 10000
set_option maxHeartbeats 1000000
abbrev shS : Sh := .st [shB, shB, shU, shU]
abbrev shPl : Sh := .st [shU, shU, .sl shU]
abbrev shPc : Sh := .st [shU, shU, shB, shB, .bool, .sl shS]
abbrev shAll : Sh := .st [shPl, shPl, .sl shS, .sl shS, shS, shB, shB, shPc]
theorem wt_small {ts : List T} (h : shS.wt ts) : ∃ s : Rect, ts = cS.cells s ∧ smOk s := by
  obtain ⟨a, b, rfl, h1, c, d, rfl, h2, e, f, rfl, h3, g, k, rfl, h4, rfl⟩ := h
  obtain ⟨x, rfl, hx⟩ := wt_i8 h1
  obtain ⟨y, rfl, hy⟩ := wt_i8 h2
  obtain ⟨w, rfl, hw⟩ := wt_u8 h3
  obtain ⟨z, rfl, hz⟩ := wt_u8 h4
  exact ⟨⟨x, y, w, z⟩, rfl, hx.1, hx.2, hy.1, hy.2, hw.1, hw.2, hz.1, hz.2⟩
theorem wt_smalls {ts : List T} (h : (Sh.sl shS).wt ts) : ∃ l : List Rect, ts = [.islc (encL cS l) l.length none] ∧ l.length ≤ maxLen ∧ ∀ s ∈ l, smOk s := wt_sl cS (fun _ => wt_small) h
theorem wt_pl {ts : List T} (h : shPl.wt ts) : ∃ (cw ch : Nat) (P : List Int), ts = [U8 cw, U8 ch, .islc (encL cU P) P.length none] ∧ cw < 256 ∧ ch < 256 ∧ ∀ v ∈ P, 0 ≤ v ∧ v < 256 := wt_canvas h
theorem wt_pc {ts : List T} (h : shPc.wt ts) : ∃ p : PcS, ts = pcC p ∧ p.Ok := by
  obtain ⟨a1, b1, rfl, h1, a2, b2, rfl, h2, a3, b3, rfl, h3, a4, b4, rfl, h4, a5, b5, rfl, h5, a6, b6, rfl, h6, rfl⟩ := h
  obtain ⟨f, rfl, hf⟩ := wt_u8 h1
  obtain ⟨pl, rfl, hp⟩ := wt_u8 h2
  obtain ⟨x, rfl, hx⟩ := wt_i8 h3
  obtain ⟨y, rfl, hy⟩ := wt_i8 h4
  obtain ⟨c, rfl⟩ := h5
  obtain ⟨l, rfl, -, hl⟩ := wt_smalls h6
  exact ⟨⟨f, pl, x, y, c, l⟩, rfl, hf, hp, hx, hy, hl⟩
theorem wt_all {ts : List T} (h : shAll.wt ts) : ∃ a : AllS, ts = allC a ∧ a.Ok := by
  obtain ⟨a1, b1, rfl, h1, a2, b2, rfl, h2, a3, b3, rfl, h3, a4, b4, rfl, h4, a5, b5, rfl, h5, a6, b6, rfl, h6, a7, b7, rfl, h7, a8, b8, rfl, h8, rfl⟩ := h
  obtain ⟨sw, sh, sP, rfl, hs⟩ := wt_pl h1
  obtain ⟨dw, dh, dP, rfl, hd⟩ := wt_pl h2
  obtain ⟨fr, rfl, -, hf⟩ := wt_smalls h3
  obtain ⟨clip, rfl, -, hc⟩ := wt_smalls h4
  obtain ⟨s, rfl, hs2⟩ := wt_small h5
  obtain ⟨x, rfl, hx⟩ := wt_i8 h6
  obtain ⟨y, rfl, hy⟩ := wt_i8 h7
  obtain ⟨p, rfl, hp⟩ := wt_pc h8
  exact ⟨⟨sw, sh, sP, dw, dh, dP, fr, clip, s, x, y, p⟩, rfl, hs, hd, hf, hc, hs2, hx, hy, hp⟩
theorem few_of {a : AllS} (h : fewB a = true) : a.sP.length ≤ 300 ∧ a.dP.length ≤ 300 ∧ a.fr.length ≤ 10 ∧ a.clip.length ≤ 10 ∧ a.p.c.length ≤ 10 := by
  unfold fewB at h; simp only [Bool.and_eq_true, decide_eq_true_eq] at h; omega
theorem ofS_p (l : List Rect) (hl : ∀ s ∈ l, smOk s) (hn : l.length ≤ 10) : CallP Tryz.prog 20 [.islc (encL cR (l.map smR)) (l.map smR).length none] (regT (bandOf (l.map smR))) :=
  of_p (l.map smR) (by rw [List.length_map]; omega) (fun r hr => ⟨(smRs_rI hl r hr).1, (smRs_rI hl r hr).2.1⟩)
theorem ofS_reg (l : List Rect) (hn : l.length ≤ 10) : Reg 20 (bandOf (l.map smR)) := (Reg.of (l.map smR)).mono (by rw [List.length_map]; omega)
theorem i64_8 {x : Int} (h : -128 ≤ x ∧ x ≤ 127) : i64 x := by unfold i64; omega
end
section
open Go.RowKit Go.Sort
set_option maxRecDepth 10000
end
section
open Go.RowKit Go.Sort
theorem mixI_bit {n s d p : Int} {j : Nat} (hj : j < 8) : (mixI n s d p).toNat.testBit j = mixB (ropFn n) s.toNat d.toNat p.toNat j := by
  unfold mixI; rw [Int.toNat_natCast, testBit_mixV _ _ _ _ _ hj]
theorem mixI_lt (n s d p : Int) : (mixI n s d p).toNat < 256 := by unfold mixI; rw [Int.toNat_natCast]; exact mixV_lt _ _ _ _
end
section
open Go.RowKit Go.Sort
set_option maxRecDepth 10000
theorem gsame_r (w h : Nat) (a b : List Int) (hw : w ≤ 128) (hh : h ≤ 128) (ha : a.length = w * h) (hb : b.length = w * h) (ha2 : ∀ v ∈ a, 0 ≤ v ∧ v < 256) (hb2 : ∀ v ∈ b, 0 ≤ v ∧ v < 256) (e : a = b) : CallP Tryz.prog 29 [gT w h a, gT w h b] (BL true) := by
  have k := gsame_p ⟨w, h, a⟩ ⟨w, h, b⟩ ⟨hw, hh, ha, ha2⟩ ⟨hw, hh, hb, hb2⟩
  rwa [decide_eq_true (show (w = w ∧ h = h ∧ a = b) from ⟨rfl, rfl, e⟩)] at k
end
section
open Go.RowKit Go.Sort
set_option maxRecDepth 10000
set_option maxHeartbeats 1000000
end
section
open Go.RowKit Go.Sort
set_option maxRecDepth 10000
set_option maxHeartbeats 1000000
theorem pcC_pure (p : PcS) : T.pureL (pcC p) = true := by simp only [T.pureL, T.pure, encL_pure]; rfl
theorem mix_noop {s d p : Int} (hd : 0 ≤ d ∧ d < 256) : mixI 5 s d p = d := by
  have h0 := mixI_bd 5 s d p
  have h : (mixI 5 s d p).toNat = d.toNat := eq_of_bits (mixI_lt _ _ _ _) (by omega) fun j hj => by
    rw [mixI_bit hj]
    unfold mixB
    split
    · exact (show ∀ a b : Bool, ropFn 5 a b = b by intro a b; cases a <;> cases b <;> decide +kernel) _ _
    · rfl
  omega
theorem area_noop {fr clip : List Rect} {s : Rect} {x y : Int} {sw sh w h : Nat} {p : PenS} (hp : p.f = 5) {spx px : List Int} (hl : px.length = w * h) (hb : ∀ v ∈ px, 0 ≤ v ∧ v < 256) : areaPx fr clip s x y sw sh w h p spx px = px := by
  unfold areaPx
  split
  · rfl
  · refine px_ext (h := h) ((paintL_len _ _ _ _).trans hl) hl fun a b h1 h2 h3 h4 => ?_
    have hpp := (place_lt h1 h2 h3 h4).1
    rw [paintL_at ⟨h1, h2⟩ h3 (by omega)]
    split
    · unfold moveF; rw [hp]; exact mix_noop (bang_bd hb _)
    · rfl
theorem area_noclip {n : Nat} {fr : List Rect} (hf : Reg n fr) (s : Rect) (x y : Int) (sw sh : Nat) {w h : Nat} (hw : w ≤ 128) (hh : h ≤ 128) (p : PenS) (spx : List Int) {px : List Int} (hl : px.length = w * h) : areaPx fr [] s x y sw sh w h p spx px = px ∧ areaM fr [] s x y sw sh w h = [] := by
  constructor
  · unfold areaPx
    split
    · rfl
    · exact paint_none hl fun a b _ _ _ _ k => inL_nil ((want_in Reg.nil _ hw hh a b).1 ((areaV_in hf Reg.nil s x y sw sh w h a b).1 k).1).1.1
  · exact nil_of (areaM_reg hf Reg.nil s x y sw sh w h).canon fun a b k => inL_nil ((want_in Reg.nil _ hw hh a b).1 ((areaM_in hf Reg.nil s x y sw sh w h a b).1 k).2.1).1.1
theorem blitNothing_all {t0 t1 : List T} (h0 : shAll.wt t0) (h1 : shI.wt t1) : CallP Tryz.prog 14 [shAll.tree t0, shI.tree t1] (BL true) := by
  obtain ⟨a, rfl, ha⟩ := wt_all h0
  obtain ⟨far, rfl, hfar⟩ := wt_i64 h1
  clear h0 h1
  obtain ⟨⟨hs1, hs2, hs3⟩, ⟨hd1, hd2, hd3⟩, hf, hc, hsm, hx, hy, hp⟩ := ha
  have hppl : 0 ≤ (penOf a.p).pl ∧ (penOf a.p).pl < 256 := hp.2.1
  have sp := small_p a.s hsm
  have hsi := smR_rI hsm
  have hbd := small_bd hsm
  show CallP Tryz.prog 14 [.agg (allC a), I64 far] (BL true)
  have hap := allC_pure a
  by_cases hfw : fewB a = true
  case neg =>
    have fw := few24_p a
    rw [show fewB a = false by simpa using hfw] at fw
    refine CallP.intro2 au_pu au_pu ?_
    refine CallT.intro tab_ok Tryz.func14 rfl (by kernel_rfl) (Nat.le_of_ble_eq_true rfl) ?_
    refine VC.reg tab_ok [2] rfl ?_
    refine VX.newI rfl rfl ?_
    refine VX.meek rfl ?_
    refine VX.nil ?_
    refine VC.seq ?_
    refine VC.reg tab_ok [] rfl ?_
    first | refine VX.meek rfl ?_ | refine VX.loadI rfl rfl au_l ?_ | refine VX.loadP rfl rfl rfl au_l ?_
    refine VX.callP0 rfl rfl rfl (fw) ?_
    refine VX.meek rfl ?_
    refine VX.nil ?_
    refine VC.cond rfl (fun hc0 => ?_) (fun hc0 => ?_)
    · (try simp only [au_std] at hc0)
      refine VC.reg tab_ok [] rfl ?_
      refine VX.callP0 rfl rfl rfl (awake24_p) ?_
      refine VX.meek rfl ?_
      refine VX.nil ?_
      refine VC.ret ?_
      exact ⟨trivial, _, rfl, Cv.eq (by first | rfl | (simp [*]; done)) rfl⟩
    · exact absurd hc0 (by simp)
  case pos =>
    obtain ⟨n1, n2, n3, n4, n5⟩ := few_of hfw
    have fw := few24_p a
    rw [hfw] at fw
    have mD := make17_p a.dw a.dh a.dP hd1 hd2 (by omega) hd3
    have dl := padL_len a.dP ((a.dw % 16 + 1) * (a.dh % 16 + 1))
    have db := padL_bd hd3 ((a.dw % 16 + 1) * (a.dh % 16 + 1))
    have w3 : 1 ≤ a.dw % 16 + 1 ∧ a.dw % 16 + 1 ≤ 16 := by omega
    have w4 : 1 ≤ a.dh % 16 + 1 ∧ a.dh % 16 + 1 ≤ 16 := by omega
    generalize padL a.dP ((a.dw % 16 + 1) * (a.dh % 16 + 1)) = px at *
    generalize a.dw % 16 + 1 = w at *
    generalize a.dh % 16 + 1 = h at *
    have rf := ofS_reg a.fr n3
    have rc := ofS_reg a.clip n4
    have hpN : PcS.Ok { a.p with f := 5 } := ⟨⟨by show (0 : Int) ≤ 5; decide, by show (5 : Int) < 256; decide⟩, hp.2⟩
    have hpC : PcS.Ok { a.p with f := 3 } := ⟨⟨by show (0 : Int) ≤ 3; decide, by show (3 : Int) < 256; decide⟩, hp.2⟩
    have hfb : -1048576 < far.tmod 1048576 ∧ far.tmod 1048576 < 1048576 := ⟨by have := Int.lt_tmod_of_pos far (show (0 : Int) < 1048576 by decide); omega, Int.tmod_lt_of_pos far (by decide)⟩
    have hW1 : CallP Tryz.prog 42 [gT w h px, regT (bandOf (a.fr.map smR)), regT (bandOf (a.clip.map smR)), rectT ⟨1048576, 0, 1, 1⟩, I64 0, I64 0, penT (penOf a.p)] (.tup [gT w h px, regT []]) := by
      have k := blitArea_p w h w h px px (bandOf (a.fr.map smR)) (bandOf (a.clip.map smR)) ⟨1048576, 0, 1, 1⟩ 0 0 (penOf a.p) (by omega) (by omega) dl db (by omega) (by omega) dl db rf rc (by omega) ⟨by unfold i64; dsimp only; omega, by unfold i64; dsimp only; omega, by unfold i64; dsimp only; omega, by unfold i64; dsimp only; omega⟩ (by unfold i64; omega) (by unfold i64; omega) (penOf_ok hp n5) hppl
      rw [show areaPx (bandOf (a.fr.map smR)) (bandOf (a.clip.map smR)) ⟨1048576, 0, 1, 1⟩ 0 0 w h w h (penOf a.p) px px = px from if_pos (by decide), show areaM (bandOf (a.fr.map smR)) (bandOf (a.clip.map smR)) ⟨1048576, 0, 1, 1⟩ 0 0 w h w h = [] from if_pos (by decide)] at k
      exact blitWithin_w w h px _ _ _ _ _ _ _ _ k
    have hW2 : CallP Tryz.prog 42 [gT w h px, regT (bandOf (a.fr.map smR)), regT [], rectT (smR a.s), I64 a.x, I64 a.y, penT (penOf a.p)] (.tup [gT w h px, regT []]) := by
      have k := blitArea_p w h w h px px (bandOf (a.fr.map smR)) [] (smR a.s) a.x a.y (penOf a.p) (by omega) (by omega) dl db (by omega) (by omega) dl db rf Reg.nil (by omega) hsi (i64_8 hx) (i64_8 hy) (penOf_ok hp n5) hppl
      obtain ⟨q1, q2⟩ := area_noclip rf (smR a.s) a.x a.y w h (w := w) (h := h) (by omega) (by omega) (penOf a.p) px dl
      rw [q1, q2] at k
      exact blitWithin_w w h px _ _ _ _ _ _ _ _ k
    have hW3 : CallP Tryz.prog 42 [gT w h px, regT (bandOf (a.fr.map smR)), regT (bandOf (a.clip.map smR)), rectT (smR a.s), I64 a.x, I64 a.y, penT (penOf { a.p with f := 5 })] (.tup [gT w h px, regT (areaM (bandOf (a.fr.map smR)) (bandOf (a.clip.map smR)) (smR a.s) a.x a.y w h w h)]) := by
      have k := blitArea_p w h w h px px (bandOf (a.fr.map smR)) (bandOf (a.clip.map smR)) (smR a.s) a.x a.y (penOf { a.p with f := 5 }) (by omega) (by omega) dl db (by omega) (by omega) dl db rf rc (by omega) hsi (i64_8 hx) (i64_8 hy) (penOf_ok hpN n5) hppl
      rw [area_noop (p := penOf { a.p with f := 5 }) rfl dl db] at k
      exact blitWithin_w w h px _ _ _ _ _ _ _ _ k
    have hW4 := blitWithin_w w h px _ _ _ _ _ _ _ _ (blitArea_p w h w h px px (bandOf (a.fr.map smR)) (bandOf (a.clip.map smR)) (smR a.s) a.x a.y (penOf { a.p with f := 3 }) (by omega) (by omega) dl db (by omega) (by omega) dl db rf rc (by omega) hsi (i64_8 hx) (i64_8 hy) (penOf_ok hpC n5) hppl)
    have hW5 := blitWithin_w w h px _ _ _ _ _ _ _ _ (blitArea_bad w h w h px px (bandOf (a.fr.map smR)) (bandOf (a.clip.map smR)) (smR a.s) a.x a.y { pen0 with f := 16 } hsi (i64_8 hx) (i64_8 hy) (by decide))
    have hS1 : CallP Tryz.prog 43 [gT w h px, regT (bandOf (a.clip.map smR)), I64 (1073741824 + far.tmod 1048576), I64 0, penT (penOf a.p)] (.tup [gT w h px, regT (scrA (bandOf (a.clip.map smR)) w h)]) := by
      have k := blitScroll_p w h px (bandOf (a.clip.map smR)) (1073741824 + far.tmod 1048576) 0 (penOf a.p) ⟨by omega, by omega⟩ ⟨by omega, by omega⟩ dl db rc (by omega) (penOf_ok hp n5) hppl
      have hfr : scrFar w h (1073741824 + far.tmod 1048576) 0 := by unfold scrFar; omega
      rw [show scrPx (bandOf (a.clip.map smR)) w h (1073741824 + far.tmod 1048576) 0 (penOf a.p) px = px from if_pos hfr, show scrM (bandOf (a.clip.map smR)) w h (1073741824 + far.tmod 1048576) 0 = scrA (bandOf (a.clip.map smR)) w h from if_pos hfr] at k
      exact k
    have hS2 := blitScroll_bad w h px (bandOf (a.clip.map smR)) 1 0 { pen0 with f := 16 } (by decide)
    have hM := areaM_reg rf rc (smR a.s) a.x a.y w h w h
    have hML : (areaM (bandOf (a.fr.map smR)) (bandOf (a.clip.map smR)) (smR a.s) a.x a.y w h w h).length ≤ 1048576 := Nat.le_trans hM.len (by decide)
    have hsm2 := same_p _ (areaM (bandOf (a.fr.map smR)) (bandOf (a.clip.map smR)) (smR a.s) a.x a.y w h w h) hML
    rw [decide_eq_true rfl] at hsm2
    have hIn := inside_p (scrA_reg rc w h) rc (by omega)
    rw [decide_eq_true (nil_of (opL_canon subB _ _) fun x y k => by
      rw [opL_sub (scrA_reg rc w h) rc, scrA_in rc (by omega) (by omega)] at k
      exact k.2 k.1.1)] at hIn
    generalize areaPx (bandOf (a.fr.map smR)) (bandOf (a.clip.map smR)) (smR a.s) a.x a.y w h w h (penOf { a.p with f := 3 }) px px = GC at *
    generalize areaM (bandOf (a.fr.map smR)) (bandOf (a.clip.map smR)) (smR a.s) a.x a.y w h w h = M at *
    generalize scrA (bandOf (a.clip.map smR)) w h = SA at *
    refine CallP.intro2 au_pu au_pu ?_
    refine CallT.intro tab_ok Tryz.func14 rfl (by kernel_rfl) (Nat.le_of_ble_eq_true rfl) ?_
    refine VC.reg tab_ok [2] rfl ?_
    refine VX.newI rfl rfl ?_
    refine VX.meek rfl ?_
    refine VX.nil ?_
    refine VC.view ([(2, .iptr (allC a) 0)]) ([]) [1] rfl (by refine ⟨[], rfl, by first | trivial | decide, rfl, ?_, ?_⟩ <;> (repeat' first | exact trivial | exact CvB_n | exact CvB_d | refine CvE_app ?_ ?_ | refine CvE_cons rfl ?_ ?_ | refine CvH_cons ?_ ?_ | refine CvB_c rfl ?_ | fail) <;> first | exact au_v | (exact Cv.iptr (CvL.eq rfl hap))) ?_
    refine VC.seq ?_
    refine VC.reg tab_ok [] rfl ?_
    first | refine VX.meek rfl ?_ | refine VX.loadI rfl rfl au_l ?_ | refine VX.loadP rfl rfl rfl au_l ?_
    refine VX.callP0 rfl rfl rfl (fw) ?_
    refine VX.meek rfl ?_
    refine VX.nil ?_
    refine VC.cond rfl (fun hc0 => ?_) (fun hc0 => ?_)
    · exact absurd hc0 (by simp)
    · (try simp only [au_std] at hc0)
      refine VC.skip ?_
      refine VC.reg tab_ok [] rfl ?_
      refine VX.meek rfl ?_
      first | refine VX.meek rfl ?_ | refine VX.loadI rfl rfl au_l ?_ | refine VX.loadP rfl rfl rfl au_l ?_
      refine VX.callP0 rfl rfl rfl (mD) ?_
      refine VX.new rfl rfl ?_
      refine VX.store rfl rfl rfl rfl rfl au_sS rfl ?_
      refine VX.nil ?_
      refine VC.view ([(5, .iptr [I64 w, I64 h, .islc (encL cU px) px.length none] 0)]) ([]) [1, 2] rfl (by refine ⟨[], rfl, by first | trivial | decide, rfl, ?_, ?_⟩ <;> (repeat' first | exact trivial | exact CvB_n | exact CvB_d | refine CvE_app ?_ ?_ | refine CvE_cons rfl ?_ ?_ | refine CvH_cons ?_ ?_ | refine CvB_c rfl ?_ | fail) <;> first | exact au_v | (first | exact Cv.fptr ⟨rfl, by simp⟩ (cv_g (Cv.pure (encL_pure cU _))) | exact Cv.fptr ⟨rfl, by simp⟩ (CvL.cons (Cv.pure (encL_pure cR _)) CvL.nil) | exact Cv.fptr ⟨rfl, by simp⟩ (CvL.eq rfl (penC_pure0 _)) | exact CvL.eq rfl (pcC_pure _) | exact CvL.pure (pcC_pure _))) ?_
      refine VC.drw tab_ok [] [_, _, _, _, _, _, _, _, _, _] rfl (by kernel_rfl) (by kernel_rfl) ?_
      refine VX.meek rfl ?_
      first | refine VX.meek rfl ?_ | refine VX.loadI rfl rfl au_l ?_ | refine VX.loadP rfl rfl rfl au_l ?_
      refine VX.callP0 rfl rfl rfl (rects17_p a.fr (by omega) hf) ?_
      refine VX.callP0 rfl rfl rfl (ofS_p a.fr hf n3) ?_
      refine VX.meek rfl ?_
      first | refine VX.meek rfl ?_ | refine VX.loadI rfl rfl au_l ?_ | refine VX.loadP rfl rfl rfl au_l ?_
      refine VX.callP0 rfl rfl rfl (rects17_p a.clip (by omega) hc) ?_
      refine VX.callP0 rfl rfl rfl (ofS_p a.clip hc n4) ?_
      refine VX.new rfl rfl ?_
      refine VX.new rfl rfl ?_
      refine VX.nil ?_
      refine VX.store rfl rfl rfl rfl rfl au_sS rfl ?_
      refine VX.store rfl rfl rfl rfl rfl au_sS rfl ?_
      refine VX.nil ?_
      refine VC.view ([(6, .iptr [.islc (encL cR (bandOf (a.fr.map smR))) (bandOf (a.fr.map smR)).length none] 0), (7, .iptr [.islc (encL cR (bandOf (a.clip.map smR))) (bandOf (a.clip.map smR)).length none] 0)]) ([]) [1, 2, 5] rfl (by refine ⟨[], rfl, by first | trivial | decide, rfl, ?_, ?_⟩ <;> (repeat' first | exact trivial | exact CvB_n | exact CvB_d | refine CvE_app ?_ ?_ | refine CvE_cons rfl ?_ ?_ | refine CvH_cons ?_ ?_ | refine CvB_c rfl ?_ | fail) <;> first | exact au_v | (first | exact Cv.fptr ⟨rfl, by simp⟩ (cv_g (Cv.pure (encL_pure cU _))) | exact Cv.fptr ⟨rfl, by simp⟩ (CvL.cons (Cv.pure (encL_pure cR _)) CvL.nil) | exact Cv.fptr ⟨rfl, by simp⟩ (CvL.eq rfl (penC_pure0 _)) | exact CvL.eq rfl (pcC_pure _) | exact CvL.pure (pcC_pure _))) ?_
      refine VC.reg tab_ok [] rfl ?_
      refine VX.meek rfl ?_
      first | refine VX.meek rfl ?_ | refine VX.loadI rfl rfl au_l ?_ | refine VX.loadP rfl rfl rfl au_l ?_
      refine VX.new rfl rfl ?_
      refine VX.store rfl rfl rfl rfl rfl au_sS rfl ?_
      refine VX.nil ?_
      refine VC.view ([(8, .ptr 0 0)]) ([.c (pcC a.p)]) [1, 2, 5, 6, 7] rfl (by refine ⟨[some 0], rfl, by first | trivial | decide, rfl, ?_, ?_⟩ <;> (repeat' first | exact trivial | exact CvB_n | exact CvB_d | refine CvE_app ?_ ?_ | refine CvE_cons rfl ?_ ?_ | refine CvH_cons ?_ ?_ | refine CvB_c rfl ?_ | fail) <;> first | exact au_v | (first | exact Cv.fptr ⟨rfl, by simp⟩ (cv_g (Cv.pure (encL_pure cU _))) | exact Cv.fptr ⟨rfl, by simp⟩ (CvL.cons (Cv.pure (encL_pure cR _)) CvL.nil) | exact Cv.fptr ⟨rfl, by simp⟩ (CvL.eq rfl (penC_pure0 _)) | exact CvL.eq rfl (pcC_pure _) | exact CvL.pure (pcC_pure _))) ?_
      refine VC.drwS tab_ok [] [_, _, _, _, _, _, _, _, _, _, _, _, _] (_) rfl (by kernel_rfl) (by kernel_rfl) (by kernel_rfl) (seen_refl _) ?_
      refine VS.seg (l1 := [_, _, _, _, _, _, _, _, _, _]) rfl ?_
      first | refine VX.meek rfl ?_ | refine VX.loadI rfl rfl au_l ?_ | refine VX.loadP rfl rfl rfl au_l ?_
      first | refine VX.meek rfl ?_ | refine VX.loadI rfl rfl au_l ?_ | refine VX.loadP rfl rfl rfl au_l ?_
      first | refine VX.meek rfl ?_ | refine VX.loadI rfl rfl au_l ?_ | refine VX.loadP rfl rfl rfl au_l ?_
      refine VX.meek rfl ?_
      first | refine VX.meek rfl ?_ | refine VX.loadI rfl rfl au_l ?_ | refine VX.loadP rfl rfl rfl au_l ?_
      refine VX.callP0 rfl rfl rfl (pencil_p a.p hp (by omega)) ?_
      refine VX.callP0 rfl rfl rfl (hW1) ?_
      iterate 3 refine VX.meek rfl ?_
      refine VX.nil ?_
      refine VS.hid rfl ?_
      refine VS.seg (l1 := [_]) rfl ?_
      refine VX.new rfl rfl ?_
      refine VX.nil ?_
      refine VS.sto rfl rfl rfl rfl ?_
      refine VS.nil (⟨rfl, Nat.le_of_ble_eq_true rfl, rfl, trivial⟩) ?_
      refine VX.store rfl rfl rfl rfl rfl au_sS rfl ?_
      refine VX.nil ?_
      refine VC.view ([(9, .iptr [I64 w, I64 h, .islc (encL cU px) px.length none] 0), (10, .iptr [.islc (encL cR (([] : List Rect))) (([] : List Rect)).length none] 0), (8, .ptr 0 0)]) ([.c (pcC a.p)]) [1, 2, 5, 6, 7] rfl (by refine ⟨[some 0], rfl, by first | trivial | decide, rfl, ?_, ?_⟩ <;> (repeat' first | exact trivial | exact CvB_n | exact CvB_d | refine CvE_app ?_ ?_ | refine CvE_cons rfl ?_ ?_ | refine CvH_cons ?_ ?_ | refine CvB_c rfl ?_ | fail) <;> first | exact au_v | (first | exact Cv.fptr ⟨rfl, by simp⟩ (cv_g (Cv.pure (encL_pure cU _))) | exact Cv.fptr ⟨rfl, by simp⟩ (CvL.cons (Cv.pure (encL_pure cR _)) CvL.nil) | exact Cv.fptr ⟨rfl, by simp⟩ (CvL.eq rfl (penC_pure0 _)) | exact CvL.eq rfl (pcC_pure _) | exact CvL.pure (pcC_pure _))) ?_
      refine VC.drwS tab_ok [] [_, _, _, _, _, _, _, _, _, _, _, _, _, _, _, _, _, _, _, _, _] (_) rfl (by kernel_rfl) (by kernel_rfl) (by kernel_rfl) (seen_refl _) ?_
      refine VS.seg (l1 := [_, _, _, _, _, _, _, _, _, _, _, _, _, _, _, _, _, _]) rfl ?_
      first | refine VX.meek rfl ?_ | refine VX.loadI rfl rfl au_l ?_ | refine VX.loadP rfl rfl rfl au_l ?_
      first | refine VX.meek rfl ?_ | refine VX.loadI rfl rfl au_l ?_ | refine VX.loadP rfl rfl rfl au_l ?_
      iterate 2 refine VX.meek rfl ?_
      first | refine VX.meek rfl ?_ | refine VX.loadI rfl rfl au_l ?_ | refine VX.loadP rfl rfl rfl au_l ?_
      refine VX.callP0 rfl rfl rfl (sp) ?_
      refine VX.meek rfl ?_
      first | refine VX.meek rfl ?_ | refine VX.loadI rfl rfl au_l ?_ | refine VX.loadP rfl rfl rfl au_l ?_
      refine VX.meek (t := I64 a.x) (by show some (T.v (.int .i64 (IntKind.i64.wrap a.x)), (none : Option (Nat × List T))) = _; rw [wrap_in (by omega)]) ?_
      refine VX.meek rfl ?_
      first | refine VX.meek rfl ?_ | refine VX.loadI rfl rfl au_l ?_ | refine VX.loadP rfl rfl rfl au_l ?_
      refine VX.meek (t := I64 a.y) (by show some (T.v (.int .i64 (IntKind.i64.wrap a.y)), (none : Option (Nat × List T))) = _; rw [wrap_in (by omega)]) ?_
      first | refine VX.meek rfl ?_ | refine VX.loadI rfl rfl au_l ?_ | refine VX.loadP rfl rfl rfl au_l ?_
      refine VX.callP0 rfl rfl rfl (pencil_p a.p hp (by omega)) ?_
      refine VX.callP rfl rfl hW2 au_wk (by show T.pureL [gT w h px, regT (bandOf (a.fr.map smR)), .agg [NIL], rectT (smR a.s), I64 a.x, I64 a.y, penT (penOf a.p)] = true; simp only [T.pure, T.pureL, encL_pure]; rfl) ?_
      iterate 3 refine VX.meek rfl ?_
      refine VX.nil ?_
      refine VS.hid rfl ?_
      refine VS.seg (l1 := [_]) rfl ?_
      refine VX.new rfl rfl ?_
      refine VX.nil ?_
      refine VS.sto rfl rfl rfl rfl ?_
      refine VS.nil (⟨rfl, Nat.le_of_ble_eq_true rfl, rfl, trivial⟩) ?_
      refine VX.store rfl rfl rfl rfl rfl au_sS rfl ?_
      refine VX.nil ?_
      refine VC.view ([(11, .iptr [I64 w, I64 h, .islc (encL cU px) px.length none] 0), (12, .iptr [.islc (encL cR (([] : List Rect))) (([] : List Rect)).length none] 0), (8, .ptr 0 0)]) ([.c (pcC a.p)]) [1, 2, 5, 6, 7, 9, 10] rfl (by refine ⟨[some 0], rfl, by first | trivial | decide, rfl, ?_, ?_⟩ <;> (repeat' first | exact trivial | exact CvB_n | exact CvB_d | refine CvE_app ?_ ?_ | refine CvE_cons rfl ?_ ?_ | refine CvH_cons ?_ ?_ | refine CvB_c rfl ?_ | fail) <;> first | exact au_v | (first | exact Cv.fptr ⟨rfl, by simp⟩ (cv_g (Cv.pure (encL_pure cU _))) | exact Cv.fptr ⟨rfl, by simp⟩ (CvL.cons (Cv.pure (encL_pure cR _)) CvL.nil) | exact Cv.fptr ⟨rfl, by simp⟩ (CvL.eq rfl (penC_pure0 _)) | exact CvL.eq rfl (pcC_pure _) | exact CvL.pure (pcC_pure _))) ?_
      refine VC.reg tab_ok [] rfl ?_
      refine VX.meek rfl ?_
      refine VX.store rfl rfl rfl rfl rfl au_sS rfl ?_
      refine VX.nil ?_
      refine VC.view ([(8, .ptr 0 0)]) ([.c (pcC { a.p with f := 5 })]) [1, 2, 5, 6, 7, 9, 10, 11, 12] rfl (by refine ⟨[some 0], rfl, by first | trivial | decide, rfl, ?_, ?_⟩ <;> (repeat' first | exact trivial | exact CvB_n | exact CvB_d | refine CvE_app ?_ ?_ | refine CvE_cons rfl ?_ ?_ | refine CvH_cons ?_ ?_ | refine CvB_c rfl ?_ | fail) <;> first | exact au_v | (first | exact Cv.fptr ⟨rfl, by simp⟩ (cv_g (Cv.pure (encL_pure cU _))) | exact Cv.fptr ⟨rfl, by simp⟩ (CvL.cons (Cv.pure (encL_pure cR _)) CvL.nil) | exact Cv.fptr ⟨rfl, by simp⟩ (CvL.eq rfl (penC_pure0 _)) | exact CvL.eq rfl (pcC_pure _) | exact CvL.pure (pcC_pure _))) ?_
      refine VC.drwS tab_ok [] [_, _, _, _, _, _, _, _, _, _, _, _, _, _, _, _, _, _, _, _, _] (_) rfl (by kernel_rfl) (by kernel_rfl) (by kernel_rfl) (seen_refl _) ?_
      refine VS.seg (l1 := [_, _, _, _, _, _, _, _, _, _, _, _, _, _, _, _, _, _]) rfl ?_
      first | refine VX.meek rfl ?_ | refine VX.loadI rfl rfl au_l ?_ | refine VX.loadP rfl rfl rfl au_l ?_
      first | refine VX.meek rfl ?_ | refine VX.loadI rfl rfl au_l ?_ | refine VX.loadP rfl rfl rfl au_l ?_
      first | refine VX.meek rfl ?_ | refine VX.loadI rfl rfl au_l ?_ | refine VX.loadP rfl rfl rfl au_l ?_
      refine VX.meek rfl ?_
      first | refine VX.meek rfl ?_ | refine VX.loadI rfl rfl au_l ?_ | refine VX.loadP rfl rfl rfl au_l ?_
      refine VX.callP0 rfl rfl rfl (sp) ?_
      refine VX.meek rfl ?_
      first | refine VX.meek rfl ?_ | refine VX.loadI rfl rfl au_l ?_ | refine VX.loadP rfl rfl rfl au_l ?_
      refine VX.meek (t := I64 a.x) (by show some (T.v (.int .i64 (IntKind.i64.wrap a.x)), (none : Option (Nat × List T))) = _; rw [wrap_in (by omega)]) ?_
      refine VX.meek rfl ?_
      first | refine VX.meek rfl ?_ | refine VX.loadI rfl rfl au_l ?_ | refine VX.loadP rfl rfl rfl au_l ?_
      refine VX.meek (t := I64 a.y) (by show some (T.v (.int .i64 (IntKind.i64.wrap a.y)), (none : Option (Nat × List T))) = _; rw [wrap_in (by omega)]) ?_
      first | refine VX.meek rfl ?_ | refine VX.loadI rfl rfl au_l ?_ | refine VX.loadP rfl rfl rfl au_l ?_
      refine VX.callP0 rfl rfl rfl (pencil_p { a.p with f := 5 } hpN (show a.p.c.length ≤ 1048576 by omega)) ?_
      refine VX.callP0 rfl rfl rfl (hW3) ?_
      iterate 3 refine VX.meek rfl ?_
      refine VX.nil ?_
      refine VS.hid rfl ?_
      refine VS.seg (l1 := [_]) rfl ?_
      refine VX.new rfl rfl ?_
      refine VX.nil ?_
      refine VS.sto rfl rfl rfl rfl ?_
      refine VS.nil (⟨rfl, Nat.le_of_ble_eq_true rfl, rfl, trivial⟩) ?_
      refine VX.store rfl rfl rfl rfl rfl au_sS rfl ?_
      refine VX.nil ?_
      refine VC.view ([(13, .iptr [I64 w, I64 h, .islc (encL cU px) px.length none] 0), (14, .iptr [.islc (encL cR (M)) (M).length none] 0), (8, .ptr 0 0)]) ([.c (pcC { a.p with f := 5 })]) [1, 2, 5, 6, 7, 9, 10, 11, 12] rfl (by refine ⟨[some 0], rfl, by first | trivial | decide, rfl, ?_, ?_⟩ <;> (repeat' first | exact trivial | exact CvB_n | exact CvB_d | refine CvE_app ?_ ?_ | refine CvE_cons rfl ?_ ?_ | refine CvH_cons ?_ ?_ | refine CvB_c rfl ?_ | fail) <;> first | exact au_v | (first | exact Cv.fptr ⟨rfl, by simp⟩ (cv_g (Cv.pure (encL_pure cU _))) | exact Cv.fptr ⟨rfl, by simp⟩ (CvL.cons (Cv.pure (encL_pure cR _)) CvL.nil) | exact Cv.fptr ⟨rfl, by simp⟩ (CvL.eq rfl (penC_pure0 _)) | exact CvL.eq rfl (pcC_pure _) | exact CvL.pure (pcC_pure _))) ?_
      refine VC.reg tab_ok [] rfl ?_
      refine VX.meek rfl ?_
      refine VX.store rfl rfl rfl rfl rfl au_sS rfl ?_
      refine VX.nil ?_
      refine VC.view ([(8, .ptr 0 0)]) ([.c (pcC { a.p with f := 3 })]) [1, 2, 5, 6, 7, 9, 10, 11, 12, 13, 14] rfl (by refine ⟨[some 0], rfl, by first | trivial | decide, rfl, ?_, ?_⟩ <;> (repeat' first | exact trivial | exact CvB_n | exact CvB_d | refine CvE_app ?_ ?_ | refine CvE_cons rfl ?_ ?_ | refine CvH_cons ?_ ?_ | refine CvB_c rfl ?_ | fail) <;> first | exact au_v | (first | exact Cv.fptr ⟨rfl, by simp⟩ (cv_g (Cv.pure (encL_pure cU _))) | exact Cv.fptr ⟨rfl, by simp⟩ (CvL.cons (Cv.pure (encL_pure cR _)) CvL.nil) | exact Cv.fptr ⟨rfl, by simp⟩ (CvL.eq rfl (penC_pure0 _)) | exact CvL.eq rfl (pcC_pure _) | exact CvL.pure (pcC_pure _))) ?_
      refine VC.drwS tab_ok [] [_, _, _, _, _, _, _, _, _, _, _, _, _, _, _, _, _, _, _, _, _] (_) rfl (by kernel_rfl) (by kernel_rfl) (by kernel_rfl) (seen_refl _) ?_
      refine VS.seg (l1 := [_, _, _, _, _, _, _, _, _, _, _, _, _, _, _, _, _, _]) rfl ?_
      first | refine VX.meek rfl ?_ | refine VX.loadI rfl rfl au_l ?_ | refine VX.loadP rfl rfl rfl au_l ?_
      first | refine VX.meek rfl ?_ | refine VX.loadI rfl rfl au_l ?_ | refine VX.loadP rfl rfl rfl au_l ?_
      first | refine VX.meek rfl ?_ | refine VX.loadI rfl rfl au_l ?_ | refine VX.loadP rfl rfl rfl au_l ?_
      refine VX.meek rfl ?_
      first | refine VX.meek rfl ?_ | refine VX.loadI rfl rfl au_l ?_ | refine VX.loadP rfl rfl rfl au_l ?_
      refine VX.callP0 rfl rfl rfl (sp) ?_
      refine VX.meek rfl ?_
      first | refine VX.meek rfl ?_ | refine VX.loadI rfl rfl au_l ?_ | refine VX.loadP rfl rfl rfl au_l ?_
      refine VX.meek (t := I64 a.x) (by show some (T.v (.int .i64 (IntKind.i64.wrap a.x)), (none : Option (Nat × List T))) = _; rw [wrap_in (by omega)]) ?_
      refine VX.meek rfl ?_
      first | refine VX.meek rfl ?_ | refine VX.loadI rfl rfl au_l ?_ | refine VX.loadP rfl rfl rfl au_l ?_
      refine VX.meek (t := I64 a.y) (by show some (T.v (.int .i64 (IntKind.i64.wrap a.y)), (none : Option (Nat × List T))) = _; rw [wrap_in (by omega)]) ?_
      first | refine VX.meek rfl ?_ | refine VX.loadI rfl rfl au_l ?_ | refine VX.loadP rfl rfl rfl au_l ?_
      refine VX.callP0 rfl rfl rfl (pencil_p { a.p with f := 3 } hpC (show a.p.c.length ≤ 1048576 by omega)) ?_
      refine VX.callP0 rfl rfl rfl (hW4) ?_
      iterate 3 refine VX.meek rfl ?_
      refine VX.nil ?_
      refine VS.hid rfl ?_
      refine VS.seg (l1 := [_]) rfl ?_
      refine VX.new rfl rfl ?_
      refine VX.nil ?_
      refine VS.sto rfl rfl rfl rfl ?_
      refine VS.nil (⟨rfl, Nat.le_of_ble_eq_true rfl, rfl, trivial⟩) ?_
      refine VX.store rfl rfl rfl rfl rfl au_sS rfl ?_
      refine VX.nil ?_
      refine VC.view ([(16, .iptr [.islc (encL cR (M)) (M).length none] 0)]) ([]) [1, 2, 5, 6, 7, 9, 10, 11, 12, 13, 14] rfl (by refine ⟨[], rfl, by first | trivial | decide, rfl, ?_, ?_⟩ <;> (repeat' first | exact trivial | exact CvB_n | exact CvB_d | refine CvE_app ?_ ?_ | refine CvE_cons rfl ?_ ?_ | refine CvH_cons ?_ ?_ | refine CvB_c rfl ?_ | fail) <;> first | exact au_v | (first | exact Cv.fptr ⟨rfl, by simp⟩ (cv_g (Cv.pure (encL_pure cU _))) | exact Cv.fptr ⟨rfl, by simp⟩ (CvL.cons (Cv.pure (encL_pure cR _)) CvL.nil) | exact Cv.fptr ⟨rfl, by simp⟩ (CvL.eq rfl (penC_pure0 _)) | exact CvL.eq rfl (pcC_pure _) | exact CvL.pure (pcC_pure _))) ?_
      refine VC.drwS tab_ok [] [_, _, _, _, _, _, _, _, _, _, _, _, _, _, _] (_) rfl (by kernel_rfl) (by kernel_rfl) (by kernel_rfl) (seen_refl _) ?_
      refine VS.seg (l1 := [_, _, _, _, _, _, _, _, _, _, _, _]) rfl ?_
      first | refine VX.meek rfl ?_ | refine VX.loadI rfl rfl au_l ?_ | refine VX.loadP rfl rfl rfl au_l ?_
      first | refine VX.meek rfl ?_ | refine VX.loadI rfl rfl au_l ?_ | refine VX.loadP rfl rfl rfl au_l ?_
      refine VX.meek rfl ?_
      refine VX.rem0 rfl rfl (by omega) ?_
      first | refine VX.add rfl rfl (by omega) ?_ | refine VX.meek rfl ?_
      refine VX.meek rfl ?_
      first | refine VX.meek rfl ?_ | refine VX.loadI rfl rfl au_l ?_ | refine VX.loadP rfl rfl rfl au_l ?_
      refine VX.callP0 rfl rfl rfl (pencil_p a.p hp (by omega)) ?_
      refine VX.callP0 rfl rfl rfl (hS1) ?_
      iterate 3 refine VX.meek rfl ?_
      refine VX.nil ?_
      refine VS.hid rfl ?_
      refine VS.seg (l1 := [_]) rfl ?_
      refine VX.new rfl rfl ?_
      refine VX.nil ?_
      refine VS.sto rfl rfl rfl rfl ?_
      refine VS.nil (⟨rfl, Nat.le_of_ble_eq_true rfl, rfl, trivial⟩) ?_
      refine VX.store rfl rfl rfl rfl rfl au_sS rfl ?_
      refine VX.nil ?_
      refine VC.view ([(17, .iptr [I64 w, I64 h, .islc (encL cU px) px.length none] 0), (18, .iptr [.islc (encL cR (SA)) (SA).length none] 0)]) ([]) [2, 5, 6, 7, 9, 10, 11, 12, 13, 14, 16] rfl (by refine ⟨[], rfl, by first | trivial | decide, rfl, ?_, ?_⟩ <;> (repeat' first | exact trivial | exact CvB_n | exact CvB_d | refine CvE_app ?_ ?_ | refine CvE_cons rfl ?_ ?_ | refine CvH_cons ?_ ?_ | refine CvB_c rfl ?_ | fail) <;> first | exact au_v | (first | exact Cv.fptr ⟨rfl, by simp⟩ (cv_g (Cv.pure (encL_pure cU _))) | exact Cv.fptr ⟨rfl, by simp⟩ (CvL.cons (Cv.pure (encL_pure cR _)) CvL.nil) | exact Cv.fptr ⟨rfl, by simp⟩ (CvL.eq rfl (penC_pure0 _)) | exact CvL.eq rfl (pcC_pure _) | exact CvL.pure (pcC_pure _))) ?_
      refine VC.reg tab_ok [] rfl ?_
      refine VX.callP0 rfl rfl rfl (newPen_p) ?_
      refine VX.new rfl rfl ?_
      refine VX.store rfl rfl rfl rfl rfl au_sS rfl ?_
      refine VX.nil ?_
      refine VC.reg tab_ok [] rfl ?_
      refine VX.meek rfl ?_
      refine VX.store rfl rfl rfl rfl rfl au_sS rfl ?_
      refine VX.nil ?_
      refine VC.view ([(19, .iptr (penC { pen0 with f := 16 }) 0)]) ([]) [2, 5, 6, 7, 9, 10, 11, 12, 13, 14, 16, 17, 18] rfl (by refine ⟨[], rfl, by first | trivial | decide, rfl, ?_, ?_⟩ <;> (repeat' first | exact trivial | exact CvB_n | exact CvB_d | refine CvE_app ?_ ?_ | refine CvE_cons rfl ?_ ?_ | refine CvH_cons ?_ ?_ | refine CvB_c rfl ?_ | fail) <;> first | exact au_v | (first | exact Cv.fptr ⟨rfl, by simp⟩ (cv_g (Cv.pure (encL_pure cU _))) | exact Cv.fptr ⟨rfl, by simp⟩ (CvL.cons (Cv.pure (encL_pure cR _)) CvL.nil) | exact Cv.fptr ⟨rfl, by simp⟩ (CvL.eq rfl (penC_pure0 _)) | exact CvL.eq rfl (pcC_pure _) | exact CvL.pure (pcC_pure _))) ?_
      refine VC.drwS tab_ok [] [_, _, _, _, _, _, _, _, _, _, _, _, _, _, _, _, _, _, _, _] (_) rfl (by kernel_rfl) (by kernel_rfl) (by kernel_rfl) (seen_refl _) ?_
      refine VS.seg (l1 := [_, _, _, _, _, _, _, _, _, _, _, _, _, _, _, _, _]) rfl ?_
      first | refine VX.meek rfl ?_ | refine VX.loadI rfl rfl au_l ?_ | refine VX.loadP rfl rfl rfl au_l ?_
      first | refine VX.meek rfl ?_ | refine VX.loadI rfl rfl au_l ?_ | refine VX.loadP rfl rfl rfl au_l ?_
      first | refine VX.meek rfl ?_ | refine VX.loadI rfl rfl au_l ?_ | refine VX.loadP rfl rfl rfl au_l ?_
      refine VX.meek rfl ?_
      first | refine VX.meek rfl ?_ | refine VX.loadI rfl rfl au_l ?_ | refine VX.loadP rfl rfl rfl au_l ?_
      refine VX.callP0 rfl rfl rfl (sp) ?_
      refine VX.meek rfl ?_
      first | refine VX.meek rfl ?_ | refine VX.loadI rfl rfl au_l ?_ | refine VX.loadP rfl rfl rfl au_l ?_
      refine VX.meek (t := I64 a.x) (by show some (T.v (.int .i64 (IntKind.i64.wrap a.x)), (none : Option (Nat × List T))) = _; rw [wrap_in (by omega)]) ?_
      refine VX.meek rfl ?_
      first | refine VX.meek rfl ?_ | refine VX.loadI rfl rfl au_l ?_ | refine VX.loadP rfl rfl rfl au_l ?_
      refine VX.meek (t := I64 a.y) (by show some (T.v (.int .i64 (IntKind.i64.wrap a.y)), (none : Option (Nat × List T))) = _; rw [wrap_in (by omega)]) ?_
      first | refine VX.meek rfl ?_ | refine VX.loadI rfl rfl au_l ?_ | refine VX.loadP rfl rfl rfl au_l ?_
      refine VX.callP0 rfl rfl rfl (hW5) ?_
      iterate 3 refine VX.meek rfl ?_
      refine VX.nil ?_
      refine VS.hid rfl ?_
      refine VS.seg (l1 := [_]) rfl ?_
      refine VX.new rfl rfl ?_
      refine VX.nil ?_
      refine VS.sto rfl rfl rfl rfl ?_
      refine VS.nil (⟨rfl, Nat.le_of_ble_eq_true rfl, rfl, trivial⟩) ?_
      refine VX.store rfl rfl rfl rfl rfl au_sS rfl ?_
      refine VX.nil ?_
      refine VC.view ([(20, .iptr [I64 w, I64 h, .islc (encL cU px) px.length none] 0), (21, .iptr [.islc (encL cR (([] : List Rect))) (([] : List Rect)).length none] 0)]) ([]) [5, 7, 9, 10, 11, 12, 13, 14, 16, 17, 18, 19] rfl (by refine ⟨[], rfl, by first | trivial | decide, rfl, ?_, ?_⟩ <;> (repeat' first | exact trivial | exact CvB_n | exact CvB_d | refine CvE_app ?_ ?_ | refine CvE_cons rfl ?_ ?_ | refine CvH_cons ?_ ?_ | refine CvB_c rfl ?_ | fail) <;> first | exact au_v | (first | exact Cv.fptr ⟨rfl, by simp⟩ (cv_g (Cv.pure (encL_pure cU _))) | exact Cv.fptr ⟨rfl, by simp⟩ (CvL.cons (Cv.pure (encL_pure cR _)) CvL.nil) | exact Cv.fptr ⟨rfl, by simp⟩ (CvL.eq rfl (penC_pure0 _)) | exact CvL.eq rfl (pcC_pure _) | exact CvL.pure (pcC_pure _))) ?_
      refine VC.reg tab_ok [] rfl ?_
      first | refine VX.meek rfl ?_ | refine VX.loadI rfl rfl au_l ?_ | refine VX.loadP rfl rfl rfl au_l ?_
      first | refine VX.meek rfl ?_ | refine VX.loadI rfl rfl au_l ?_ | refine VX.loadP rfl rfl rfl au_l ?_
      first | refine VX.meek rfl ?_ | refine VX.loadI rfl rfl au_l ?_ | refine VX.loadP rfl rfl rfl au_l ?_
      refine VX.callP0 rfl rfl rfl (hS2) ?_
      iterate 3 refine VX.meek rfl ?_
      refine VX.new rfl rfl ?_
      refine VX.new rfl rfl ?_
      refine VX.store rfl rfl rfl rfl rfl au_sS rfl ?_
      refine VX.store rfl rfl rfl rfl rfl au_sS rfl ?_
      refine VX.nil ?_
      refine VC.view ([(22, .iptr [I64 w, I64 h, .islc (encL cU px) px.length none] 0), (23, .iptr [.islc (encL cR (([] : List Rect))) (([] : List Rect)).length none] 0)]) ([]) [5, 7, 9, 10, 11, 12, 13, 14, 16, 17, 18, 20, 21] rfl (by refine ⟨[], rfl, by first | trivial | decide, rfl, ?_, ?_⟩ <;> (repeat' first | exact trivial | exact CvB_n | exact CvB_d | refine CvE_app ?_ ?_ | refine CvE_cons rfl ?_ ?_ | refine CvH_cons ?_ ?_ | refine CvB_c rfl ?_ | fail) <;> first | exact au_v | (first | exact Cv.fptr ⟨rfl, by simp⟩ (cv_g (Cv.pure (encL_pure cU _))) | exact Cv.fptr ⟨rfl, by simp⟩ (CvL.cons (Cv.pure (encL_pure cR _)) CvL.nil) | exact Cv.fptr ⟨rfl, by simp⟩ (CvL.eq rfl (penC_pure0 _)) | exact CvL.eq rfl (pcC_pure _) | exact CvL.pure (pcC_pure _))) ?_
      refine VC.seq ?_
      refine VC.reg tab_ok [] rfl ?_
      first | refine VX.meek rfl ?_ | refine VX.loadI rfl rfl au_l ?_ | refine VX.loadP rfl rfl rfl au_l ?_
      first | refine VX.meek rfl ?_ | refine VX.loadI rfl rfl au_l ?_ | refine VX.loadP rfl rfl rfl au_l ?_
      refine VX.callP0 rfl rfl rfl (gsame_r w h px px (by omega) (by omega) dl dl db db rfl) ?_
      iterate 2 refine VX.meek rfl ?_
      refine' VX.merge (d := 153) [_, _, _, _] rfl ?_ rfl ?_
      rotate_left
      · refine VX.guard rfl rfl (fun hb17_4 => ?_) (fun hb17_4 => ?_)
        · have ghb17_4 := hb17_4
          try simp only [au_std, Bool.not_true, Bool.not_false] at ghb17_4
          first | refine VX.meek rfl ?_ | refine VX.loadI rfl rfl au_l ?_ | refine VX.loadP rfl rfl rfl au_l ?_
          refine VX.guardT rfl rfl hb17_4 ?_
          refine VX.callP0 rfl rfl rfl ((show CallP Tryz.prog 59 [regT []] (BL true) from empty_p [])) ?_
          refine VX.guardT rfl rfl hb17_4 ?_
          refine VX.meek rfl ?_
          refine VX.pickO rfl (fun _ => rfl) ?_
          exact VX.nil ⟨rfl, rfl⟩
        · refine VX.guardF rfl rfl hb17_4 ?_
          refine VX.guardF rfl rfl hb17_4 ?_
          exact VX.pickO rfl (fun h => absurd (h.symm.trans hb17_4) (by decide)) (VX.nil ⟨rfl, rfl⟩)
      refine VX.meek rfl ?_
      refine' VX.merge (d := 159) [_, _, _, _, _] rfl ?_ rfl ?_
      rotate_left
      · refine VX.guard rfl rfl (fun hb17_9 => ?_) (fun hb17_9 => ?_)
        · have ghb17_9 := hb17_9
          try simp only [au_std, Bool.not_true, Bool.not_false] at ghb17_9
          first | refine VX.meek rfl ?_ | refine VX.loadI rfl rfl au_l ?_ | refine VX.loadP rfl rfl rfl au_l ?_
          refine VX.guardT rfl rfl hb17_9 ?_
          first | refine VX.meek rfl ?_ | refine VX.loadI rfl rfl au_l ?_ | refine VX.loadP rfl rfl rfl au_l ?_
          refine VX.guardT rfl rfl hb17_9 ?_
          refine VX.callP0 rfl rfl rfl (gsame_r w h px px (by omega) (by omega) dl dl db db rfl) ?_
          refine VX.guardT rfl rfl hb17_9 ?_
          refine VX.meek rfl ?_
          refine VX.pickO rfl (fun _ => rfl) ?_
          exact VX.nil ⟨rfl, rfl⟩
        · refine VX.guardF rfl rfl hb17_9 ?_
          refine VX.guardF rfl rfl hb17_9 ?_
          refine VX.guardF rfl rfl hb17_9 ?_
          exact VX.pickO rfl (fun h => absurd (h.symm.trans hb17_9) (by decide)) (VX.nil ⟨rfl, rfl⟩)
      refine VX.meek rfl ?_
      refine' VX.merge (d := 164) [_, _, _, _] rfl ?_ rfl ?_
      rotate_left
      · refine VX.guard rfl rfl (fun hb17_15 => ?_) (fun hb17_15 => ?_)
        · have ghb17_15 := hb17_15
          try simp only [au_std, Bool.not_true, Bool.not_false] at ghb17_15
          first | refine VX.meek rfl ?_ | refine VX.loadI rfl rfl au_l ?_ | refine VX.loadP rfl rfl rfl au_l ?_
          refine VX.guardT rfl rfl hb17_15 ?_
          refine VX.callP0 rfl rfl rfl ((show CallP Tryz.prog 59 [regT []] (BL true) from empty_p [])) ?_
          refine VX.guardT rfl rfl hb17_15 ?_
          refine VX.meek rfl ?_
          refine VX.pickO rfl (fun _ => rfl) ?_
          exact VX.nil ⟨rfl, rfl⟩
        · refine VX.guardF rfl rfl hb17_15 ?_
          refine VX.guardF rfl rfl hb17_15 ?_
          exact VX.pickO rfl (fun h => absurd (h.symm.trans hb17_15) (by decide)) (VX.nil ⟨rfl, rfl⟩)
      refine VX.nil ?_
      refine VC.cond rfl (fun hc1 => ?_) (fun hc1 => ?_)
      · exact absurd hc1 (by simp)
      · (try simp only [au_std] at hc1)
        refine VC.skip ?_
        refine VC.reg tab_ok [] rfl ?_
        first | refine VX.meek rfl ?_ | refine VX.loadI rfl rfl au_l ?_ | refine VX.loadP rfl rfl rfl au_l ?_
        first | refine VX.meek rfl ?_ | refine VX.loadI rfl rfl au_l ?_ | refine VX.loadP rfl rfl rfl au_l ?_
        refine VX.callP0 rfl rfl rfl (gsame_r w h px px (by omega) (by omega) dl dl db db rfl) ?_
        refine VX.meek rfl ?_
        refine' VX.merge (d := 171) [_, _, _] rfl ?_ rfl ?_
        rotate_left
        · refine VX.guard rfl rfl (fun hb19_3 => ?_) (fun hb19_3 => ?_)
          · have ghb19_3 := hb19_3
            try simp only [au_std, Bool.not_true, Bool.not_false] at ghb19_3
            first | refine VX.meek rfl ?_ | refine VX.loadI rfl rfl au_l ?_ | refine VX.loadP rfl rfl rfl au_l ?_
            refine VX.guardT rfl rfl hb19_3 ?_
            refine VX.callP0 rfl rfl rfl ((show CallP Tryz.prog 59 [regT []] (BL true) from empty_p [])) ?_
            refine VX.pickA rfl (fun _ => rfl) ?_
            exact VX.nil ⟨rfl, rfl⟩
          · refine VX.guardF rfl rfl hb19_3 ?_
            exact VX.pickA rfl (fun h => absurd (h.symm.trans hb19_3) (by decide)) (VX.nil ⟨rfl, rfl⟩)
        refine VX.meek rfl ?_
        refine' VX.merge (d := 176) [_, _, _, _] rfl ?_ rfl ?_
        rotate_left
        · refine VX.guard rfl rfl (fun hb19_7 => ?_) (fun hb19_7 => ?_)
          · have ghb19_7 := hb19_7
            try simp only [au_std, Bool.not_true, Bool.not_false] at ghb19_7
            first | refine VX.meek rfl ?_ | refine VX.loadI rfl rfl au_l ?_ | refine VX.loadP rfl rfl rfl au_l ?_
            refine VX.guardT rfl rfl hb19_7 ?_
            first | refine VX.meek rfl ?_ | refine VX.loadI rfl rfl au_l ?_ | refine VX.loadP rfl rfl rfl au_l ?_
            refine VX.guardT rfl rfl hb19_7 ?_
            refine VX.callP0 rfl rfl rfl (gsame_r w h px px (by omega) (by omega) dl dl db db rfl) ?_
            refine VX.pickA rfl (fun _ => rfl) ?_
            exact VX.nil ⟨rfl, rfl⟩
          · refine VX.guardF rfl rfl hb19_7 ?_
            refine VX.guardF rfl rfl hb19_7 ?_
            exact VX.pickA rfl (fun h => absurd (h.symm.trans hb19_7) (by decide)) (VX.nil ⟨rfl, rfl⟩)
        refine VX.meek rfl ?_
        refine' VX.merge (d := 180) [_, _, _] rfl ?_ rfl ?_
        rotate_left
        · refine VX.guard rfl rfl (fun hb19_12 => ?_) (fun hb19_12 => ?_)
          · have ghb19_12 := hb19_12
            try simp only [au_std, Bool.not_true, Bool.not_false] at ghb19_12
            first | refine VX.meek rfl ?_ | refine VX.loadI rfl rfl au_l ?_ | refine VX.loadP rfl rfl rfl au_l ?_
            refine VX.guardT rfl rfl hb19_12 ?_
            refine VX.callP0 rfl rfl rfl ((show CallP Tryz.prog 59 [regT []] (BL true) from empty_p [])) ?_
            refine VX.pickA rfl (fun _ => rfl) ?_
            exact VX.nil ⟨rfl, rfl⟩
          · refine VX.guardF rfl rfl hb19_12 ?_
            exact VX.pickA rfl (fun h => absurd (h.symm.trans hb19_12) (by decide)) (VX.nil ⟨rfl, rfl⟩)
        refine VX.meek rfl ?_
        refine' VX.merge (d := 185) [_, _, _, _] rfl ?_ rfl ?_
        rotate_left
        · refine VX.guard rfl rfl (fun hb19_16 => ?_) (fun hb19_16 => ?_)
          · have ghb19_16 := hb19_16
            try simp only [au_std, Bool.not_true, Bool.not_false] at ghb19_16
            first | refine VX.meek rfl ?_ | refine VX.loadI rfl rfl au_l ?_ | refine VX.loadP rfl rfl rfl au_l ?_
            refine VX.guardT rfl rfl hb19_16 ?_
            first | refine VX.meek rfl ?_ | refine VX.loadI rfl rfl au_l ?_ | refine VX.loadP rfl rfl rfl au_l ?_
            refine VX.guardT rfl rfl hb19_16 ?_
            refine VX.callP0 rfl rfl rfl (gsame_r w h px px (by omega) (by omega) dl dl db db rfl) ?_
            refine VX.pickA rfl (fun _ => rfl) ?_
            exact VX.nil ⟨rfl, rfl⟩
          · refine VX.guardF rfl rfl hb19_16 ?_
            refine VX.guardF rfl rfl hb19_16 ?_
            exact VX.pickA rfl (fun h => absurd (h.symm.trans hb19_16) (by decide)) (VX.nil ⟨rfl, rfl⟩)
        refine VX.meek rfl ?_
        refine' VX.merge (d := 190) [_, _, _, _] rfl ?_ rfl ?_
        rotate_left
        · refine VX.guard rfl rfl (fun hb19_21 => ?_) (fun hb19_21 => ?_)
          · have ghb19_21 := hb19_21
            try simp only [au_std, Bool.not_true, Bool.not_false] at ghb19_21
            first | refine VX.meek rfl ?_ | refine VX.loadI rfl rfl au_l ?_ | refine VX.loadP rfl rfl rfl au_l ?_
            refine VX.guardT rfl rfl hb19_21 ?_
            first | refine VX.meek rfl ?_ | refine VX.loadI rfl rfl au_l ?_ | refine VX.loadP rfl rfl rfl au_l ?_
            refine VX.guardT rfl rfl hb19_21 ?_
            refine VX.callP0 rfl rfl rfl (hsm2) ?_
            refine VX.pickA rfl (fun _ => rfl) ?_
            exact VX.nil ⟨rfl, rfl⟩
          · refine VX.guardF rfl rfl hb19_21 ?_
            refine VX.guardF rfl rfl hb19_21 ?_
            exact VX.pickA rfl (fun h => absurd (h.symm.trans hb19_21) (by decide)) (VX.nil ⟨rfl, rfl⟩)
        refine VX.meek rfl ?_
        refine' VX.merge (d := 195) [_, _, _, _] rfl ?_ rfl ?_
        rotate_left
        · refine VX.guard rfl rfl (fun hb19_26 => ?_) (fun hb19_26 => ?_)
          · have ghb19_26 := hb19_26
            try simp only [au_std, Bool.not_true, Bool.not_false] at ghb19_26
            first | refine VX.meek rfl ?_ | refine VX.loadI rfl rfl au_l ?_ | refine VX.loadP rfl rfl rfl au_l ?_
            refine VX.guardT rfl rfl hb19_26 ?_
            first | refine VX.meek rfl ?_ | refine VX.loadI rfl rfl au_l ?_ | refine VX.loadP rfl rfl rfl au_l ?_
            refine VX.guardT rfl rfl hb19_26 ?_
            refine VX.callP0 rfl rfl rfl (gsame_r w h px px (by omega) (by omega) dl dl db db rfl) ?_
            refine VX.pickA rfl (fun _ => rfl) ?_
            exact VX.nil ⟨rfl, rfl⟩
          · refine VX.guardF rfl rfl hb19_26 ?_
            refine VX.guardF rfl rfl hb19_26 ?_
            exact VX.pickA rfl (fun h => absurd (h.symm.trans hb19_26) (by decide)) (VX.nil ⟨rfl, rfl⟩)
        refine VX.meek rfl ?_
        refine' VX.merge (d := 200) [_, _, _, _] rfl ?_ rfl ?_
        rotate_left
        · refine VX.guard rfl rfl (fun hb19_31 => ?_) (fun hb19_31 => ?_)
          · have ghb19_31 := hb19_31
            try simp only [au_std, Bool.not_true, Bool.not_false] at ghb19_31
            first | refine VX.meek rfl ?_ | refine VX.loadI rfl rfl au_l ?_ | refine VX.loadP rfl rfl rfl au_l ?_
            refine VX.guardT rfl rfl hb19_31 ?_
            first | refine VX.meek rfl ?_ | refine VX.loadI rfl rfl au_l ?_ | refine VX.loadP rfl rfl rfl au_l ?_
            refine VX.guardT rfl rfl hb19_31 ?_
            refine VX.callP0 rfl rfl rfl (hIn) ?_
            refine VX.pickA rfl (fun _ => rfl) ?_
            exact VX.nil ⟨rfl, rfl⟩
          · refine VX.guardF rfl rfl hb19_31 ?_
            refine VX.guardF rfl rfl hb19_31 ?_
            exact VX.pickA rfl (fun h => absurd (h.symm.trans hb19_31) (by decide)) (VX.nil ⟨rfl, rfl⟩)
        refine VX.meek rfl ?_
        refine' VX.merge (d := 203) [_, _] rfl ?_ rfl ?_
        rotate_left
        · refine VX.guard rfl rfl (fun hb19_36 => ?_) (fun hb19_36 => ?_)
          · have ghb19_36 := hb19_36
            try simp only [au_std, Bool.not_true, Bool.not_false] at ghb19_36
            refine VX.callP0 rfl rfl rfl (awake24_p) ?_
            refine VX.pickA rfl (fun _ => rfl) ?_
            exact VX.nil ⟨rfl, rfl⟩
          · exact VX.pickA rfl (fun h => absurd (h.symm.trans hb19_36) (by decide)) (VX.nil ⟨rfl, rfl⟩)
        refine VX.meek rfl ?_
        refine VX.nil ?_
        refine VC.ret ?_
        exact ⟨trivial, _, rfl, Cv.eq (by first | rfl | (simp [*]; done)) rfl⟩
end
section
open Go.ChangeShapes Go.WideShapes Go.ChangeAt Go.RowKit Go.WideElems
def rowed (P : Program) (ts : List TypeId) : Bool := ts.all fun t => P.readableRec t && decide (t < P.types.size)
theorem trodAll_below {H : Type} {enc : TypeId × Value → H} {P : Program} (hl : laidOutB P = true) {W W' : World} (hb : Below W.heap.size W W') :
    ∀ {ts : List TypeId} {vs : List Value} {ds : List (DataW H)} {p : List MemPlace}, rowed P ts = true → (∀ x ∈ p, x.block < W.heap.size) →
      DataW.TrodAll enc P W 0 (fun _ => true) true ts vs ds p → DataW.TrodAll enc P W' 0 (fun b => decide (b < W.heap.size)) true ts vs ds p
  | [], _, _, _, _, _, h => by
    obtain ⟨rfl, rfl, rfl⟩ := trodAll_nil h
    exact trodAll_mk0
  | t :: ts, _, _, _, hr, hlt, h => by
    obtain ⟨v, vs1, d, ds1, a, b, rfl, rfl, rfl, h1, h2⟩ := trodAll_cons h
    simp only [rowed, List.all_cons, Bool.and_eq_true, decide_eq_true_eq] at hr
    refine trodAll_cons_mk (Below.trod hl hr.1.1 hr.1.2 h1 hb (fun x hx => hlt x (by simp [hx]))) ?_
    exact trodAll_below hl hb (by simpa [rowed] using hr.2) (fun x hx => hlt x (by simp [hx])) h2
theorem post_law {H : Type} {enc : TypeId × Value → H} {P : Program} {f : Func} {s : ChangeSpec} {W W' : World} {args : Array Value} {ds gs : List (DataW H)} {before : List MemPlace} {tb : TypeId}
    (hl : laidOutB P = true) (hps : rowed P f.params.toList = true) (hvs : varsRowed P s.vars = true) (hres : f.resultTypes = #[tb]) (htb : P.underlying tb = some .bool)
    (hW : DataW.Whole enc P f.params.toList s.vars false W args.toList ds gs before)
    (h1 : (s.fn H (ds ++ gs)).results = [.lit (.bool true)]) (h2 : (s.fn H (ds ++ gs)).args = ds) (h3 : (s.fn H (ds ++ gs)).vars = gs)
    (hb : Below W.heap.size W W') : s.post enc P f false true false false W args (.bool true) W' := by
  have hlt := hW.lt
  have hW' := hW
  obtain ⟨p, q, hA, hV, rfl, hfz, hnd⟩ := hW
  refine ⟨ds, gs, p ++ q, [], p, q, hW', ?_, ?_, ?_, hb.frame _, fun h => by cases h⟩
  · rw [h1, hres]
    exact trodAll_cons_mk (shut_bool htb true) trodAll_mk0
  · rw [h2]
    exact trodAll_below hl hb hps (fun x hx => hlt x (by simp [hx])) hA
  · rw [h3]
    exact Below.trodVars hl hb hvs hV
end
end Go.Proofs.YtelhkfdpkjkpjaaGreat
