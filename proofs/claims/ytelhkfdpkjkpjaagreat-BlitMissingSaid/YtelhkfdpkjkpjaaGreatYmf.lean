/-
  The proof's lemmas, part 6.
-/
import Derived.Test.YtelhkfdpkjkpjaaGreatYme
import Derived.OpenVars
import Derived.Carry
namespace Go.Proofs.YtelhkfdpkjkpjaaGreat
set_option linter.unusedSimpArgs false
set_option linter.unusedVariables false
section
open Go.RowKit Go.Sort
set_option maxRecDepth 10000
set_option maxHeartbeats 1000000
def pen0 : PenS := ⟨3, 255, 0, 1, 0, 0, 0, false, []⟩
theorem pen0_ok : PenOk pen0 := ⟨by decide, by decide, by decide, .inr rfl, by simp [pen0], by simp [pen0]⟩
theorem row24_p : CallP Tryz.prog 96 [.islc (encL cU [1, 2, 3, 4]) 4 none] (gT 4 1 [1, 2, 3, 4]) := by
  have hmk : CallP Tryz.prog 36 [.agg [U8 3, U8 0, .islc (encL cU [1, 2, 3, 4]) 4 none]] (gT 4 1 [1, 2, 3, 4]) := by
    have := make17_p 3 0 [1, 2, 3, 4] (by omega) (by omega) (by simp) (by intro v hv; simp at hv; omega)
    rw [show padL [1, 2, 3, 4] ((3 % 16 + 1) * (0 % 16 + 1)) = [1, 2, 3, 4] from by decide] at this
    exact this
  refine CallP.intro2 au_pu au_pu ?_
  refine CallT.intro tab_ok Tryz.func96 rfl (by kernel_rfl) (Nat.le_of_ble_eq_true rfl) ?_
  refine VC.reg tab_ok [] rfl ?_
  refine VX.new rfl rfl ?_
  refine VX.nil ?_
  refine VC.reg tab_ok [] rfl ?_
  iterate 2 refine VX.meek rfl ?_
  first | refine VX.sub rfl rfl (by omega) ?_ | refine VX.meek rfl ?_
  refine VX.meek (t := U8 3) rfl ?_
  iterate 2 refine VX.meek rfl ?_
  refine VX.callP0 rfl rfl rfl (hmk) ?_
  refine VX.store rfl rfl rfl rfl rfl au_sS rfl ?_
  refine VX.nil ?_
  refine VC.ret ?_
  exact ⟨trivial, _, rfl, Cv.agg (cv_g (Cv.pure rfl))⟩
theorem plane41 (a b : Int) : inL (bandOf [⟨0, 0, 4, 1⟩]) a b ↔ 0 ≤ a ∧ a < 4 ∧ 0 ≤ b ∧ b < 1 := in_plane0 (w := 4) (h := 1) (by omega) (by omega) a b
theorem ex_px : areaPx (bandOf [⟨0, 0, 4, 1⟩]) (bandOf [⟨0, 0, 4, 1⟩]) ⟨0, 0, 3, 1⟩ 1 0 4 1 4 1 pen0 [1, 2, 3, 4] [1, 2, 3, 4] = [1, 1, 2, 3] := by
  unfold areaPx
  rw [if_neg (by decide), paintL_dec (D := fun x y => decide (1 ≤ x) && decide (x < 4) && decide (0 ≤ y) && decide (y < 1)) (fun x y => by
    rw [areaV_in (Reg.of _) (Reg.of _), want_in (Reg.of _) _ (by omega) (by omega), there_in (Reg.of _) _ (by omega) (by omega), plane41, plane41, one_in, one_in]
    simp only [show countsB (toR ⟨0, 0, 3, 1⟩ 1 0) = true from by decide, show countsB ⟨0, 0, 3, 1⟩ = true from by decide, Bool.and_eq_true, decide_eq_true_eq, true_and]
    unfold Rect.has toR inQ
    dsimp only
    omega)]
  decide +kernel
theorem nil_of {l : List Rect} (hc : Canon l) (h : ∀ x y, ¬ inL l x y) : l = [] := canon_uniq hc canon_nil fun x y => ⟨fun k => absurd k (h x y), fun k => absurd k inL_nil⟩
theorem ex_m : areaM (bandOf [⟨0, 0, 4, 1⟩]) (bandOf [⟨0, 0, 4, 1⟩]) ⟨0, 0, 3, 1⟩ 1 0 4 1 4 1 = [] := by
  refine nil_of (areaM_reg (Reg.of _) (Reg.of _) _ _ _ _ _ _ _).canon fun x y k => ?_
  rw [areaM_in (Reg.of _) (Reg.of _), want_in (Reg.of _) _ (by omega) (by omega), there_in (Reg.of _) _ (by omega) (by omega), plane41, plane41, one_in, one_in] at k
  simp only [show countsB (toR ⟨0, 0, 3, 1⟩ 1 0) = true from by decide, show countsB ⟨0, 0, 3, 1⟩ = true from by decide, true_and] at k
  unfold Rect.has toR inQ at k
  dsimp only at k
  omega
theorem scrA_reg {m : Nat} {clip : List Rect} (hc : Reg m clip) (w h : Nat) : Reg (m + 2) (scrA clip w h) := opL_reg (k := and) rfl hc (Reg.of [⟨0, 0, (w : Int), (h : Int)⟩])
theorem scrT_in {m : Nat} {clip : List Rect} (hc : Reg m clip) {w h : Nat} (hw : w ≤ 128) (hh : h ≤ 128) (dx dy x y : Int) : inL (scrT clip w h dx dy) x y ↔ (inL clip (x - dx) (y - dy) ∧ 0 ≤ x - dx ∧ x - dx < w ∧ 0 ≤ y - dy ∧ y - dy < h) ∧ inQ x y := by
  unfold scrT
  rw [shift_in (scrA_reg hc w h).ok, scrA_in hc hw hh]
theorem scrT_reg {m : Nat} {clip : List Rect} (hc : Reg m clip) (w h : Nat) (dx dy : Int) : Reg (m + 2 + 2) (scrT clip w h dx dy) := (scrA_reg hc w h).shift dx dy
theorem scrV_in {m : Nat} {clip : List Rect} (hc : Reg m clip) (w h : Nat) (dx dy x y : Int) : inL (scrV clip w h dx dy) x y ↔ inL (scrA clip w h) x y ∧ inL (scrT clip w h dx dy) x y := opL_and (scrA_reg hc w h) (scrT_reg hc w h dx dy)
open Classical in
theorem scrM_in {m : Nat} {clip : List Rect} (hc : Reg m clip) (w h : Nat) (dx dy x y : Int) : inL (scrM clip w h dx dy) x y ↔ inL (scrA clip w h) x y ∧ (scrFar w h dx dy ∨ ¬ inL (scrT clip w h dx dy) x y) := by
  unfold scrM
  split
  · rename_i hf; exact ⟨fun k => ⟨k, .inl hf⟩, fun k => k.1⟩
  · rename_i hf
    rw [opL_sub (scrA_reg hc w h) (scrT_reg hc w h dx dy)]
    exact ⟨fun k => ⟨k.1, .inr k.2⟩, fun k => ⟨k.1, k.2.resolve_left hf⟩⟩
open Classical in
theorem scrM_reg {m : Nat} {clip : List Rect} (hc : Reg m clip) (w h : Nat) (dx dy : Int) : Reg (m + m + 10) (scrM clip w h dx dy) := by
  unfold scrM
  split
  · exact (scrA_reg hc w h).mono (by omega)
  · exact (opL_reg (k := subB) rfl (scrA_reg hc w h) (scrT_reg hc w h dx dy)).mono (by omega)
theorem ex_far : ¬ scrFar 4 1 1 0 := by unfold scrFar; simp
theorem ex_spx : scrPx (bandOf [⟨0, 0, 4, 1⟩]) 4 1 1 0 pen0 [1, 2, 3, 4] = [1, 1, 2, 3] := by
  unfold scrPx
  rw [if_neg ex_far, paintL_dec (D := fun x y => decide (1 ≤ x) && decide (x < 4) && decide (0 ≤ y) && decide (y < 1)) (fun x y => by
    rw [scrV_in (Reg.of _), scrA_in (Reg.of _) (by omega) (by omega), scrT_in (Reg.of _) (by omega) (by omega), plane41, plane41]
    unfold inQ
    simp only [Bool.and_eq_true, decide_eq_true_eq]
    omega)]
  decide +kernel
theorem ex_sm (x y : Int) : inL (scrM (bandOf [⟨0, 0, 4, 1⟩]) 4 1 1 0) x y ↔ x = 0 ∧ y = 0 := by
  rw [scrM_in (Reg.of _), scrA_in (Reg.of _) (by omega) (by omega), scrT_in (Reg.of _) (by omega) (by omega), plane41, plane41]
  have := ex_far
  unfold inQ
  constructor
  · rintro ⟨a, b | b⟩
    · exact absurd b this
    · omega
  · intro k; exact ⟨by omega, .inr (by omega)⟩
theorem awake24_p : CallP Tryz.prog 34 [] (BL true) := by
  have hb4 : ∀ v ∈ [(1 : Int), 2, 3, 4], 0 ≤ v ∧ v < 256 := by intro v hv; simp at hv; omega
  have hr : rI ⟨0, 0, 3, 1⟩ := ⟨by unfold i64; dsimp only; omega, by unfold i64; dsimp only; omega, by unfold i64; dsimp only; omega, by unfold i64; dsimp only; omega⟩
  have hwi : CallP Tryz.prog 42 [gT 4 1 [1, 2, 3, 4], regT (bandOf [⟨0, 0, 4, 1⟩]), regT (bandOf [⟨0, 0, 4, 1⟩]), rectT ⟨0, 0, 3, 1⟩, I64 1, I64 0, penT pen0] (.tup [gT 4 1 [1, 1, 2, 3], regT []]) := by
    have k := blitArea_p 4 1 4 1 [1, 2, 3, 4] [1, 2, 3, 4] (bandOf [⟨0, 0, 4, 1⟩]) (bandOf [⟨0, 0, 4, 1⟩]) ⟨0, 0, 3, 1⟩ 1 0 pen0 (by omega) (by omega) rfl hb4 (by omega) (by omega) rfl hb4 (Reg.of _) (Reg.of _) (by simp) hr (by unfold i64; omega) (by unfold i64; omega) pen0_ok ⟨by decide, by decide⟩
    rw [ex_px, ex_m] at k
    exact blitWithin_w 4 1 _ _ _ _ _ _ _ _ _ k
  have hsc : CallP Tryz.prog 43 [gT 4 1 [1, 2, 3, 4], regT (bandOf [⟨0, 0, 4, 1⟩]), I64 1, I64 0, penT pen0] (.tup [gT 4 1 [1, 1, 2, 3], regT (scrM (bandOf [⟨0, 0, 4, 1⟩]) 4 1 1 0)]) := by
    have k := blitScroll_p 4 1 [1, 2, 3, 4] (bandOf [⟨0, 0, 4, 1⟩]) 1 0 pen0 ⟨by omega, by omega⟩ ⟨by omega, by omega⟩ rfl hb4 (Reg.of _) (by simp) pen0_ok ⟨by decide, by decide⟩
    rw [ex_spx] at k
    exact k
  have hM := scrM_reg (Reg.of [⟨0, 0, 4, 1⟩]) 4 1 1 0
  have hMin := ex_sm
  have har := area_any (w := 4) (h := 1) hM (by simp) (by omega) (fun x y k => by have := (hMin x y).1 k; omega)
  have hMl : (scrM (bandOf [⟨0, 0, 4, 1⟩]) 4 1 1 0).length ≤ 1048576 := Nat.le_trans hM.len (by decide)
  have hhas := has_p _ hM.canon hM.ok hMl 0 0
  rw [decide_eq_true ((hMin 0 0).2 ⟨rfl, rfl⟩)] at hhas
  rw [show cntG (fun x y => decide (inL (scrM (bandOf [⟨0, 0, 4, 1⟩]) 4 1 1 0) x y)) 4 1 = cntG (fun x y => decide (x = 0 ∧ y = 0)) 4 1 from cntG_congr fun i j _ _ => decide_eq_decide.2 (hMin i j), show cntG (fun x y => decide (x = 0 ∧ y = 0)) 4 1 = 1 from by decide] at har
  generalize scrM (bandOf [⟨0, 0, 4, 1⟩]) 4 1 1 0 = M at *
  refine CallP.intro2 au_pu au_pu ?_
  refine CallT.intro tab_ok Tryz.func34 rfl (by kernel_rfl) (Nat.le_of_ble_eq_true rfl) ?_
  refine VC.reg tab_ok [] rfl ?_
  refine VX.meek rfl ?_
  refine VX.nil ?_
  refine VC.reg tab_ok [7, 10] rfl ?_
  refine VX.newI rfl rfl ?_
  refine VX.callP rfl rfl row24_p au_wk rfl ?_
  refine VX.meek rfl ?_
  refine VX.newI rfl rfl ?_
  refine VX.callP rfl rfl (of_p [⟨0, 0, 4, 1⟩] (by simp) (fun q hq => by rw [List.mem_singleton] at hq; subst hq; unfold i64; dsimp only; omega)) au_wk rfl ?_
  refine VX.new rfl rfl ?_
  refine VX.new rfl rfl ?_
  refine VX.store rfl rfl rfl rfl rfl au_sS rfl ?_
  refine VX.store rfl rfl rfl rfl rfl au_sS rfl ?_
  refine VX.nil ?_
  refine VC.drwS tab_ok [] [_, _, _, _, _, _, _, _, _, _, _, _] (_) rfl (by kernel_rfl) (by kernel_rfl) (by kernel_rfl) (seen_refl _) ?_
  refine VS.seg (l1 := [_, _, _, _, _, _, _, _, _]) rfl ?_
  first | refine VX.meek rfl ?_ | refine VX.loadI rfl rfl au_l ?_ | refine VX.loadP rfl rfl rfl au_l ?_
  first | refine VX.meek rfl ?_ | refine VX.loadI rfl rfl au_l ?_ | refine VX.loadP rfl rfl rfl au_l ?_
  first | refine VX.meek rfl ?_ | refine VX.loadI rfl rfl au_l ?_ | refine VX.loadP rfl rfl rfl au_l ?_
  refine VX.meek rfl ?_
  refine VX.callP0 rfl rfl rfl (newPen_p) ?_
  refine VX.callP0 rfl rfl rfl (hwi) ?_
  iterate 3 refine VX.meek rfl ?_
  refine VX.nil ?_
  refine VS.hid rfl ?_
  refine VS.seg (l1 := [_]) rfl ?_
  refine VX.new rfl rfl ?_
  refine VX.nil ?_
  refine VS.sto rfl rfl rfl rfl ?_
  refine VS.nil (⟨rfl, Nat.le_of_ble_eq_true rfl, rfl, trivial⟩) ?_
  refine VX.store rfl rfl rfl rfl rfl au_sS rfl ?_
  refine VX.nil ?_
  refine VC.drwS tab_ok [] [_, _, _, _, _, _, _, _, _, _] (_) rfl (by kernel_rfl) (by kernel_rfl) (by kernel_rfl) (seen_refl _) ?_
  refine VS.seg (l1 := [_, _, _, _, _, _, _]) rfl ?_
  first | refine VX.meek rfl ?_ | refine VX.loadI rfl rfl au_l ?_ | refine VX.loadP rfl rfl rfl au_l ?_
  first | refine VX.meek rfl ?_ | refine VX.loadI rfl rfl au_l ?_ | refine VX.loadP rfl rfl rfl au_l ?_
  refine VX.callP0 rfl rfl rfl (newPen_p) ?_
  refine VX.callP0 rfl rfl rfl (hsc) ?_
  iterate 3 refine VX.meek rfl ?_
  refine VX.nil ?_
  refine VS.hid rfl ?_
  refine VS.seg (l1 := [_]) rfl ?_
  refine VX.new rfl rfl ?_
  refine VX.nil ?_
  refine VS.sto rfl rfl rfl rfl ?_
  refine VS.nil (⟨rfl, Nat.le_of_ble_eq_true rfl, rfl, trivial⟩) ?_
  refine VX.store rfl rfl rfl rfl rfl au_sS rfl ?_
  refine VX.nil ?_
  refine VC.reg tab_ok [] rfl ?_
  first | refine VX.meek rfl ?_ | refine VX.loadI rfl rfl au_l ?_ | refine VX.loadP rfl rfl rfl au_l ?_
  refine VX.callP0 rfl rfl rfl (row_p 4 1 [1, 1, 2, 3] 0 (by omega) (by omega) rfl (by omega)) ?_
  iterate 2 refine VX.meek rfl ?_
  refine' VX.merge (d := 34) [_, _, _] rfl ?_ rfl ?_
  rotate_left
  · refine VX.guard rfl rfl (fun hb4_3 => ?_) (fun hb4_3 => ?_)
    · have ghb4_3 := hb4_3
      try simp only [au_std, Bool.not_true, Bool.not_false] at ghb4_3
      first | refine VX.meek rfl ?_ | refine VX.loadI rfl rfl au_l ?_ | refine VX.loadP rfl rfl rfl au_l ?_
      refine VX.guardT rfl rfl hb4_3 ?_
      refine VX.callP0 rfl rfl rfl (empty_p []) ?_
      refine VX.pickA rfl (fun _ => rfl) ?_
      exact VX.nil ⟨rfl, rfl⟩
    · refine VX.guardF rfl rfl hb4_3 ?_
      exact VX.pickA rfl (fun h => absurd (h.symm.trans hb4_3) (by decide)) (VX.nil ⟨rfl, rfl⟩)
  refine VX.meek rfl ?_
  refine' VX.merge (d := 39) [_, _, _, _] rfl ?_ rfl ?_
  rotate_left
  · refine VX.guard rfl rfl (fun hb4_7 => ?_) (fun hb4_7 => ?_)
    · have ghb4_7 := hb4_7
      try simp only [au_std, Bool.not_true, Bool.not_false] at ghb4_7
      first | refine VX.meek rfl ?_ | refine VX.loadI rfl rfl au_l ?_ | refine VX.loadP rfl rfl rfl au_l ?_
      refine VX.guardT rfl rfl hb4_7 ?_
      refine VX.callP0 rfl rfl rfl (row_p 4 1 [1, 1, 2, 3] 0 (by omega) (by omega) rfl (by omega)) ?_
      refine VX.guardT rfl rfl hb4_7 ?_
      refine VX.meek rfl ?_
      refine VX.pickA rfl (fun _ => rfl) ?_
      exact VX.nil ⟨rfl, rfl⟩
    · refine VX.guardF rfl rfl hb4_7 ?_
      refine VX.guardF rfl rfl hb4_7 ?_
      exact VX.pickA rfl (fun h => absurd (h.symm.trans hb4_7) (by decide)) (VX.nil ⟨rfl, rfl⟩)
  refine VX.meek rfl ?_
  refine' VX.merge (d := 44) [_, _, _, _] rfl ?_ rfl ?_
  rotate_left
  · refine VX.guard rfl rfl (fun hb4_12 => ?_) (fun hb4_12 => ?_)
    · have ghb4_12 := hb4_12
      try simp only [au_std, Bool.not_true, Bool.not_false] at ghb4_12
      first | refine VX.meek rfl ?_ | refine VX.loadI rfl rfl au_l ?_ | refine VX.loadP rfl rfl rfl au_l ?_
      refine VX.guardT rfl rfl hb4_12 ?_
      refine VX.callP0 rfl rfl rfl (har) ?_
      refine VX.guardT rfl rfl hb4_12 ?_
      refine VX.meek rfl ?_
      refine VX.pickA rfl (fun _ => rfl) ?_
      exact VX.nil ⟨rfl, rfl⟩
    · refine VX.guardF rfl rfl hb4_12 ?_
      refine VX.guardF rfl rfl hb4_12 ?_
      exact VX.pickA rfl (fun h => absurd (h.symm.trans hb4_12) (by decide)) (VX.nil ⟨rfl, rfl⟩)
  refine VX.meek rfl ?_
  refine' VX.merge (d := 48) [_, _, _] rfl ?_ rfl ?_
  rotate_left
  · refine VX.guard rfl rfl (fun hb4_17 => ?_) (fun hb4_17 => ?_)
    · have ghb4_17 := hb4_17
      try simp only [au_std, Bool.not_true, Bool.not_false] at ghb4_17
      first | refine VX.meek rfl ?_ | refine VX.loadI rfl rfl au_l ?_ | refine VX.loadP rfl rfl rfl au_l ?_
      refine VX.guardT rfl rfl hb4_17 ?_
      refine VX.callP0 rfl rfl rfl (hhas) ?_
      refine VX.pickA rfl (fun _ => rfl) ?_
      exact VX.nil ⟨rfl, rfl⟩
    · refine VX.guardF rfl rfl hb4_17 ?_
      exact VX.pickA rfl (fun h => absurd (h.symm.trans hb4_17) (by decide)) (VX.nil ⟨rfl, rfl⟩)
  refine VX.meek rfl ?_
  refine VX.nil ?_
  refine VC.ret ?_
  exact ⟨trivial, _, rfl, Cv.eq (congrArg BL (by decide +kernel)) rfl⟩
end
section
open Go.RowKit Go.Sort
set_option maxRecDepth 10000
set_option maxHeartbeats 1000000
abbrev shS : Sh := .st [shB, shB, shU, shU]
theorem wt_small {ts : List T} (h : shS.wt ts) : ∃ s : Rect, ts = cS.cells s ∧ smOk s := by
  obtain ⟨a, b, rfl, h1, c, d, rfl, h2, e, f, rfl, h3, g, k, rfl, h4, rfl⟩ := h
  obtain ⟨x, rfl, hx⟩ := wt_i8 h1
  obtain ⟨y, rfl, hy⟩ := wt_i8 h2
  obtain ⟨w, rfl, hw⟩ := wt_u8 h3
  obtain ⟨z, rfl, hz⟩ := wt_u8 h4
  exact ⟨⟨x, y, w, z⟩, rfl, hx.1, hx.2, hy.1, hy.2, hw.1, hw.2, hz.1, hz.2⟩
theorem wt_smalls {ts : List T} (h : (Sh.sl shS).wt ts) : ∃ l : List Rect, ts = [.islc (encL cS l) l.length none] ∧ l.length ≤ maxLen ∧ ∀ s ∈ l, smOk s := wt_sl cS (fun _ => wt_small) h
theorem ofS_p (l : List Rect) (hl : ∀ s ∈ l, smOk s) (hn : l.length ≤ 10) : CallP Tryz.prog 20 [.islc (encL cR (l.map smR)) (l.map smR).length none] (regT (bandOf (l.map smR))) :=
  of_p (l.map smR) (by rw [List.length_map]; omega) (fun r hr => ⟨(smRs_rI hl r hr).1, (smRs_rI hl r hr).2.1⟩)
theorem ofS_reg (l : List Rect) (hn : l.length ≤ 10) : Reg 20 (bandOf (l.map smR)) := (Reg.of (l.map smR)).mono (by rw [List.length_map]; omega)
theorem i64_8 {x : Int} (h : -128 ≤ x ∧ x ≤ 127) : i64 x := by unfold i64; omega
end
section
open Go.RowKit Go.Sort
set_option maxRecDepth 10000
set_option maxHeartbeats 1000000
theorem area_cntO {w h : Nat} {x0 y0 : Int} {l : List Rect} (hc : Canon l) (hr : ∀ r ∈ l, rok r) (hin : ∀ x y, inL l x y → x0 ≤ x ∧ x < x0 + w ∧ y0 ≤ y ∧ y < y0 + h) : ∀ k, k ≤ l.length → areaL (l.take k) = cntG (fun x y => decide (inL (l.take k) (x0 + x) (y0 + y))) w h
  | 0, _ => by
    have e : cntG (fun x y => decide (inL (l.take 0) (x0 + x) (y0 + y))) w h = cntG (fun _ _ => false) w h := cntG_congr fun i j _ _ => decide_eq_false inL_nil
    rw [e, cntG_false]; rfl
  | k + 1, hk => by
    have hkl : k < l.length := by omega
    have hmk : l[k]! ∈ l := List.mem_iff_getElem?.2 ⟨k, getE hkl⟩
    have hrk := hr _ hmk
    unfold rok at hrk
    have ih := area_cntO hc hr hin k (by omega)
    rw [take_snoc hkl, areaL_app, ih]
    have hik : ∀ x y, l[k]!.has x y → x0 ≤ x ∧ x < x0 + w ∧ y0 ≤ y ∧ y < y0 + h := fun x y hh => hin x y ⟨_, hmk, hh⟩
    have c1 := hik l[k]!.X l[k]!.Y (by unfold Rect.has; omega)
    have c2 := hik (l[k]!.X + l[k]!.W - 1) (l[k]!.Y + l[k]!.H - 1) (by unfold Rect.has; omega)
    have e : cntG (fun x y => decide (inL (l.take k ++ [l[k]!]) (x0 + x) (y0 + y))) w h = cntG (fun x y => decide (inL (l.take k) (x0 + x) (y0 + y)) || decide ((⟨l[k]!.X - x0, l[k]!.Y - y0, l[k]!.W, l[k]!.H⟩ : Rect).has x y)) w h := cntG_congr fun i j _ _ => by
      rw [Bool.eq_iff_iff, decide_eq_true_eq, inL_append, inL_cons]
      simp only [Bool.or_eq_true, decide_eq_true_eq]
      have hn : ¬ inL [] (x0 + i) (y0 + j) := inL_nil
      have hq : l[k]!.has (x0 + i) (y0 + j) ↔ (⟨l[k]!.X - x0, l[k]!.Y - y0, l[k]!.W, l[k]!.H⟩ : Rect).has i j := by unfold Rect.has; dsimp only; omega
      rw [hq]
      constructor
      · rintro (h | h | h)
        · exact .inl h
        · exact .inr h
        · exact absurd h hn
      · rintro (h | h)
        · exact .inl h
        · exact .inr (.inl h)
    rw [e, cntG_or fun i j _ _ hh => by
      simp only [decide_eq_true_eq] at hh
      exact canon_disj hc hkl (x := x0 + i) (y := y0 + j) (by have := hh.2; unfold Rect.has at this ⊢; dsimp only at this; omega) hh.1]
    have := cntG_rect (w := w) ⟨l[k]!.X - x0, l[k]!.Y - y0, l[k]!.W, l[k]!.H⟩ (by dsimp only; omega) (by dsimp only; omega) (by dsimp only; omega) (by dsimp only; omega) (by dsimp only; omega) h
    push_cast
    rw [this]
    dsimp only
    rw [Int.max_eq_left (by omega), Int.min_eq_left (by omega)]
    simp only [areaL, areaR, Int.add_zero]
    congr 2
    omega
theorem area_anyO {n : Nat} {w h : Nat} {x0 y0 : Int} {l : List Rect} (hc : Reg n l) (hn : n ≤ 300) (hwh : w * h ≤ 1048576) (hin : ∀ x y, inL l x y → x0 ≤ x ∧ x < x0 + w ∧ y0 ≤ y ∧ y < y0 + h) : CallP Tryz.prog 50 [regT l] (I64 (cntG (fun x y => decide (inL l (x0 + x) (y0 + y))) w h)) := by
  have e := area_cntO hc.canon hc.ok hin l.length (Nat.le_refl _)
  rw [List.take_length] at e
  rw [← e]
  have hb : ∀ p : Int → Int → Bool, (cntG p w h : Int) ≤ 1048576 := fun p => by have := cntG_le p w h; rw [Nat.mul_comm] at this; omega
  refine area_p l (Nat.le_trans hc.len (Nat.le_trans (Nat.mul_le_mul hn hn) (by decide))) (fun k hk => ?_) (fun r hr => ?_)
  · rw [area_cntO hc.canon hc.ok hin k hk]
    have := hb (fun x y => decide (inL (l.take k) (x0 + x) (y0 + y)))
    omega
  · have hrk := hc.ok r hr
    unfold rok at hrk
    unfold areaR
    have h1 : 0 ≤ r.W * r.H := Int.mul_nonneg (by omega) (by omega)
    have h2 : r.W * r.H ≤ 2097152 * 2097152 := Int.mul_le_mul (by omega) (by omega) (by omega) (by omega)
    omega
theorem miss_reg {n m : Nat} {fr clip : List Rect} (hf : Reg n fr) (hc : Reg m clip) (s : Rect) (x y : Int) : Reg (n + m + 10) (missR fr clip s x y) := by
  unfold missR
  split
  · exact Reg.nil.mono (Nat.zero_le _)
  · exact (opL_reg (k := subB) rfl (opL_reg (k := and) rfl hc (Reg.of [toR s x y])) ((opL_reg (k := and) rfl hf (Reg.of [s])).shift _ _)).mono (by simp; omega)
theorem miss_in {n m : Nat} {fr clip : List Rect} (hf : Reg n fr) (hc : Reg m clip) (s : Rect) (x y a b : Int) : inL (missR fr clip s x y) a b ↔ noneB s x y = false ∧ (inL clip a b ∧ (toR s x y).has a b) ∧ ¬ inL fr (s.X + a - x) (s.Y + b - y) := by
  unfold missR
  split
  · rename_i h0
    exact ⟨fun k => absurd k inL_nil, fun k => by rw [h0] at k; exact absurd k.1 (by decide)⟩
  · rename_i h0
    have h0' : noneB s x y = false := by simpa using h0
    have hc1 : countsB s = true := by unfold noneB at h0'; cases h : countsB s <;> simp [h] at h0' ⊢
    have hc2 : countsB (toR s x y) = true := by unfold noneB at h0'; cases h : countsB (toR s x y) <;> simp [h] at h0' ⊢
    rw [opL_sub (opL_reg (k := and) rfl hc (Reg.of [toR s x y])) ((opL_reg (k := and) rfl hf (Reg.of [s])).shift _ _), opL_and hc (Reg.of _), shift_in (opL_reg (k := and) rfl hf (Reg.of [s])).ok, opL_and hf (Reg.of _), bandOf_in, bandOf_in, one_in, one_in, show a - (x - s.X) = s.X + a - x from by omega, show b - (y - s.Y) = s.Y + b - y from by omega]
    have hr := countsB_rok hc2
    constructor
    · rintro ⟨⟨p1, -, p2⟩, p3⟩
      refine ⟨h0', ⟨p1, p2⟩, fun q => p3 ⟨⟨q, hc1, ?_⟩, ?_⟩⟩
      · unfold Rect.has toR at p2; unfold Rect.has; dsimp only at p2; omega
      · unfold rok toR at hr; unfold Rect.has toR at p2; unfold inQ; dsimp only at p2 hr; omega
    · rintro ⟨-, ⟨p1, p2⟩, p3⟩
      exact ⟨⟨p1, hc2, p2⟩, fun q => p3 q.1.1⟩
def missB (fr clip : List Rect) (s : Rect) (x y a b : Int) : Bool := (!noneB s x y && decide (inL clip a b)) && !decide (inL fr (s.X + a - x) (s.Y + b - y))
theorem blitMissing_all {t0 t1 t2 t3 t4 : List T} (h0 : (Sh.sl shS).wt t0) (h1 : (Sh.sl shS).wt t1) (h2 : shS.wt t2) (h3 : shB.wt t3) (h4 : shB.wt t4) :
    CallP Tryz.prog 11 [(Sh.sl shS).tree t0, (Sh.sl shS).tree t1, shS.tree t2, shB.tree t3, shB.tree t4] (BL true) := by
  obtain ⟨fr, rfl, -, hf⟩ := wt_smalls h0
  obtain ⟨clip, rfl, -, hc⟩ := wt_smalls h1
  obtain ⟨s, rfl, hs⟩ := wt_small h2
  obtain ⟨x, rfl, hx⟩ := wt_i8 h3
  obtain ⟨y, rfl, hy⟩ := wt_i8 h4
  clear h0 h1 h2 h3 h4
  have sp := small_p s hs
  have hsi := smR_rI hs
  have hbd := small_bd hs
  have hxi := i64_8 hx
  have hyi := i64_8 hy
  show CallP Tryz.prog 11 [.islc (encL cS fr) fr.length none, .islc (encL cS clip) clip.length none, smallT s, .v (.int .i8 x), .v (.int .i8 y)] (BL true)
  generalize smR s = S at *
  refine CallP.intro2 au_pu au_pu ?_
  refine CallT.intro tab_ok Tryz.func11 rfl (by kernel_rfl) (Nat.le_of_ble_eq_true rfl) ?_
  refine VC.reg tab_ok [7] rfl ?_
  refine VX.newI rfl rfl ?_
  refine VX.meek rfl ?_
  refine VX.nil ?_
  refine VC.seq ?_
  refine VC.reg tab_ok [] rfl ?_
  iterate 4 refine VX.meek rfl ?_
  refine' VX.merge (d := 26) [_, _, _, _] rfl ?_ rfl ?_
  rotate_left
  · refine VX.guard rfl rfl (fun hb1_3 => ?_) (fun hb1_3 => ?_)
    · have ghb1_3 := hb1_3
      try simp only [au_std, Bool.not_true, Bool.not_false] at ghb1_3
      refine VX.meek rfl ?_
      refine VX.guardT rfl rfl hb1_3 ?_
      refine VX.meek rfl ?_
      refine VX.guardT rfl rfl hb1_3 ?_
      refine VX.meek rfl ?_
      refine VX.pickO rfl (fun _ => rfl) ?_
      exact VX.nil ⟨rfl, rfl⟩
    · refine VX.guardF rfl rfl hb1_3 ?_
      refine VX.guardF rfl rfl hb1_3 ?_
      exact VX.pickO rfl (fun h => absurd (h.symm.trans hb1_3) (by decide)) (VX.nil ⟨rfl, rfl⟩)
  refine VX.nil ?_
  refine VC.cond rfl (fun hc0 => ?_) (fun hc0 => ?_)
  · (try simp only [au_std] at hc0)
    refine VC.reg tab_ok [] rfl ?_
    refine VX.callP0 rfl rfl rfl (awake24_p) ?_
    refine VX.meek rfl ?_
    refine VX.nil ?_
    refine VC.ret ?_
    exact ⟨trivial, _, rfl, Cv.eq (by first | rfl | (simp [*]; done)) rfl⟩
  · (try simp only [au_std] at hc0); have hn : fr.length ≤ 10 ∧ clip.length ≤ 10 := (by omega)
    have rf := ofS_reg fr hn.1
    have rc := ofS_reg clip hn.2
    have hm := blitMissing_p (bandOf (fr.map smR)) (bandOf (clip.map smR)) S x y rf rc (by omega) hsi hxi hyi
    have hM := miss_reg rf rc S x y
    have hMin := fun a b => miss_in rf rc S x y a b
    generalize missR (bandOf (fr.map smR)) (bandOf (clip.map smR)) S x y = M at *
    have hMl : M.length ≤ 1048576 := Nat.le_trans hM.len (by decide)
    have hlk : ∀ i j : Nat, i < S.W.toNat → j < S.H.toNat → decide (inL M (x + i) (y + j)) = missB (fr.map smR) (clip.map smR) S x y (x + i) (y + j) := (fun i j hi hj => by
      rw [Bool.eq_iff_iff, decide_eq_true_eq, hMin, bandOf_in, bandOf_in, smR_in hf, smR_in hc]
      unfold missB
      simp only [Bool.and_eq_true, Bool.not_eq_true', decide_eq_true_eq, decide_eq_false_iff_not]
      have hh : (toR S x y).has (x + i) (y + j) := by unfold Rect.has toR; dsimp only; omega
      constructor
      · rintro ⟨p1, ⟨p2, -⟩, p3⟩; exact ⟨⟨p1, p2⟩, p3⟩
      · rintro ⟨⟨p1, p2⟩, p3⟩; exact ⟨p1, ⟨p2, hh⟩, p3⟩)
    have hdd : S.H.toNat * S.W.toNat ≤ 31 * 31 := Nat.mul_le_mul (by omega) (by omega)
    have har := area_anyO (w := S.W.toNat) (h := S.H.toNat) (x0 := x) (y0 := y) hM (by omega) (by have := Nat.mul_comm S.H.toNat S.W.toNat; omega) (fun a b k => by have := ((hMin a b).1 k).2.1.2; unfold Rect.has toR at this; dsimp only at this; omega)
    have hac : cntG (fun a b => decide (inL M (x + a) (y + b))) S.W.toNat S.H.toNat = cntG (fun a b => missB (fr.map smR) (clip.map smR) S x y (x + a) (y + b)) S.W.toNat S.H.toNat := cntG_congr fun i j hi hj => hlk i j hi hj
    rw [hac] at har
    refine VC.skip ?_
    refine VC.reg tab_ok [] rfl ?_
    first | refine VX.meek rfl ?_ | refine VX.loadI rfl rfl au_l ?_ | refine VX.loadP rfl rfl rfl au_l ?_
    refine VX.callP0 rfl rfl rfl (sp) ?_
    refine VX.new rfl rfl ?_
    refine VX.store rfl rfl rfl rfl rfl au_sS rfl ?_
    refine VX.nil ?_
    refine VC.drw tab_ok [] [_, _, _, _, _, _, _, _, _, _, _, _, _] rfl (by kernel_rfl) (by kernel_rfl) ?_
    refine VX.meek rfl ?_
    refine VX.callP0 rfl rfl rfl (rects17_p fr (by omega) hf) ?_
    refine VX.callP0 rfl rfl rfl (ofS_p fr hf hn.1) ?_
    refine VX.meek rfl ?_
    refine VX.callP0 rfl rfl rfl (rects17_p clip (by omega) hc) ?_
    refine VX.callP0 rfl rfl rfl (ofS_p clip hc hn.2) ?_
    first | refine VX.meek rfl ?_ | refine VX.loadI rfl rfl au_l ?_ | refine VX.loadP rfl rfl rfl au_l ?_
    refine VX.meek rfl ?_
    refine VX.meek (t := I64 x) (by show some (T.v (.int .i64 (IntKind.i64.wrap x)), (none : Option (Nat × List T))) = _; rw [wrap_in (by omega)]) ?_
    refine VX.meek rfl ?_
    refine VX.meek (t := I64 y) (by show some (T.v (.int .i64 (IntKind.i64.wrap y)), (none : Option (Nat × List T))) = _; rw [wrap_in (by omega)]) ?_
    refine VX.callP0 rfl rfl rfl (hm) ?_
    refine VX.new rfl rfl ?_
    refine VX.nil ?_
    refine VX.store rfl rfl rfl rfl rfl au_sS rfl ?_
    refine VX.nil ?_
    refine VC.reg tab_ok [] rfl ?_
    refine VX.meek rfl ?_
    refine VX.nil ?_
    refine VC.seq ?_
    refine VC.reg tab_ok [] rfl ?_
    refine VX.meek rfl ?_
    refine VX.meek (t := I64 y) (by show some (T.v (.int .i64 (IntKind.i64.wrap y)), (none : Option (Nat × List T))) = _; rw [wrap_in (by omega)]) ?_
    refine VX.meek rfl ?_
    refine VX.nil ?_
    refine VC.block ?_
    refine VC.loopS (σ := Nat) (fun j => S.H.toNat - j) (fun j => j ≤ S.H.toNat) (fun j => [(14, I64 (y + j)), (13, I64 (cntG (fun a b => missB (fr.map smR) (clip.map smR) S x y (x + a) (y + b)) S.W.toNat j)), (11, .ptr 0 0), (12, .ptr 1 0)]) (fun j => [.c (rC S), .c [.islc (encL cR M) M.length none]]) [0, 1, 3, 4] rfl (0) ?_ ?_ ?_
    · refine ⟨[some 0, some 1], rfl, by first | trivial | decide, rfl, ?_, ?_⟩ <;> (repeat' first | exact trivial | exact CvB_n | exact CvB_d | refine CvE_app ?_ ?_ | refine CvE_cons rfl ?_ ?_ | refine CvH_cons ?_ ?_ | refine CvB_c rfl ?_ | fail) <;> first | exact au_v | (first | exact CvL.pure rfl | exact CvL.cons (Cv.pure (encL_pure cR _)) CvL.nil | exact Cv.eq (congrArg I64 (by simp)) rfl)
    · (try dsimp only); omega
    rintro j hj
    refine VC.seq ?_
    refine VC.reg tab_ok [] rfl ?_
    iterate 2 refine VX.meek rfl ?_
    refine VX.meek (t := I64 y) (by show some (T.v (.int .i64 (IntKind.i64.wrap y)), (none : Option (Nat × List T))) = _; rw [wrap_in (by omega)]) ?_
    refine VX.meek rfl ?_
    first | refine VX.meek rfl ?_ | refine VX.loadI rfl rfl au_l ?_ | refine VX.loadP rfl rfl rfl au_l ?_
    first | refine VX.add rfl rfl (by omega) ?_ | refine VX.meek rfl ?_
    refine VX.meek rfl ?_
    refine VX.nil ?_
    refine VC.cond rfl (fun hc1 => ?_) (fun hc1 => ?_)
    · (try simp only [au_std] at hc1); have hjl : j < S.H.toNat := (by omega); have hcj := cntG_le (fun a b => missB (fr.map smR) (clip.map smR) S x y (x + a) (y + b)) S.W.toNat j; have hjw : j * S.W.toNat ≤ 31 * 31 := Nat.mul_le_mul (by omega) (by omega)
      refine VC.skip ?_
      refine VC.seq ?_
      refine VC.block ?_
      refine VC.reg tab_ok [] rfl ?_
      refine VX.meek rfl ?_
      refine VX.meek (t := I64 x) (by show some (T.v (.int .i64 (IntKind.i64.wrap x)), (none : Option (Nat × List T))) = _; rw [wrap_in (by omega)]) ?_
      refine VX.meek rfl ?_
      refine VX.nil ?_
      refine VC.block ?_
      refine VC.loopS (σ := Nat) (fun i => S.W.toNat - i) (fun i => i ≤ S.W.toNat) (fun i => [(15, I64 (x + i)), (13, I64 ((cntG (fun a b => missB (fr.map smR) (clip.map smR) S x y (x + a) (y + b)) S.W.toNat j + cntR (fun a => missB (fr.map smR) (clip.map smR) S x y (x + a) (y + j)) i : Nat))), (11, .ptr 0 0), (12, .ptr 1 0)]) (fun i => [.c (rC S), .c [.islc (encL cR M) M.length none]]) [0, 1, 3, 4, 14] rfl (0) ?_ ?_ ?_
      · refine ⟨[some 0, some 1], rfl, by first | trivial | decide, rfl, ?_, ?_⟩ <;> (repeat' first | exact trivial | exact CvB_n | exact CvB_d | refine CvE_app ?_ ?_ | refine CvE_cons rfl ?_ ?_ | refine CvH_cons ?_ ?_ | refine CvB_c rfl ?_ | fail) <;> first | exact au_v | (first | exact CvL.pure rfl | exact CvL.cons (Cv.pure (encL_pure cR _)) CvL.nil | exact Cv.eq (congrArg I64 (by simp)) rfl)
      · (try dsimp only); omega
      rintro i hi
      refine VC.seq ?_
      refine VC.reg tab_ok [] rfl ?_
      iterate 2 refine VX.meek rfl ?_
      refine VX.meek (t := I64 x) (by show some (T.v (.int .i64 (IntKind.i64.wrap x)), (none : Option (Nat × List T))) = _; rw [wrap_in (by omega)]) ?_
      refine VX.meek rfl ?_
      first | refine VX.meek rfl ?_ | refine VX.loadI rfl rfl au_l ?_ | refine VX.loadP rfl rfl rfl au_l ?_
      first | refine VX.add rfl rfl (by omega) ?_ | refine VX.meek rfl ?_
      refine VX.meek rfl ?_
      refine VX.nil ?_
      refine VC.cond rfl (fun hc2 => ?_) (fun hc2 => ?_)
      · (try simp only [au_std] at hc2); have hil : i < S.W.toNat := (by omega); have hci := cntR_le (fun a => missB (fr.map smR) (clip.map smR) S x y (x + a) (y + j)) i; have hlx := hlk i j hil hjl
        have hcs : cntR (fun a => missB (fr.map smR) (clip.map smR) S x y (x + a) (y + j)) (i + 1) = cntR (fun a => missB (fr.map smR) (clip.map smR) S x y (x + a) (y + j)) i + (if missB (fr.map smR) (clip.map smR) S x y (x + i) (y + j) = true then 1 else 0) := rfl
        have hmb : missB (fr.map smR) (clip.map smR) S x y (x + i) (y + j) = ((!noneB S x y && decide (inL (clip.map smR) (x + i) (y + j))) && !decide (inL (fr.map smR) (S.X + (x + i) - x) (S.Y + (y + j) - y))) := rfl
        refine VC.skip ?_
        refine VC.seq ?_
        refine VC.block ?_
        refine VC.reg tab_ok [] rfl ?_
        first | refine VX.meek rfl ?_ | refine VX.loadI rfl rfl au_l ?_ | refine VX.loadP rfl rfl rfl au_l ?_
        refine VX.meek rfl ?_
        refine VX.meek (t := I64 x) (by show some (T.v (.int .i64 (IntKind.i64.wrap x)), (none : Option (Nat × List T))) = _; rw [wrap_in (by omega)]) ?_
        refine VX.meek rfl ?_
        refine VX.meek (t := I64 y) (by show some (T.v (.int .i64 (IntKind.i64.wrap y)), (none : Option (Nat × List T))) = _; rw [wrap_in (by omega)]) ?_
        iterate 2 refine VX.meek rfl ?_
        refine VX.callP0 rfl rfl rfl (source_p S x y (x + i) (y + j) (by omega) (by omega) (by omega) (by omega) (by omega) (by omega)) ?_
        iterate 5 refine VX.meek rfl ?_
        refine VX.nil ?_
        refine VC.reg tab_ok [] rfl ?_
        first | refine VX.meek rfl ?_ | refine VX.loadI rfl rfl au_l ?_ | refine VX.loadP rfl rfl rfl au_l ?_
        refine VX.meek rfl ?_
        refine VX.meek (t := I64 x) (by show some (T.v (.int .i64 (IntKind.i64.wrap x)), (none : Option (Nat × List T))) = _; rw [wrap_in (by omega)]) ?_
        refine VX.meek rfl ?_
        refine VX.meek (t := I64 y) (by show some (T.v (.int .i64 (IntKind.i64.wrap y)), (none : Option (Nat × List T))) = _; rw [wrap_in (by omega)]) ?_
        refine VX.callP0 rfl rfl rfl (none_p S x y hsi hxi hyi) ?_
        iterate 2 refine VX.meek rfl ?_
        refine' VX.merge (d := 87) [_, _, _, _, _] rfl ?_ rfl ?_
        rotate_left
        · refine VX.guard rfl rfl (fun hb13_7 => ?_) (fun hb13_7 => ?_)
          · have ghb13_7 := hb13_7
            try simp only [au_std, Bool.not_true, Bool.not_false] at ghb13_7
            refine VX.meek rfl ?_
            refine VX.guardT rfl rfl hb13_7 ?_
            refine VX.meek rfl ?_
            refine VX.guardT rfl rfl hb13_7 ?_
            refine VX.meek rfl ?_
            refine VX.guardT rfl rfl hb13_7 ?_
            refine VX.callP0 rfl rfl rfl (in17_p clip (x + i) (y + j) (by omega) hc) ?_
            refine VX.pickA rfl (fun _ => rfl) ?_
            exact VX.nil ⟨rfl, rfl⟩
          · refine VX.guardF rfl rfl hb13_7 ?_
            refine VX.guardF rfl rfl hb13_7 ?_
            refine VX.guardF rfl rfl hb13_7 ?_
            exact VX.pickA rfl (fun h => absurd (h.symm.trans hb13_7) (by decide)) (VX.nil ⟨rfl, rfl⟩)
        refine VX.meek rfl ?_
        refine' VX.merge (d := 94) [_, _, _, _, _, _] rfl ?_ rfl ?_
        rotate_left
        · refine VX.guard rfl rfl (fun hb13_13 => ?_) (fun hb13_13 => ?_)
          · have ghb13_13 := hb13_13
            try simp only [au_std, Bool.not_true, Bool.not_false] at ghb13_13
            refine VX.meek rfl ?_
            refine VX.guardT rfl rfl hb13_13 ?_
            refine VX.meek rfl ?_
            refine VX.guardT rfl rfl hb13_13 ?_
            refine VX.meek rfl ?_
            refine VX.guardT rfl rfl hb13_13 ?_
            refine VX.callP0 rfl rfl rfl (in17_p fr (S.X + (x + i) - x) (S.Y + (y + j) - y) (by omega) hf) ?_
            refine VX.guardT rfl rfl hb13_13 ?_
            refine VX.meek rfl ?_
            refine VX.pickA rfl (fun _ => rfl) ?_
            exact VX.nil ⟨rfl, rfl⟩
          · refine VX.guardF rfl rfl hb13_13 ?_
            refine VX.guardF rfl rfl hb13_13 ?_
            refine VX.guardF rfl rfl hb13_13 ?_
            refine VX.guardF rfl rfl hb13_13 ?_
            exact VX.pickA rfl (fun h => absurd (h.symm.trans hb13_13) (by decide)) (VX.nil ⟨rfl, rfl⟩)
        refine VX.meek rfl ?_
        refine VX.nil ?_
        refine VC.seq ?_
        refine VC.reg tab_ok [] rfl ?_
        first | refine VX.meek rfl ?_ | refine VX.loadI rfl rfl au_l ?_ | refine VX.loadP rfl rfl rfl au_l ?_
        iterate 2 refine VX.meek rfl ?_
        refine VX.callP0 rfl rfl rfl (has_p M hM.canon hM.ok hMl (x + i) (y + j)) ?_
        iterate 2 refine VX.meek rfl ?_
        refine VX.nil ?_
        refine VC.cond rfl (fun hc3 => ?_) (fun hc3 => ?_)
        · exact absurd hc3 (by rw [hlx, hmb]; simp)
        · (try simp only [au_std] at hc3)
          refine VC.skip ?_
          refine VC.reg tab_ok [] rfl ?_
          refine VX.meek rfl ?_
          refine VX.nil ?_
          refine VC.cond rfl (fun hc4 => ?_) (fun hc4 => ?_)
          · have hcx : cntR (fun a => missB (fr.map smR) (clip.map smR) S x y (x + a) (y + j)) (i + 1) = cntR (fun a => missB (fr.map smR) (clip.map smR) S x y (x + a) (y + j)) i + 1 := (by rw [hcs, if_pos (hmb.trans hc4)])
            refine VC.regN tab_ok [] rfl ?_
            refine VX.meek rfl ?_
            first | refine VX.add rfl rfl (by omega) ?_ | refine VX.meek rfl ?_
            refine VX.meek rfl ?_
            refine VX.nil ?_
            refine VC.regN tab_ok [] rfl ?_
            refine VX.meek rfl ?_
            first | refine VX.add rfl rfl (by omega) ?_ | refine VX.meek rfl ?_
            refine VX.meek rfl ?_
            refine VX.nil ?_
            refine ⟨i + 1, by (try dsimp only); omega, ?_, (by refine ⟨[some 0, some 1], rfl, by first | trivial | decide, rfl, ?_, ?_⟩ <;> (repeat' first | exact trivial | exact CvB_n | exact CvB_d | refine CvE_app ?_ ?_ | refine CvE_cons rfl ?_ ?_ | refine CvH_cons ?_ ?_ | refine CvB_c rfl ?_ | fail) <;> first | exact au_v | (first | exact CvL.pure rfl | exact CvL.cons (Cv.pure (encL_pure cR _)) CvL.nil | exact Cv.eq (congrArg I64 (by omega)) rfl))⟩
            (try dsimp only); omega
          · have hcx : cntR (fun a => missB (fr.map smR) (clip.map smR) S x y (x + a) (y + j)) (i + 1) = cntR (fun a => missB (fr.map smR) (clip.map smR) S x y (x + a) (y + j)) i := (by rw [hcs, if_neg (by rw [hmb, hc4]; decide)]; rfl)
            refine VC.skip ?_
            refine VC.regN tab_ok [] rfl ?_
            refine VX.meek rfl ?_
            first | refine VX.add rfl rfl (by omega) ?_ | refine VX.meek rfl ?_
            refine VX.meek rfl ?_
            refine VX.nil ?_
            refine ⟨i + 1, by (try dsimp only); omega, ?_, (by refine ⟨[some 0, some 1], rfl, by first | trivial | decide, rfl, ?_, ?_⟩ <;> (repeat' first | exact trivial | exact CvB_n | exact CvB_d | refine CvE_app ?_ ?_ | refine CvE_cons rfl ?_ ?_ | refine CvH_cons ?_ ?_ | refine CvB_c rfl ?_ | fail) <;> first | exact au_v | (first | exact CvL.pure rfl | exact CvL.cons (Cv.pure (encL_pure cR _)) CvL.nil | exact Cv.eq (congrArg I64 (by omega)) rfl))⟩
            (try dsimp only); omega
      · (try simp only [au_std] at hc2); have hid : i = S.W.toNat := (by omega)
        refine VC.exit ?_
        refine VC.regN tab_ok [] rfl ?_
        refine VX.meek rfl ?_
        first | refine VX.add rfl rfl (by omega) ?_ | refine VX.meek rfl ?_
        refine VX.meek rfl ?_
        refine VX.nil ?_
        refine ⟨j + 1, by (try dsimp only); omega, ?_, (by refine ⟨[some 0, some 1], rfl, by first | trivial | decide, rfl, ?_, ?_⟩ <;> (repeat' first | exact trivial | exact CvB_n | exact CvB_d | refine CvE_app ?_ ?_ | refine CvE_cons rfl ?_ ?_ | refine CvH_cons ?_ ?_ | refine CvB_c rfl ?_ | fail) <;> first | exact au_v | (first | exact CvL.pure rfl | exact CvL.cons (Cv.pure (encL_pure cR _)) CvL.nil | exact Cv.eq (congrArg I64 (by omega)) rfl | exact Cv.eq (by rw [hid]; rfl) rfl))⟩
        (try dsimp only); omega
    · (try simp only [au_std] at hc1); have hjd : j = S.H.toNat := (by omega); rw [hjd]
      refine VC.exit ?_
      refine VC.reg tab_ok [] rfl ?_
      first | refine VX.meek rfl ?_ | refine VX.loadI rfl rfl au_l ?_ | refine VX.loadP rfl rfl rfl au_l ?_
      refine VX.callP0 rfl rfl rfl (har) ?_
      iterate 3 refine VX.meek rfl ?_
      refine' VX.merge (d := 110) [_, _] rfl ?_ rfl ?_
      rotate_left
      · refine VX.guard rfl rfl (fun hb18_4 => ?_) (fun hb18_4 => ?_)
        · have ghb18_4 := hb18_4
          try simp only [au_std, Bool.not_true, Bool.not_false] at ghb18_4
          refine VX.callP0 rfl rfl rfl (awake24_p) ?_
          refine VX.pickA rfl (fun _ => rfl) ?_
          exact VX.nil ⟨rfl, rfl⟩
        · exact VX.pickA rfl (fun h => absurd (h.symm.trans hb18_4) (by decide)) (VX.nil ⟨rfl, rfl⟩)
      refine VX.meek rfl ?_
      refine VX.nil ?_
      refine VC.ret ?_
      exact ⟨trivial, _, rfl, Cv.eq (congrArg BL (by simp)) rfl⟩
end
section
open Go.ChangeShapes Go.WideShapes Go.ChangeAt Go.RowKit Go.WideElems
def rowed (P : Program) (ts : List TypeId) : Bool := ts.all fun t => P.readableRec t && decide (t < P.types.size)
theorem trodAll_below {H : Type} {enc : TypeId × Value → H} {P : Program} (hl : laidOutB P = true) {W W' : World} (hb : Below W.heap.size W W') :
    ∀ {ts : List TypeId} {vs : List Value} {ds : List (DataW H)} {p : List MemPlace}, rowed P ts = true → (∀ x ∈ p, x.block < W.heap.size) →
      DataW.TrodAll enc P W 0 (fun _ => true) true ts vs ds p → DataW.TrodAll enc P W' 0 (fun b => decide (b < W.heap.size)) true ts vs ds p
  | [], _, _, _, _, _, h => by
    obtain ⟨rfl, rfl, rfl⟩ := trodAll_nil h
    exact trodAll_mk0
  | t :: ts, _, _, _, hr, hlt, h => by
    obtain ⟨v, vs1, d, ds1, a, b, rfl, rfl, rfl, h1, h2⟩ := trodAll_cons h
    simp only [rowed, List.all_cons, Bool.and_eq_true, decide_eq_true_eq] at hr
    refine trodAll_cons_mk (Below.trod hl hr.1.1 hr.1.2 h1 hb (fun x hx => hlt x (by simp [hx]))) ?_
    exact trodAll_below hl hb (by simpa [rowed] using hr.2) (fun x hx => hlt x (by simp [hx])) h2
theorem post_law {H : Type} {enc : TypeId × Value → H} {P : Program} {f : Func} {s : ChangeSpec} {W W' : World} {args : Array Value} {ds gs : List (DataW H)} {before : List MemPlace} {tb : TypeId}
    (hl : laidOutB P = true) (hps : rowed P f.params.toList = true) (hvs : varsRowed P s.vars = true) (hres : f.resultTypes = #[tb]) (htb : P.underlying tb = some .bool)
    (hW : DataW.Whole enc P f.params.toList s.vars false W args.toList ds gs before)
    (h1 : (s.fn H (ds ++ gs)).results = [.lit (.bool true)]) (h2 : (s.fn H (ds ++ gs)).args = ds) (h3 : (s.fn H (ds ++ gs)).vars = gs)
    (hb : Below W.heap.size W W') : s.post enc P f false true false false W args (.bool true) W' := by
  have hlt := hW.lt
  have hW' := hW
  obtain ⟨p, q, hA, hV, rfl, hfz, hnd⟩ := hW
  refine ⟨ds, gs, p ++ q, [], p, q, hW', ?_, ?_, ?_, hb.frame _, fun h => by cases h⟩
  · rw [h1, hres]
    exact trodAll_cons_mk (shut_bool htb true) trodAll_mk0
  · rw [h2]
    exact trodAll_below hl hb hps (fun x hx => hlt x (by simp [hx])) hA
  · rw [h3]
    exact Below.trodVars hl hb hvs hV
end
end Go.Proofs.YtelhkfdpkjkpjaaGreat
