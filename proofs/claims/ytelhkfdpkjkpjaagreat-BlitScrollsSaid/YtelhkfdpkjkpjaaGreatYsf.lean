/-
  The proof's lemmas, part 6.
-/
import Derived.Test.YtelhkfdpkjkpjaaGreatYse
import Derived.OpenVars
import Derived.Carry
namespace Go.Proofs.YtelhkfdpkjkpjaaGreat
set_option linter.unusedSimpArgs false
set_option linter.unusedVariables false
section
open Go.RowKit Go.Sort
set_option maxRecDepth 10000
set_option maxHeartbeats 1000000
def pen0 : PenS := ⟨3, 255, 0, 1, 0, 0, 0, false, []⟩
theorem pen0_ok : PenOk pen0 := ⟨by decide, by decide, by decide, .inr rfl, by simp [pen0], by simp [pen0]⟩
theorem row24_p : CallP Tryz.prog 96 [.islc (encL cU [1, 2, 3, 4]) 4 none] (gT 4 1 [1, 2, 3, 4]) := by
  have hmk : CallP Tryz.prog 36 [.agg [U8 3, U8 0, .islc (encL cU [1, 2, 3, 4]) 4 none]] (gT 4 1 [1, 2, 3, 4]) := by
    have := make17_p 3 0 [1, 2, 3, 4] (by omega) (by omega) (by simp) (by intro v hv; simp at hv; omega)
    rw [show padL [1, 2, 3, 4] ((3 % 16 + 1) * (0 % 16 + 1)) = [1, 2, 3, 4] from by decide] at this
    exact this
  refine CallP.intro2 au_pu au_pu ?_
  refine CallT.intro tab_ok Tryz.func96 rfl (by kernel_rfl) (Nat.le_of_ble_eq_true rfl) ?_
  refine VC.reg tab_ok [] rfl ?_
  refine VX.new rfl rfl ?_
  refine VX.nil ?_
  refine VC.reg tab_ok [] rfl ?_
  iterate 2 refine VX.meek rfl ?_
  first | refine VX.sub rfl rfl (by omega) ?_ | refine VX.meek rfl ?_
  refine VX.meek (t := U8 3) rfl ?_
  iterate 2 refine VX.meek rfl ?_
  refine VX.callP0 rfl rfl rfl (hmk) ?_
  refine VX.store rfl rfl rfl rfl rfl au_sS rfl ?_
  refine VX.nil ?_
  refine VC.ret ?_
  exact ⟨trivial, _, rfl, Cv.agg (cv_g (Cv.pure rfl))⟩
theorem plane41 (a b : Int) : inL (bandOf [⟨0, 0, 4, 1⟩]) a b ↔ 0 ≤ a ∧ a < 4 ∧ 0 ≤ b ∧ b < 1 := in_plane0 (w := 4) (h := 1) (by omega) (by omega) a b
theorem ex_px : areaPx (bandOf [⟨0, 0, 4, 1⟩]) (bandOf [⟨0, 0, 4, 1⟩]) ⟨0, 0, 3, 1⟩ 1 0 4 1 4 1 pen0 [1, 2, 3, 4] [1, 2, 3, 4] = [1, 1, 2, 3] := by
  unfold areaPx
  rw [if_neg (by decide), paintL_dec (D := fun x y => decide (1 ≤ x) && decide (x < 4) && decide (0 ≤ y) && decide (y < 1)) (fun x y => by
    rw [areaV_in (Reg.of _) (Reg.of _), want_in (Reg.of _) _ (by omega) (by omega), there_in (Reg.of _) _ (by omega) (by omega), plane41, plane41, one_in, one_in]
    simp only [show countsB (toR ⟨0, 0, 3, 1⟩ 1 0) = true from by decide, show countsB ⟨0, 0, 3, 1⟩ = true from by decide, Bool.and_eq_true, decide_eq_true_eq, true_and]
    unfold Rect.has toR inQ
    dsimp only
    omega)]
  decide +kernel
theorem nil_of {l : List Rect} (hc : Canon l) (h : ∀ x y, ¬ inL l x y) : l = [] := canon_uniq hc canon_nil fun x y => ⟨fun k => absurd k (h x y), fun k => absurd k inL_nil⟩
theorem ex_m : areaM (bandOf [⟨0, 0, 4, 1⟩]) (bandOf [⟨0, 0, 4, 1⟩]) ⟨0, 0, 3, 1⟩ 1 0 4 1 4 1 = [] := by
  refine nil_of (areaM_reg (Reg.of _) (Reg.of _) _ _ _ _ _ _ _).canon fun x y k => ?_
  rw [areaM_in (Reg.of _) (Reg.of _), want_in (Reg.of _) _ (by omega) (by omega), there_in (Reg.of _) _ (by omega) (by omega), plane41, plane41, one_in, one_in] at k
  simp only [show countsB (toR ⟨0, 0, 3, 1⟩ 1 0) = true from by decide, show countsB ⟨0, 0, 3, 1⟩ = true from by decide, true_and] at k
  unfold Rect.has toR inQ at k
  dsimp only at k
  omega
theorem scrA_reg {m : Nat} {clip : List Rect} (hc : Reg m clip) (w h : Nat) : Reg (m + 2) (scrA clip w h) := opL_reg (k := and) rfl hc (Reg.of [⟨0, 0, (w : Int), (h : Int)⟩])
theorem scrT_in {m : Nat} {clip : List Rect} (hc : Reg m clip) {w h : Nat} (hw : w ≤ 128) (hh : h ≤ 128) (dx dy x y : Int) : inL (scrT clip w h dx dy) x y ↔ (inL clip (x - dx) (y - dy) ∧ 0 ≤ x - dx ∧ x - dx < w ∧ 0 ≤ y - dy ∧ y - dy < h) ∧ inQ x y := by
  unfold scrT
  rw [shift_in (scrA_reg hc w h).ok, scrA_in hc hw hh]
theorem scrT_reg {m : Nat} {clip : List Rect} (hc : Reg m clip) (w h : Nat) (dx dy : Int) : Reg (m + 2 + 2) (scrT clip w h dx dy) := (scrA_reg hc w h).shift dx dy
theorem scrV_in {m : Nat} {clip : List Rect} (hc : Reg m clip) (w h : Nat) (dx dy x y : Int) : inL (scrV clip w h dx dy) x y ↔ inL (scrA clip w h) x y ∧ inL (scrT clip w h dx dy) x y := opL_and (scrA_reg hc w h) (scrT_reg hc w h dx dy)
open Classical in
theorem scrM_in {m : Nat} {clip : List Rect} (hc : Reg m clip) (w h : Nat) (dx dy x y : Int) : inL (scrM clip w h dx dy) x y ↔ inL (scrA clip w h) x y ∧ (scrFar w h dx dy ∨ ¬ inL (scrT clip w h dx dy) x y) := by
  unfold scrM
  split
  · rename_i hf; exact ⟨fun k => ⟨k, .inl hf⟩, fun k => k.1⟩
  · rename_i hf
    rw [opL_sub (scrA_reg hc w h) (scrT_reg hc w h dx dy)]
    exact ⟨fun k => ⟨k.1, .inr k.2⟩, fun k => ⟨k.1, k.2.resolve_left hf⟩⟩
open Classical in
theorem scrM_reg {m : Nat} {clip : List Rect} (hc : Reg m clip) (w h : Nat) (dx dy : Int) : Reg (m + m + 10) (scrM clip w h dx dy) := by
  unfold scrM
  split
  · exact (scrA_reg hc w h).mono (by omega)
  · exact (opL_reg (k := subB) rfl (scrA_reg hc w h) (scrT_reg hc w h dx dy)).mono (by omega)
theorem ex_far : ¬ scrFar 4 1 1 0 := by unfold scrFar; simp
theorem ex_spx : scrPx (bandOf [⟨0, 0, 4, 1⟩]) 4 1 1 0 pen0 [1, 2, 3, 4] = [1, 1, 2, 3] := by
  unfold scrPx
  rw [if_neg ex_far, paintL_dec (D := fun x y => decide (1 ≤ x) && decide (x < 4) && decide (0 ≤ y) && decide (y < 1)) (fun x y => by
    rw [scrV_in (Reg.of _), scrA_in (Reg.of _) (by omega) (by omega), scrT_in (Reg.of _) (by omega) (by omega), plane41, plane41]
    unfold inQ
    simp only [Bool.and_eq_true, decide_eq_true_eq]
    omega)]
  decide +kernel
theorem ex_sm (x y : Int) : inL (scrM (bandOf [⟨0, 0, 4, 1⟩]) 4 1 1 0) x y ↔ x = 0 ∧ y = 0 := by
  rw [scrM_in (Reg.of _), scrA_in (Reg.of _) (by omega) (by omega), scrT_in (Reg.of _) (by omega) (by omega), plane41, plane41]
  have := ex_far
  unfold inQ
  constructor
  · rintro ⟨a, b | b⟩
    · exact absurd b this
    · omega
  · intro k; exact ⟨by omega, .inr (by omega)⟩
theorem awake24_p : CallP Tryz.prog 34 [] (BL true) := by
  have hb4 : ∀ v ∈ [(1 : Int), 2, 3, 4], 0 ≤ v ∧ v < 256 := by intro v hv; simp at hv; omega
  have hr : rI ⟨0, 0, 3, 1⟩ := ⟨by unfold i64; dsimp only; omega, by unfold i64; dsimp only; omega, by unfold i64; dsimp only; omega, by unfold i64; dsimp only; omega⟩
  have hwi : CallP Tryz.prog 42 [gT 4 1 [1, 2, 3, 4], regT (bandOf [⟨0, 0, 4, 1⟩]), regT (bandOf [⟨0, 0, 4, 1⟩]), rectT ⟨0, 0, 3, 1⟩, I64 1, I64 0, penT pen0] (.tup [gT 4 1 [1, 1, 2, 3], regT []]) := by
    have k := blitArea_p 4 1 4 1 [1, 2, 3, 4] [1, 2, 3, 4] (bandOf [⟨0, 0, 4, 1⟩]) (bandOf [⟨0, 0, 4, 1⟩]) ⟨0, 0, 3, 1⟩ 1 0 pen0 (by omega) (by omega) rfl hb4 (by omega) (by omega) rfl hb4 (Reg.of _) (Reg.of _) (by simp) hr (by unfold i64; omega) (by unfold i64; omega) pen0_ok ⟨by decide, by decide⟩
    rw [ex_px, ex_m] at k
    exact blitWithin_w 4 1 _ _ _ _ _ _ _ _ _ k
  have hsc : CallP Tryz.prog 43 [gT 4 1 [1, 2, 3, 4], regT (bandOf [⟨0, 0, 4, 1⟩]), I64 1, I64 0, penT pen0] (.tup [gT 4 1 [1, 1, 2, 3], regT (scrM (bandOf [⟨0, 0, 4, 1⟩]) 4 1 1 0)]) := by
    have k := blitScroll_p 4 1 [1, 2, 3, 4] (bandOf [⟨0, 0, 4, 1⟩]) 1 0 pen0 ⟨by omega, by omega⟩ ⟨by omega, by omega⟩ rfl hb4 (Reg.of _) (by simp) pen0_ok ⟨by decide, by decide⟩
    rw [ex_spx] at k
    exact k
  have hM := scrM_reg (Reg.of [⟨0, 0, 4, 1⟩]) 4 1 1 0
  have hMin := ex_sm
  have har := area_any (w := 4) (h := 1) hM (by simp) (by omega) (fun x y k => by have := (hMin x y).1 k; omega)
  have hMl : (scrM (bandOf [⟨0, 0, 4, 1⟩]) 4 1 1 0).length ≤ 1048576 := Nat.le_trans hM.len (by decide)
  have hhas := has_p _ hM.canon hM.ok hMl 0 0
  rw [decide_eq_true ((hMin 0 0).2 ⟨rfl, rfl⟩)] at hhas
  rw [show cntG (fun x y => decide (inL (scrM (bandOf [⟨0, 0, 4, 1⟩]) 4 1 1 0) x y)) 4 1 = cntG (fun x y => decide (x = 0 ∧ y = 0)) 4 1 from cntG_congr fun i j _ _ => decide_eq_decide.2 (hMin i j), show cntG (fun x y => decide (x = 0 ∧ y = 0)) 4 1 = 1 from by decide] at har
  generalize scrM (bandOf [⟨0, 0, 4, 1⟩]) 4 1 1 0 = M at *
  refine CallP.intro2 au_pu au_pu ?_
  refine CallT.intro tab_ok Tryz.func34 rfl (by kernel_rfl) (Nat.le_of_ble_eq_true rfl) ?_
  refine VC.reg tab_ok [] rfl ?_
  refine VX.meek rfl ?_
  refine VX.nil ?_
  refine VC.reg tab_ok [7, 10] rfl ?_
  refine VX.newI rfl rfl ?_
  refine VX.callP rfl rfl row24_p au_wk rfl ?_
  refine VX.meek rfl ?_
  refine VX.newI rfl rfl ?_
  refine VX.callP rfl rfl (of_p [⟨0, 0, 4, 1⟩] (by simp) (fun q hq => by rw [List.mem_singleton] at hq; subst hq; unfold i64; dsimp only; omega)) au_wk rfl ?_
  refine VX.new rfl rfl ?_
  refine VX.new rfl rfl ?_
  refine VX.store rfl rfl rfl rfl rfl au_sS rfl ?_
  refine VX.store rfl rfl rfl rfl rfl au_sS rfl ?_
  refine VX.nil ?_
  refine VC.drwS tab_ok [] [_, _, _, _, _, _, _, _, _, _, _, _] (_) rfl (by kernel_rfl) (by kernel_rfl) (by kernel_rfl) (seen_refl _) ?_
  refine VS.seg (l1 := [_, _, _, _, _, _, _, _, _]) rfl ?_
  first | refine VX.meek rfl ?_ | refine VX.loadI rfl rfl au_l ?_ | refine VX.loadP rfl rfl rfl au_l ?_
  first | refine VX.meek rfl ?_ | refine VX.loadI rfl rfl au_l ?_ | refine VX.loadP rfl rfl rfl au_l ?_
  first | refine VX.meek rfl ?_ | refine VX.loadI rfl rfl au_l ?_ | refine VX.loadP rfl rfl rfl au_l ?_
  refine VX.meek rfl ?_
  refine VX.callP0 rfl rfl rfl (newPen_p) ?_
  refine VX.callP0 rfl rfl rfl (hwi) ?_
  iterate 3 refine VX.meek rfl ?_
  refine VX.nil ?_
  refine VS.hid rfl ?_
  refine VS.seg (l1 := [_]) rfl ?_
  refine VX.new rfl rfl ?_
  refine VX.nil ?_
  refine VS.sto rfl rfl rfl rfl ?_
  refine VS.nil (⟨rfl, Nat.le_of_ble_eq_true rfl, rfl, trivial⟩) ?_
  refine VX.store rfl rfl rfl rfl rfl au_sS rfl ?_
  refine VX.nil ?_
  refine VC.drwS tab_ok [] [_, _, _, _, _, _, _, _, _, _] (_) rfl (by kernel_rfl) (by kernel_rfl) (by kernel_rfl) (seen_refl _) ?_
  refine VS.seg (l1 := [_, _, _, _, _, _, _]) rfl ?_
  first | refine VX.meek rfl ?_ | refine VX.loadI rfl rfl au_l ?_ | refine VX.loadP rfl rfl rfl au_l ?_
  first | refine VX.meek rfl ?_ | refine VX.loadI rfl rfl au_l ?_ | refine VX.loadP rfl rfl rfl au_l ?_
  refine VX.callP0 rfl rfl rfl (newPen_p) ?_
  refine VX.callP0 rfl rfl rfl (hsc) ?_
  iterate 3 refine VX.meek rfl ?_
  refine VX.nil ?_
  refine VS.hid rfl ?_
  refine VS.seg (l1 := [_]) rfl ?_
  refine VX.new rfl rfl ?_
  refine VX.nil ?_
  refine VS.sto rfl rfl rfl rfl ?_
  refine VS.nil (⟨rfl, Nat.le_of_ble_eq_true rfl, rfl, trivial⟩) ?_
  refine VX.store rfl rfl rfl rfl rfl au_sS rfl ?_
  refine VX.nil ?_
  refine VC.reg tab_ok [] rfl ?_
  first | refine VX.meek rfl ?_ | refine VX.loadI rfl rfl au_l ?_ | refine VX.loadP rfl rfl rfl au_l ?_
  refine VX.callP0 rfl rfl rfl (row_p 4 1 [1, 1, 2, 3] 0 (by omega) (by omega) rfl (by omega)) ?_
  iterate 2 refine VX.meek rfl ?_
  refine' VX.merge (d := 34) [_, _, _] rfl ?_ rfl ?_
  rotate_left
  · refine VX.guard rfl rfl (fun hb4_3 => ?_) (fun hb4_3 => ?_)
    · have ghb4_3 := hb4_3
      try simp only [au_std, Bool.not_true, Bool.not_false] at ghb4_3
      first | refine VX.meek rfl ?_ | refine VX.loadI rfl rfl au_l ?_ | refine VX.loadP rfl rfl rfl au_l ?_
      refine VX.guardT rfl rfl hb4_3 ?_
      refine VX.callP0 rfl rfl rfl (empty_p []) ?_
      refine VX.pickA rfl (fun _ => rfl) ?_
      exact VX.nil ⟨rfl, rfl⟩
    · refine VX.guardF rfl rfl hb4_3 ?_
      exact VX.pickA rfl (fun h => absurd (h.symm.trans hb4_3) (by decide)) (VX.nil ⟨rfl, rfl⟩)
  refine VX.meek rfl ?_
  refine' VX.merge (d := 39) [_, _, _, _] rfl ?_ rfl ?_
  rotate_left
  · refine VX.guard rfl rfl (fun hb4_7 => ?_) (fun hb4_7 => ?_)
    · have ghb4_7 := hb4_7
      try simp only [au_std, Bool.not_true, Bool.not_false] at ghb4_7
      first | refine VX.meek rfl ?_ | refine VX.loadI rfl rfl au_l ?_ | refine VX.loadP rfl rfl rfl au_l ?_
      refine VX.guardT rfl rfl hb4_7 ?_
      refine VX.callP0 rfl rfl rfl (row_p 4 1 [1, 1, 2, 3] 0 (by omega) (by omega) rfl (by omega)) ?_
      refine VX.guardT rfl rfl hb4_7 ?_
      refine VX.meek rfl ?_
      refine VX.pickA rfl (fun _ => rfl) ?_
      exact VX.nil ⟨rfl, rfl⟩
    · refine VX.guardF rfl rfl hb4_7 ?_
      refine VX.guardF rfl rfl hb4_7 ?_
      exact VX.pickA rfl (fun h => absurd (h.symm.trans hb4_7) (by decide)) (VX.nil ⟨rfl, rfl⟩)
  refine VX.meek rfl ?_
  refine' VX.merge (d := 44) [_, _, _, _] rfl ?_ rfl ?_
  rotate_left
  · refine VX.guard rfl rfl (fun hb4_12 => ?_) (fun hb4_12 => ?_)
    · have ghb4_12 := hb4_12
      try simp only [au_std, Bool.not_true, Bool.not_false] at ghb4_12
      first | refine VX.meek rfl ?_ | refine VX.loadI rfl rfl au_l ?_ | refine VX.loadP rfl rfl rfl au_l ?_
      refine VX.guardT rfl rfl hb4_12 ?_
      refine VX.callP0 rfl rfl rfl (har) ?_
      refine VX.guardT rfl rfl hb4_12 ?_
      refine VX.meek rfl ?_
      refine VX.pickA rfl (fun _ => rfl) ?_
      exact VX.nil ⟨rfl, rfl⟩
    · refine VX.guardF rfl rfl hb4_12 ?_
      refine VX.guardF rfl rfl hb4_12 ?_
      exact VX.pickA rfl (fun h => absurd (h.symm.trans hb4_12) (by decide)) (VX.nil ⟨rfl, rfl⟩)
  refine VX.meek rfl ?_
  refine' VX.merge (d := 48) [_, _, _] rfl ?_ rfl ?_
  rotate_left
  · refine VX.guard rfl rfl (fun hb4_17 => ?_) (fun hb4_17 => ?_)
    · have ghb4_17 := hb4_17
      try simp only [au_std, Bool.not_true, Bool.not_false] at ghb4_17
      first | refine VX.meek rfl ?_ | refine VX.loadI rfl rfl au_l ?_ | refine VX.loadP rfl rfl rfl au_l ?_
      refine VX.guardT rfl rfl hb4_17 ?_
      refine VX.callP0 rfl rfl rfl (hhas) ?_
      refine VX.pickA rfl (fun _ => rfl) ?_
      exact VX.nil ⟨rfl, rfl⟩
    · refine VX.guardF rfl rfl hb4_17 ?_
      exact VX.pickA rfl (fun h => absurd (h.symm.trans hb4_17) (by decide)) (VX.nil ⟨rfl, rfl⟩)
  refine VX.meek rfl ?_
  refine VX.nil ?_
  refine VC.ret ?_
  exact ⟨trivial, _, rfl, Cv.eq (congrArg BL (by decide +kernel)) rfl⟩
end
section
open Go.RowKit Go.Sort
set_option maxRecDepth 10000
set_option maxHeartbeats 1000000
abbrev shS : Sh := .st [shB, shB, shU, shU]
abbrev shPl : Sh := .st [shU, shU, .sl shU]
abbrev shPc : Sh := .st [shU, shU, shB, shB, .bool, .sl shS]
theorem wt_small {ts : List T} (h : shS.wt ts) : ∃ s : Rect, ts = cS.cells s ∧ smOk s := by
  obtain ⟨a, b, rfl, h1, c, d, rfl, h2, e, f, rfl, h3, g, k, rfl, h4, rfl⟩ := h
  obtain ⟨x, rfl, hx⟩ := wt_i8 h1
  obtain ⟨y, rfl, hy⟩ := wt_i8 h2
  obtain ⟨w, rfl, hw⟩ := wt_u8 h3
  obtain ⟨z, rfl, hz⟩ := wt_u8 h4
  exact ⟨⟨x, y, w, z⟩, rfl, hx.1, hx.2, hy.1, hy.2, hw.1, hw.2, hz.1, hz.2⟩
theorem wt_smalls {ts : List T} (h : (Sh.sl shS).wt ts) : ∃ l : List Rect, ts = [.islc (encL cS l) l.length none] ∧ l.length ≤ maxLen ∧ ∀ s ∈ l, smOk s := wt_sl cS (fun _ => wt_small) h
theorem wt_pl {ts : List T} (h : shPl.wt ts) : ∃ (cw ch : Nat) (P : List Int), ts = [U8 cw, U8 ch, .islc (encL cU P) P.length none] ∧ cw < 256 ∧ ch < 256 ∧ ∀ v ∈ P, 0 ≤ v ∧ v < 256 := wt_canvas h
theorem wt_pc {ts : List T} (h : shPc.wt ts) : ∃ p : PcS, ts = pcC p ∧ p.Ok := by
  obtain ⟨a1, b1, rfl, h1, a2, b2, rfl, h2, a3, b3, rfl, h3, a4, b4, rfl, h4, a5, b5, rfl, h5, a6, b6, rfl, h6, rfl⟩ := h
  obtain ⟨f, rfl, hf⟩ := wt_u8 h1
  obtain ⟨pl, rfl, hp⟩ := wt_u8 h2
  obtain ⟨x, rfl, hx⟩ := wt_i8 h3
  obtain ⟨y, rfl, hy⟩ := wt_i8 h4
  obtain ⟨c, rfl⟩ := h5
  obtain ⟨l, rfl, -, hl⟩ := wt_smalls h6
  exact ⟨⟨f, pl, x, y, c, l⟩, rfl, hf, hp, hx, hy, hl⟩
theorem ofS_p (l : List Rect) (hl : ∀ s ∈ l, smOk s) (hn : l.length ≤ 10) : CallP Tryz.prog 20 [.islc (encL cR (l.map smR)) (l.map smR).length none] (regT (bandOf (l.map smR))) :=
  of_p (l.map smR) (by rw [List.length_map]; omega) (fun r hr => ⟨(smRs_rI hl r hr).1, (smRs_rI hl r hr).2.1⟩)
theorem ofS_reg (l : List Rect) (hn : l.length ≤ 10) : Reg 20 (bandOf (l.map smR)) := (Reg.of (l.map smR)).mono (by rw [List.length_map]; omega)
end
section
open Go.RowKit Go.Sort
set_option maxRecDepth 10000
set_option maxHeartbeats 1000000
def farS (dx dy : Int) : Bool := decide (100 < dx) || decide (dx < -100) || decide (100 < dy) || decide (dy < -100)
theorem farS_no {dx dy : Int} (h : farS dx dy = false) : -100 ≤ dx ∧ dx ≤ 100 ∧ -100 ≤ dy ∧ dy ≤ 100 := by
  unfold farS at h
  simp only [Bool.or_eq_false_iff, decide_eq_false_iff_not] at h
  omega
def okS (clip : List Rect) (w h : Nat) (dx dy i j : Int) : Bool := (!farS dx dy && inB' w h (i - dx) (j - dy)) && decide (inL clip (i - dx) (j - dy))
def lackS (clip : List Rect) (w h : Nat) (dx dy i j : Int) : Bool := decide (inL clip i j) && !okS clip w h dx dy i j
def wantS (clip : List Rect) (w h : Nat) (dx dy f pl : Int) (px : List Int) (i j : Int) : Int := if inL clip i j ∧ okS clip w h dx dy i j = true then mixI f (atG w h px (i - dx) (j - dy)) (atG w h px i j) pl else atG w h px i j
section
variable {w h : Nat} {px : List Int} {clip : List Rect} {dx dy : Int}
theorem ok_iff (hc : ∀ s ∈ clip, smOk s) (hn : clip.length ≤ 10) (hw : w ≤ 16) (hh : h ≤ 16) {i j : Int} (hi : 0 ≤ i ∧ i < w) (hj : 0 ≤ j ∧ j < h) : okS (clip.map smR) w h dx dy i j = true ↔ ¬ scrFar w h dx dy ∧ inL (scrT (bandOf (clip.map smR)) w h dx dy) i j := by
  rw [scrT_in (Reg.of _) (by omega) (by omega), bandOf_in, smR_in hc]
  unfold okS farS scrFar inQ
  simp only [Bool.and_eq_true, Bool.not_eq_true', Bool.or_eq_false_iff, decide_eq_false_iff_not, decide_eq_true_eq, inB_iff]
  constructor
  · rintro ⟨⟨p1, p2⟩, p3⟩; exact ⟨by omega, ⟨p3, by omega⟩, by omega⟩
  · rintro ⟨p1, ⟨p2, p3⟩, p4⟩; exact ⟨⟨by omega, by omega⟩, p2⟩
theorem scrA_iff (hc : ∀ s ∈ clip, smOk s) (hw : w ≤ 16) (hh : h ≤ 16) {i j : Int} (hi : 0 ≤ i ∧ i < w) (hj : 0 ≤ j ∧ j < h) : inL (scrA (bandOf (clip.map smR)) w h) i j ↔ inL (clip.map smR) i j := by
  rw [scrA_in (Reg.of _) (by omega) (by omega), bandOf_in, smR_in hc]
  exact ⟨fun k => k.1, fun k => ⟨k, hi.1, hi.2, hj.1, hj.2⟩⟩
open Classical in
theorem scroll_px (hc : ∀ s ∈ clip, smOk s) (hn : clip.length ≤ 10) (hw : w ≤ 16) (hh : h ≤ 16) (hl : px.length = w * h) (p : PenS) (i j : Nat) (hi : i < w) (hj : j < h) :
    atG w h (scrPx (bandOf (clip.map smR)) w h dx dy p px) i j = wantS (clip.map smR) w h dx dy p.f p.pl px i j := by
  have hin : inB' w h (i : Int) (j : Int) = true := inB_iff.2 ⟨by omega, by omega, by omega, by omega⟩
  have hpi := (place_lt (x := (i : Int)) (y := (j : Int)) (w := w) (h := h) (by omega) (by omega) (by omega) (by omega)).1
  have e1 : ∀ q : List Int, atG w h q i j = q[((j : Int) * w + i).toNat]! := fun q => if_pos hin
  have ho := ok_iff (dx := dx) (dy := dy) (i := i) (j := j) hc hn hw hh ⟨by omega, by omega⟩ ⟨by omega, by omega⟩
  have ha := scrA_iff (i := i) (j := j) hc hw hh ⟨by omega, by omega⟩ ⟨by omega, by omega⟩
  unfold scrPx wantS
  by_cases hf : scrFar w h dx dy
  · rw [if_pos hf, if_neg (fun k => (ho.1 k.2).1 hf)]
  · rw [if_neg hf, e1, paintL_at ⟨by omega, by omega⟩ (by omega) (by rw [hl]; omega)]
    have hv : inL (scrV (bandOf (clip.map smR)) w h dx dy) i j ↔ inL (clip.map smR) i j ∧ okS (clip.map smR) w h dx dy i j = true := by
      rw [scrV_in (Reg.of _), ha, ho]
      exact ⟨fun k => ⟨k.1, hf, k.2⟩, fun k => ⟨k.1, k.2.2⟩⟩
    by_cases hk : inL (clip.map smR) i j ∧ okS (clip.map smR) w h dx dy i j = true
    · rw [if_pos (hv.2 hk), if_pos hk]
      have hs : inB' w h ((i : Int) - dx) ((j : Int) - dy) = true := by
        have := hk.2; unfold okS at this; simp only [Bool.and_eq_true] at this; exact this.1.2
      have e2 : atG w h px ((i : Int) - dx) ((j : Int) - dy) = px[(((j : Int) - dy) * w + ((i : Int) - dx)).toNat]! := if_pos hs
      rw [e2, e1]
      rfl
    · rw [if_neg (fun k => hk (hv.1 k)), if_neg hk, e1]
theorem scroll_lk (hc : ∀ s ∈ clip, smOk s) (hn : clip.length ≤ 10) (hw : w ≤ 16) (hh : h ≤ 16) (i j : Nat) (hi : i < w) (hj : j < h) :
    decide (inL (scrM (bandOf (clip.map smR)) w h dx dy) i j) = lackS (clip.map smR) w h dx dy i j := by
  have ho := ok_iff (dx := dx) (dy := dy) (i := i) (j := j) hc hn hw hh ⟨by omega, by omega⟩ ⟨by omega, by omega⟩
  have ha := scrA_iff (i := i) (j := j) hc hw hh ⟨by omega, by omega⟩ ⟨by omega, by omega⟩
  rw [Bool.eq_iff_iff, decide_eq_true_eq, scrM_in (Reg.of _), ha]
  unfold lackS
  simp only [Bool.and_eq_true, Bool.not_eq_true', decide_eq_true_eq]
  constructor
  · rintro ⟨p1, p2⟩
    refine ⟨p1, ?_⟩
    cases h : okS (clip.map smR) w _ dx dy i j
    · rfl
    · rcases p2 with p2 | p2
      · exact absurd p2 (ho.1 h).1
      · exact absurd (ho.1 h).2 p2
  · rintro ⟨p1, p2⟩
    refine ⟨p1, ?_⟩
    by_cases hf : scrFar w h dx dy
    · exact .inl hf
    · exact .inr (fun q => by rw [ho.2 ⟨hf, q⟩] at p2; cases p2)
end
theorem blitScrolls_all {t0 t1 t2 t3 t4 : List T} (h0 : shPl.wt t0) (h1 : (Sh.sl shS).wt t1) (h2 : shI.wt t2) (h3 : shI.wt t3) (h4 : shPc.wt t4) :
    CallP Tryz.prog 10 [shPl.tree t0, (Sh.sl shS).tree t1, shI.tree t2, shI.tree t3, shPc.tree t4] (BL true) := by
  obtain ⟨cw, ch, P, rfl, hcw, hch, hPb⟩ := wt_pl h0
  obtain ⟨clip, rfl, -, hc⟩ := wt_smalls h1
  obtain ⟨dx, rfl, hdx⟩ := wt_i64 h2
  obtain ⟨dy, rfl, hdy⟩ := wt_i64 h3
  obtain ⟨p, rfl, hp⟩ := wt_pc h4
  clear h0 h1 h2 h3 h4
  have hpf := hp.1
  have hppl := hp.2.1
  show CallP Tryz.prog 10 [plane17T cw ch P, .islc (encL cS clip) clip.length none, I64 dx, I64 dy, .agg (pcC p)] (BL true)
  have hpc : T.pureL (pcC p) = true := by simp only [T.pureL, T.pure, encL_pure]; rfl
  refine CallP.intro2 au_pu au_pu ?_
  refine CallT.intro tab_ok Tryz.func10 rfl (by kernel_rfl) (Nat.le_of_ble_eq_true rfl) ?_
  refine VC.reg tab_ok [5, 9] rfl ?_
  refine VX.newI rfl rfl ?_
  refine VX.newI rfl rfl ?_
  refine VX.meek rfl ?_
  refine VX.nil ?_
  refine VC.view ([(9, .iptr (pcC p) 0)]) ([]) [1, 2, 3, 5] rfl (by refine ⟨[], rfl, by first | trivial | decide, rfl, ?_, ?_⟩ <;> (repeat' first | exact trivial | exact CvB_n | exact CvB_d | refine CvE_app ?_ ?_ | refine CvE_cons rfl ?_ ?_ | refine CvH_cons ?_ ?_ | refine CvB_c rfl ?_ | fail) <;> first | exact au_v | (exact Cv.iptr (CvL.eq rfl hpc))) ?_
  refine VC.seq ?_
  refine VC.reg tab_ok [] rfl ?_
  refine VX.meek rfl ?_
  first | refine VX.meek rfl ?_ | refine VX.loadI rfl rfl au_l ?_ | refine VX.loadP rfl rfl rfl au_l ?_
  iterate 3 refine VX.meek rfl ?_
  refine' VX.merge (d := 28) [_, _, _, _] rfl ?_ rfl ?_
  rotate_left
  · refine VX.guard rfl rfl (fun hb1_4 => ?_) (fun hb1_4 => ?_)
    · have ghb1_4 := hb1_4
      try simp only [au_std, Bool.not_true, Bool.not_false] at ghb1_4
      refine VX.meek rfl ?_
      refine VX.guardT rfl rfl hb1_4 ?_
      refine VX.meek rfl ?_
      refine VX.guardT rfl rfl hb1_4 ?_
      refine VX.meek rfl ?_
      refine VX.pickO rfl (fun _ => rfl) ?_
      exact VX.nil ⟨rfl, rfl⟩
    · refine VX.guardF rfl rfl hb1_4 ?_
      refine VX.guardF rfl rfl hb1_4 ?_
      exact VX.pickO rfl (fun h => absurd (h.symm.trans hb1_4) (by decide)) (VX.nil ⟨rfl, rfl⟩)
  refine VX.meek rfl ?_
  refine' VX.merge (d := 34) [_, _, _, _, _] rfl ?_ rfl ?_
  rotate_left
  · refine VX.guard rfl rfl (fun hb1_9 => ?_) (fun hb1_9 => ?_)
    · have ghb1_9 := hb1_9
      try simp only [au_std, Bool.not_true, Bool.not_false] at ghb1_9
      refine VX.meek rfl ?_
      refine VX.guardT rfl rfl hb1_9 ?_
      first | refine VX.meek rfl ?_ | refine VX.loadI rfl rfl au_l ?_ | refine VX.loadP rfl rfl rfl au_l ?_
      refine VX.guardT rfl rfl hb1_9 ?_
      refine VX.meek rfl ?_
      refine VX.guardT rfl rfl hb1_9 ?_
      refine VX.meek rfl ?_
      refine VX.pickO rfl (fun _ => rfl) ?_
      exact VX.nil ⟨rfl, rfl⟩
    · refine VX.guardF rfl rfl hb1_9 ?_
      refine VX.guardF rfl rfl hb1_9 ?_
      refine VX.guardF rfl rfl hb1_9 ?_
      exact VX.pickO rfl (fun h => absurd (h.symm.trans hb1_9) (by decide)) (VX.nil ⟨rfl, rfl⟩)
  refine VX.nil ?_
  refine VC.cond rfl (fun hc0 => ?_) (fun hc0 => ?_)
  · (try simp only [au_std] at hc0)
    refine VC.reg tab_ok [] rfl ?_
    refine VX.callP0 rfl rfl rfl (awake24_p) ?_
    refine VX.meek rfl ?_
    refine VX.nil ?_
    refine VC.ret ?_
    exact ⟨trivial, _, rfl, Cv.eq (by first | rfl | (simp [*]; done)) rfl⟩
  · (try simp only [au_std] at hc0); have hn : P.length ≤ 300 ∧ clip.length ≤ 10 ∧ p.c.length ≤ 10 := (by omega)
    have mD := make17_p cw ch P hcw hch (by omega) hPb
    have rD := ref17_p cw ch P hcw hch (by omega) hPb
    have dl := padL_len P ((cw % 16 + 1) * (ch % 16 + 1))
    have db := padL_bd hPb ((cw % 16 + 1) * (ch % 16 + 1))
    have w3 : 1 ≤ cw % 16 + 1 ∧ cw % 16 + 1 ≤ 16 := (by omega)
    have w4 : 1 ≤ ch % 16 + 1 ∧ ch % 16 + 1 ≤ 16 := (by omega)
    generalize padL P ((cw % 16 + 1) * (ch % 16 + 1)) = px at *
    generalize cw % 16 + 1 = w at *
    generalize ch % 16 + 1 = h at *
    have rc := ofS_reg clip hn.2.1
    have hm := blitScroll_p w h px (bandOf (clip.map smR)) dx dy (penOf p) ⟨by omega, by omega⟩ ⟨by omega, by omega⟩ dl db rc (by omega) (penOf_ok hp hn.2.2) hppl
    have hM := scrM_reg rc w h dx dy
    have hMin : ∀ a b, inL (scrM (bandOf (clip.map smR)) w h dx dy) a b → 0 ≤ a ∧ a < w ∧ 0 ≤ b ∧ b < h := fun a b k => ((scrA_in rc (by omega) (by omega) a b).1 ((scrM_in rc w h dx dy a b).1 k).1).2
    have hpix := fun i j hi hj => scroll_px (dx := dx) (dy := dy) hc hn.2.1 w3.2 w4.2 dl (penOf p) i j hi hj
    have hlk := fun i j hi hj => scroll_lk (dx := dx) (dy := dy) hc hn.2.1 w3.2 w4.2 i j hi hj
    have hgl : (scrPx (bandOf (clip.map smR)) w h dx dy (penOf p) px).length = w * h := (by unfold scrPx; split; exact dl; exact (paintL_len _ _ _ _).trans dl)
    have hgb : ∀ v ∈ scrPx (bandOf (clip.map smR)) w h dx dy (penOf p) px, 0 ≤ v ∧ v < 256 := (by unfold scrPx; split; exact db; exact paintL_bd db (moveF_bd _ _ _ _))
    generalize scrPx (bandOf (clip.map smR)) w h dx dy (penOf p) px = G at *
    generalize scrM (bandOf (clip.map smR)) w h dx dy = M at *
    have hMl : M.length ≤ 1048576 := Nat.le_trans hM.len (by decide)
    have hdd : h * w ≤ 16 * 16 := Nat.mul_le_mul w4.2 w3.2
    have har := area_any (w := w) (h := h) hM (by omega) (by have := Nat.mul_comm h w; omega) hMin
    have hac : cntG (fun a b => decide (inL M a b)) w h = cntG (fun a b => lackS (clip.map smR) w h dx dy a b) w h := cntG_congr fun i j hi hj => hlk i j hi hj
    rw [hac] at har
    refine VC.skip ?_
    refine VC.drwS tab_ok [] [_, _, _, _, _, _, _, _, _, _, _, _, _, _, _, _] (_) rfl (by kernel_rfl) (by kernel_rfl) (by kernel_rfl) (seen_refl _) ?_
    refine VS.seg (l1 := [_, _, _, _, _, _, _, _, _, _, _, _, _]) rfl ?_
    first | refine VX.meek rfl ?_ | refine VX.loadI rfl rfl au_l ?_ | refine VX.loadP rfl rfl rfl au_l ?_
    refine VX.callP0 rfl rfl rfl (mD) ?_
    refine VX.meek rfl ?_
    refine VX.callP0 rfl rfl rfl (rects17_p clip (by omega) hc) ?_
    refine VX.callP0 rfl rfl rfl (ofS_p clip hc hn.2.1) ?_
    iterate 2 refine VX.meek rfl ?_
    first | refine VX.meek rfl ?_ | refine VX.loadI rfl rfl au_l ?_ | refine VX.loadP rfl rfl rfl au_l ?_
    refine VX.callP0 rfl rfl rfl (pencil_p p hp (by omega)) ?_
    refine VX.callP0 rfl rfl rfl (hm) ?_
    iterate 3 refine VX.meek rfl ?_
    refine VX.nil ?_
    refine VS.hid rfl ?_
    refine VS.seg (l1 := [_]) rfl ?_
    refine VX.new rfl rfl ?_
    refine VX.nil ?_
    refine VS.sto rfl rfl rfl rfl ?_
    refine VS.nil (⟨rfl, Nat.le_of_ble_eq_true rfl, rfl, trivial⟩) ?_
    refine VX.store rfl rfl rfl rfl rfl au_sS rfl ?_
    refine VX.nil ?_
    refine VC.reg tab_ok [] rfl ?_
    first | refine VX.meek rfl ?_ | refine VX.loadI rfl rfl au_l ?_ | refine VX.loadP rfl rfl rfl au_l ?_
    refine VX.callP0 rfl rfl rfl (rD) ?_
    refine VX.new rfl rfl ?_
    refine VX.store rfl rfl rfl rfl rfl au_sS rfl ?_
    refine VX.meek rfl ?_
    refine VX.nil ?_
    refine VC.reg tab_ok [] rfl ?_
    iterate 3 refine VX.meek rfl ?_
    refine' VX.merge (d := 56) [_, _, _] rfl ?_ rfl ?_
    rotate_left
    · refine VX.guard rfl rfl (fun hb5_2 => ?_) (fun hb5_2 => ?_)
      · have ghb5_2 := hb5_2
        try simp only [au_std, Bool.not_true, Bool.not_false] at ghb5_2
        refine VX.meek rfl ?_
        refine VX.guardT rfl rfl hb5_2 ?_
        refine VX.meek rfl ?_
        refine VX.pickO rfl (fun _ => rfl) ?_
        exact VX.nil ⟨rfl, rfl⟩
      · refine VX.guardF rfl rfl hb5_2 ?_
        exact VX.pickO rfl (fun h => absurd (h.symm.trans hb5_2) (by decide)) (VX.nil ⟨rfl, rfl⟩)
    refine VX.meek rfl ?_
    refine' VX.merge (d := 60) [_, _, _] rfl ?_ rfl ?_
    rotate_left
    · refine VX.guard rfl rfl (fun hb5_6 => ?_) (fun hb5_6 => ?_)
      · have ghb5_6 := hb5_6
        try simp only [au_std, Bool.not_true, Bool.not_false] at ghb5_6
        refine VX.meek rfl ?_
        refine VX.guardT rfl rfl hb5_6 ?_
        refine VX.meek rfl ?_
        refine VX.pickO rfl (fun _ => rfl) ?_
        exact VX.nil ⟨rfl, rfl⟩
      · refine VX.guardF rfl rfl hb5_6 ?_
        exact VX.pickO rfl (fun h => absurd (h.symm.trans hb5_6) (by decide)) (VX.nil ⟨rfl, rfl⟩)
    refine VX.meek rfl ?_
    refine' VX.merge (d := 64) [_, _, _] rfl ?_ rfl ?_
    rotate_left
    · refine VX.guard rfl rfl (fun hb5_10 => ?_) (fun hb5_10 => ?_)
      · have ghb5_10 := hb5_10
        try simp only [au_std, Bool.not_true, Bool.not_false] at ghb5_10
        refine VX.meek rfl ?_
        refine VX.guardT rfl rfl hb5_10 ?_
        refine VX.meek rfl ?_
        refine VX.pickO rfl (fun _ => rfl) ?_
        exact VX.nil ⟨rfl, rfl⟩
      · refine VX.guardF rfl rfl hb5_10 ?_
        exact VX.pickO rfl (fun h => absurd (h.symm.trans hb5_10) (by decide)) (VX.nil ⟨rfl, rfl⟩)
    refine VX.meek (t := BL (farS dx dy)) rfl ?_
    refine VX.nil ?_
    refine VC.seq ?_
    refine VC.reg tab_ok [] rfl ?_
    refine VX.meek rfl ?_
    first | refine VX.meek rfl ?_ | refine VX.loadI rfl rfl au_l ?_ | refine VX.loadP rfl rfl rfl au_l ?_
    refine VX.meek rfl ?_
    refine VX.nil ?_
    refine VC.block ?_
    refine VC.loopS (σ := Nat) (fun j => h - j) (fun j => j ≤ h) (fun j => [(67, I64 j), (14, I64 (cntG (fun a b => lackS (clip.map smR) w h dx dy a b) w j)), (11, .ptr 0 0), (12, .ptr 1 0), (13, .ptr 2 0)]) (fun j => [.c [I64 w, I64 h, .islc (encL cU G) G.length none], .c [.islc (encL cR M) M.length none], .c [I64 w, I64 h, .islc (encL cU px) px.length none]]) [1, 2, 3, 9, 15, 66] rfl (0) ?_ ?_ ?_
    · refine ⟨[some 0, some 1, some 2], rfl, by first | trivial | decide, rfl, ?_, ?_⟩ <;> (repeat' first | exact trivial | exact CvB_n | exact CvB_d | refine CvE_app ?_ ?_ | refine CvE_cons rfl ?_ ?_ | refine CvH_cons ?_ ?_ | refine CvB_c rfl ?_ | fail) <;> first | exact au_v | (first | exact CvL.pure rfl | exact CvL.cons (Cv.pure (encL_pure cR _)) CvL.nil | exact cv_g (Cv.pure (encL_pure cU _)) | exact Cv.eq (congrArg I64 (by simp)) rfl)
    · (try dsimp only); omega
    rintro j hj
    refine VC.reg tab_ok [] rfl ?_
    refine VX.meek rfl ?_
    refine VX.nil ?_
    refine VC.seq ?_
    refine VC.cond rfl (fun hc1 => ?_) (fun hc1 => ?_)
    · (try simp only [au_std] at hc1); have hjl : j < h := (by omega); have hcj := cntG_le (fun a b => lackS (clip.map smR) w h dx dy a b) w j; have hjw : j * w ≤ 16 * 16 := Nat.mul_le_mul (by omega) (by omega)
      refine VC.skip ?_
      refine VC.seq ?_
      refine VC.block ?_
      refine VC.reg tab_ok [] rfl ?_
      iterate 2 refine VX.meek rfl ?_
      refine VX.nil ?_
      refine VC.reg tab_ok [] rfl ?_
      refine VX.meek rfl ?_
      first | refine VX.meek rfl ?_ | refine VX.loadI rfl rfl au_l ?_ | refine VX.loadP rfl rfl rfl au_l ?_
      refine VX.meek rfl ?_
      refine VX.nil ?_
      refine VC.block ?_
      refine VC.loopS (σ := Nat) (fun i => w - i) (fun i => i ≤ w) (fun i => [(72, I64 i), (14, I64 ((cntG (fun a b => lackS (clip.map smR) w h dx dy a b) w j + cntR (fun a => lackS (clip.map smR) w h dx dy a j) i : Nat))), (11, .ptr 0 0), (12, .ptr 1 0), (13, .ptr 2 0)]) (fun i => [.c [I64 w, I64 h, .islc (encL cU G) G.length none], .c [.islc (encL cR M) M.length none], .c [I64 w, I64 h, .islc (encL cU px) px.length none]]) [1, 2, 3, 9, 15, 16, 66, 67, 71] rfl (0) ?_ ?_ ?_
      · refine ⟨[some 0, some 1, some 2], rfl, by first | trivial | decide, rfl, ?_, ?_⟩ <;> (repeat' first | exact trivial | exact CvB_n | exact CvB_d | refine CvE_app ?_ ?_ | refine CvE_cons rfl ?_ ?_ | refine CvH_cons ?_ ?_ | refine CvB_c rfl ?_ | fail) <;> first | exact au_v | (first | exact CvL.pure rfl | exact CvL.cons (Cv.pure (encL_pure cR _)) CvL.nil | exact cv_g (Cv.pure (encL_pure cU _)) | exact Cv.eq (congrArg I64 (by simp)) rfl)
      · (try dsimp only); omega
      rintro i hi
      refine VC.reg tab_ok [] rfl ?_
      refine VX.meek rfl ?_
      refine VX.nil ?_
      refine VC.seq ?_
      refine VC.cond rfl (fun hc2 => ?_) (fun hc2 => ?_)
      · (try simp only [au_std] at hc2); have hil : i < w := (by omega); have hci := cntR_le (fun a => lackS (clip.map smR) w h dx dy a j) i; have hlx := hlk i j hil hjl; have hpx := hpix i j hil hjl
        have hcs : cntR (fun a => lackS (clip.map smR) w h dx dy a j) (i + 1) = cntR (fun a => lackS (clip.map smR) w h dx dy a j) i + (if lackS (clip.map smR) w h dx dy i j = true then 1 else 0) := rfl
        have hok : okS (clip.map smR) w h dx dy i j = ((!farS dx dy && inB' w h ((i : Int) - dx) ((j : Int) - dy)) && decide (inL (clip.map smR) ((i : Int) - dx) ((j : Int) - dy))) := rfl
        refine VC.skip ?_
        refine VC.seq ?_
        refine VC.block ?_
        refine VC.reg tab_ok [] rfl ?_
        iterate 2 refine VX.meek rfl ?_
        refine VX.nil ?_
        refine VC.reg tab_ok [] rfl ?_
        first | refine VX.meek rfl ?_ | refine VX.loadI rfl rfl au_l ?_ | refine VX.loadP rfl rfl rfl au_l ?_
        iterate 2 refine VX.meek rfl ?_
        refine VX.callP0 rfl rfl rfl (at17_p w h px i j (by omega) (by omega) dl) ?_
        iterate 2 refine VX.meek rfl ?_
        refine VX.nil ?_
        refine VC.seq ?_
        refine VC.reg tab_ok [] rfl ?_
        iterate 3 refine VX.meek rfl ?_
        refine VX.callP0 rfl rfl rfl (in17_p clip i j (by omega) hc) ?_
        refine VX.nil ?_
        refine VC.cond rfl (fun hc3 => ?_) (fun hc3 => ?_)
        · have hk1 : inL (clip.map smR) i j := of_decide_eq_true hc3
          refine VC.reg tab_ok [] rfl ?_
          iterate 3 refine VX.meek rfl ?_
          refine' VX.merge (d := 94) [_, _, _, _, _, _, _, _, _] rfl ?_ rfl ?_
          rotate_left
          · refine VX.guard rfl rfl (fun hb14_2 => ?_) (fun hb14_2 => ?_)
            · have ghb14_2 := hb14_2
              try simp only [au_std, Bool.not_true, Bool.not_false] at ghb14_2
              have hfr := farS_no (show farS dx dy = false by simpa using hb14_2)
              first | refine VX.meek rfl ?_ | refine VX.loadI rfl rfl au_l ?_ | refine VX.loadP rfl rfl rfl au_l ?_
              refine VX.guardT rfl rfl hb14_2 ?_
              refine VX.meek rfl ?_
              refine VX.guardT rfl rfl hb14_2 ?_
              refine VX.meek rfl ?_
              refine VX.guardT rfl rfl hb14_2 ?_
              first | refine VX.sub rfl rfl (by omega) ?_ | refine VX.meek rfl ?_
              refine VX.guardT rfl rfl hb14_2 ?_
              refine VX.meek rfl ?_
              refine VX.guardT rfl rfl hb14_2 ?_
              refine VX.meek rfl ?_
              refine VX.guardT rfl rfl hb14_2 ?_
              first | refine VX.sub rfl rfl (by omega) ?_ | refine VX.meek rfl ?_
              refine VX.guardT rfl rfl hb14_2 ?_
              refine VX.callP0 rfl rfl rfl (in17g_p w h px ((i : Int) - dx) ((j : Int) - dy)) ?_
              refine VX.pickA rfl (fun _ => rfl) ?_
              exact VX.nil ⟨rfl, rfl⟩
            · refine VX.guardF rfl rfl hb14_2 ?_
              refine VX.guardF rfl rfl hb14_2 ?_
              refine VX.guardF rfl rfl hb14_2 ?_
              refine VX.guardF rfl rfl hb14_2 ?_
              refine VX.guardF rfl rfl hb14_2 ?_
              refine VX.guardF rfl rfl hb14_2 ?_
              refine VX.guardF rfl rfl hb14_2 ?_
              exact VX.pickA rfl (fun h => absurd (h.symm.trans hb14_2) (by decide)) (VX.nil ⟨rfl, rfl⟩)
          refine VX.meek rfl ?_
          refine' VX.merge (d := 104) [_, _, _, _, _, _, _, _, _] rfl ?_ rfl ?_
          rotate_left
          · refine VX.guard rfl rfl (fun hb14_12 => ?_) (fun hb14_12 => ?_)
            · have ghb14_12 := hb14_12
              try simp only [au_std, Bool.not_true, Bool.not_false] at ghb14_12
              have hfr := farS_no (show farS dx dy = false by simp only [Bool.and_eq_true, Bool.not_eq_true'] at hb14_12; exact hb14_12.1)
              refine VX.meek rfl ?_
              refine VX.guardT rfl rfl hb14_12 ?_
              refine VX.meek rfl ?_
              refine VX.guardT rfl rfl hb14_12 ?_
              refine VX.meek rfl ?_
              refine VX.guardT rfl rfl hb14_12 ?_
              first | refine VX.sub rfl rfl (by omega) ?_ | refine VX.meek rfl ?_
              refine VX.guardT rfl rfl hb14_12 ?_
              refine VX.meek rfl ?_
              refine VX.guardT rfl rfl hb14_12 ?_
              refine VX.meek rfl ?_
              refine VX.guardT rfl rfl hb14_12 ?_
              first | refine VX.sub rfl rfl (by omega) ?_ | refine VX.meek rfl ?_
              refine VX.guardT rfl rfl hb14_12 ?_
              refine VX.callP0 rfl rfl rfl (in17_p clip ((i : Int) - dx) ((j : Int) - dy) (by omega) hc) ?_
              refine VX.pickA rfl (fun _ => rfl) ?_
              exact VX.nil ⟨rfl, rfl⟩
            · refine VX.guardF rfl rfl hb14_12 ?_
              refine VX.guardF rfl rfl hb14_12 ?_
              refine VX.guardF rfl rfl hb14_12 ?_
              refine VX.guardF rfl rfl hb14_12 ?_
              refine VX.guardF rfl rfl hb14_12 ?_
              refine VX.guardF rfl rfl hb14_12 ?_
              refine VX.guardF rfl rfl hb14_12 ?_
              exact VX.pickA rfl (fun h => absurd (h.symm.trans hb14_12) (by decide)) (VX.nil ⟨rfl, rfl⟩)
          refine VX.nil ?_
          refine VC.cond rfl (fun hc4 => ?_) (fun hc4 => ?_)
          · have hk2 : okS (clip.map smR) w h dx dy i j = true := hok.trans hc4; have hfr := farS_no (show farS dx dy = false by simp only [Bool.and_eq_true, Bool.not_eq_true'] at hc4; exact hc4.1.1); have hcx : cntR (fun a => lackS (clip.map smR) w h dx dy a j) (i + 1) = cntR (fun a => lackS (clip.map smR) w h dx dy a j) i := (by rw [hcs, if_neg (by unfold lackS; simp [hk2])]; rfl); have hwp : wantS (clip.map smR) w h dx dy (p.f % 16) p.pl px i j = mixI (p.f % 16) (atG w h px ((i : Int) - dx) ((j : Int) - dy)) (atG w h px i j) p.pl := if_pos ⟨hk1, hk2⟩; have hlc : lackS (clip.map smR) w h dx dy i j = false := (by unfold lackS; simp [hk2])
            refine VC.drwN tab_ok [] [_, _, _, _, _, _, _, _, _, _, _, _, _, _, _, _, _] rfl (by kernel_rfl) (by kernel_rfl) ?_
            refine VX.meek rfl ?_
            first | refine VX.meek rfl ?_ | refine VX.loadI rfl rfl au_l ?_ | refine VX.loadP rfl rfl rfl au_l ?_
            refine VX.remU rfl rfl (by omega) (by omega) ?_
            refine VX.meek (t := I64 (p.f % 16)) (by show some (T.v (.int .i64 (IntKind.i64.wrap (p.f % 16))), (none : Option (Nat × List T))) = _; rw [wrap_in (by omega)]) ?_
            first | refine VX.meek rfl ?_ | refine VX.loadI rfl rfl au_l ?_ | refine VX.loadP rfl rfl rfl au_l ?_
            iterate 2 refine VX.meek rfl ?_
            first | refine VX.sub rfl rfl (by omega) ?_ | refine VX.meek rfl ?_
            iterate 2 refine VX.meek rfl ?_
            first | refine VX.sub rfl rfl (by omega) ?_ | refine VX.meek rfl ?_
            refine VX.callP0 rfl rfl rfl (at17_p w h px ((i : Int) - dx) ((j : Int) - dy) (by omega) (by omega) dl) ?_
            iterate 2 refine VX.meek rfl ?_
            first | refine VX.meek rfl ?_ | refine VX.loadI rfl rfl au_l ?_ | refine VX.loadP rfl rfl rfl au_l ?_
            refine VX.callP0 rfl rfl rfl (mix_p (p.f % 16) (atG w h px ((i : Int) - dx) ((j : Int) - dy)) (atG w h px i j) p.pl (atG_bd db _ _) (atG_bd db _ _) (by omega)) ?_
            refine VX.meek rfl ?_
            refine VX.nil ?_
            refine VX.nil ?_
            refine VC.reg tab_ok [] rfl ?_
            first | refine VX.meek rfl ?_ | refine VX.loadI rfl rfl au_l ?_ | refine VX.loadP rfl rfl rfl au_l ?_
            iterate 2 refine VX.meek rfl ?_
            refine VX.callP0 rfl rfl rfl (gat_p w h G i j (by omega) (by omega) hgl hgb) ?_
            iterate 3 refine VX.meek rfl ?_
            refine' VX.merge (d := 136) [_, _, _, _, _, _, _] rfl ?_ rfl ?_
            rotate_left
            · refine VX.guard rfl rfl (fun hb18_6 => ?_) (fun hb18_6 => ?_)
              · have ghb18_6 := hb18_6
                try simp only [au_std, Bool.not_true, Bool.not_false] at ghb18_6
                first | refine VX.meek rfl ?_ | refine VX.loadI rfl rfl au_l ?_ | refine VX.loadP rfl rfl rfl au_l ?_
                refine VX.guardT rfl rfl hb18_6 ?_
                refine VX.meek rfl ?_
                refine VX.guardT rfl rfl hb18_6 ?_
                refine VX.meek rfl ?_
                refine VX.guardT rfl rfl hb18_6 ?_
                refine VX.callP0 rfl rfl rfl (has_p M hM.canon hM.ok hMl i j) ?_
                refine VX.guardT rfl rfl hb18_6 ?_
                refine VX.meek rfl ?_
                refine VX.guardT rfl rfl hb18_6 ?_
                refine VX.meek rfl ?_
                refine VX.pickO rfl (fun _ => rfl) ?_
                exact VX.nil ⟨rfl, rfl⟩
              · refine VX.guardF rfl rfl hb18_6 ?_
                refine VX.guardF rfl rfl hb18_6 ?_
                refine VX.guardF rfl rfl hb18_6 ?_
                refine VX.guardF rfl rfl hb18_6 ?_
                refine VX.guardF rfl rfl hb18_6 ?_
                exact VX.pickO rfl (fun h => absurd (h.symm.trans hb18_6) (by decide)) (VX.nil ⟨rfl, rfl⟩)
            refine VX.nil ?_
            refine VC.cond rfl (fun hc5 => ?_) (fun hc5 => ?_)
            · exact absurd hc5 (by rw [hpx, show wantS (clip.map smR) w h dx dy (penOf p).f (penOf p).pl px i j = _ from hwp, hlx, hlc]; simp)
            · (try simp only [au_std] at hc5)
              refine VC.skip ?_
              refine VC.regN tab_ok [] rfl ?_
              first | refine VX.add rfl rfl (by omega) ?_ | refine VX.meek rfl ?_
              refine VX.meek rfl ?_
              refine VX.nil ?_
              refine ⟨i + 1, by (try dsimp only); omega, ?_, (by refine ⟨[some 0, some 1, some 2], rfl, by first | trivial | decide, rfl, ?_, ?_⟩ <;> (repeat' first | exact trivial | exact CvB_n | exact CvB_d | refine CvE_app ?_ ?_ | refine CvE_cons rfl ?_ ?_ | refine CvH_cons ?_ ?_ | refine CvB_c rfl ?_ | fail) <;> first | exact au_v | (first | exact CvL.pure rfl | exact CvL.cons (Cv.pure (encL_pure cR _)) CvL.nil | exact cv_g (Cv.pure (encL_pure cU _)) | exact Cv.eq (congrArg I64 (by omega)) rfl))⟩
              (try dsimp only); omega
          · have hk2 : okS (clip.map smR) w h dx dy i j = false := hok.trans hc4; have hlc : lackS (clip.map smR) w h dx dy i j = true := (by unfold lackS; simp [hk1, hk2]); have hcx : cntR (fun a => lackS (clip.map smR) w h dx dy a j) (i + 1) = cntR (fun a => lackS (clip.map smR) w h dx dy a j) i + 1 := (by rw [hcs, if_pos hlc]); have hwp : wantS (clip.map smR) w h dx dy (p.f % 16) p.pl px i j = atG w h px i j := if_neg (fun k => by rw [hk2] at k; cases k.2)
            refine VC.reg tab_ok [] rfl ?_
            refine VX.meek rfl ?_
            refine VX.nil ?_
            refine VC.regN tab_ok [] rfl ?_
            refine VX.meek rfl ?_
            first | refine VX.add rfl rfl (by omega) ?_ | refine VX.meek rfl ?_
            refine VX.meek rfl ?_
            refine VX.nil ?_
            refine VC.reg tab_ok [] rfl ?_
            first | refine VX.meek rfl ?_ | refine VX.loadI rfl rfl au_l ?_ | refine VX.loadP rfl rfl rfl au_l ?_
            iterate 2 refine VX.meek rfl ?_
            refine VX.callP0 rfl rfl rfl (gat_p w h G i j (by omega) (by omega) hgl hgb) ?_
            iterate 3 refine VX.meek rfl ?_
            refine' VX.merge (d := 136) [_, _, _, _, _, _, _] rfl ?_ rfl ?_
            rotate_left
            · refine VX.guard rfl rfl (fun hb18_6 => ?_) (fun hb18_6 => ?_)
              · have ghb18_6 := hb18_6
                try simp only [au_std, Bool.not_true, Bool.not_false] at ghb18_6
                first | refine VX.meek rfl ?_ | refine VX.loadI rfl rfl au_l ?_ | refine VX.loadP rfl rfl rfl au_l ?_
                refine VX.guardT rfl rfl hb18_6 ?_
                refine VX.meek rfl ?_
                refine VX.guardT rfl rfl hb18_6 ?_
                refine VX.meek rfl ?_
                refine VX.guardT rfl rfl hb18_6 ?_
                refine VX.callP0 rfl rfl rfl (has_p M hM.canon hM.ok hMl i j) ?_
                refine VX.guardT rfl rfl hb18_6 ?_
                refine VX.meek rfl ?_
                refine VX.guardT rfl rfl hb18_6 ?_
                refine VX.meek rfl ?_
                refine VX.pickO rfl (fun _ => rfl) ?_
                exact VX.nil ⟨rfl, rfl⟩
              · refine VX.guardF rfl rfl hb18_6 ?_
                refine VX.guardF rfl rfl hb18_6 ?_
                refine VX.guardF rfl rfl hb18_6 ?_
                refine VX.guardF rfl rfl hb18_6 ?_
                refine VX.guardF rfl rfl hb18_6 ?_
                exact VX.pickO rfl (fun h => absurd (h.symm.trans hb18_6) (by decide)) (VX.nil ⟨rfl, rfl⟩)
            refine VX.nil ?_
            refine VC.cond rfl (fun hc5 => ?_) (fun hc5 => ?_)
            · exact absurd hc5 (by rw [hpx, show wantS (clip.map smR) w h dx dy (penOf p).f (penOf p).pl px i j = _ from hwp, hlx, hlc]; simp)
            · (try simp only [au_std] at hc5)
              refine VC.skip ?_
              refine VC.regN tab_ok [] rfl ?_
              first | refine VX.add rfl rfl (by omega) ?_ | refine VX.meek rfl ?_
              refine VX.meek rfl ?_
              refine VX.nil ?_
              refine ⟨i + 1, by (try dsimp only); omega, ?_, (by refine ⟨[some 0, some 1, some 2], rfl, by first | trivial | decide, rfl, ?_, ?_⟩ <;> (repeat' first | exact trivial | exact CvB_n | exact CvB_d | refine CvE_app ?_ ?_ | refine CvE_cons rfl ?_ ?_ | refine CvH_cons ?_ ?_ | refine CvB_c rfl ?_ | fail) <;> first | exact au_v | (first | exact CvL.pure rfl | exact CvL.cons (Cv.pure (encL_pure cR _)) CvL.nil | exact cv_g (Cv.pure (encL_pure cU _)) | exact Cv.eq (congrArg I64 (by omega)) rfl))⟩
              (try dsimp only); omega
        · have hk1 : ¬ inL (clip.map smR) i j := of_decide_eq_false hc3; have hlc : lackS (clip.map smR) w h dx dy i j = false := (by unfold lackS; simp [hk1]); have hcx : cntR (fun a => lackS (clip.map smR) w h dx dy a j) (i + 1) = cntR (fun a => lackS (clip.map smR) w h dx dy a j) i := (by rw [hcs, if_neg (by rw [hlc]; decide)]; rfl); have hwp : wantS (clip.map smR) w h dx dy (p.f % 16) p.pl px i j = atG w h px i j := if_neg (fun k => hk1 k.1)
          refine VC.skip ?_
          refine VC.reg tab_ok [] rfl ?_
          first | refine VX.meek rfl ?_ | refine VX.loadI rfl rfl au_l ?_ | refine VX.loadP rfl rfl rfl au_l ?_
          iterate 2 refine VX.meek rfl ?_
          refine VX.callP0 rfl rfl rfl (gat_p w h G i j (by omega) (by omega) hgl hgb) ?_
          iterate 3 refine VX.meek rfl ?_
          refine' VX.merge (d := 136) [_, _, _, _, _, _, _] rfl ?_ rfl ?_
          rotate_left
          · refine VX.guard rfl rfl (fun hb18_6 => ?_) (fun hb18_6 => ?_)
            · have ghb18_6 := hb18_6
              try simp only [au_std, Bool.not_true, Bool.not_false] at ghb18_6
              first | refine VX.meek rfl ?_ | refine VX.loadI rfl rfl au_l ?_ | refine VX.loadP rfl rfl rfl au_l ?_
              refine VX.guardT rfl rfl hb18_6 ?_
              refine VX.meek rfl ?_
              refine VX.guardT rfl rfl hb18_6 ?_
              refine VX.meek rfl ?_
              refine VX.guardT rfl rfl hb18_6 ?_
              refine VX.callP0 rfl rfl rfl (has_p M hM.canon hM.ok hMl i j) ?_
              refine VX.guardT rfl rfl hb18_6 ?_
              refine VX.meek rfl ?_
              refine VX.guardT rfl rfl hb18_6 ?_
              refine VX.meek rfl ?_
              refine VX.pickO rfl (fun _ => rfl) ?_
              exact VX.nil ⟨rfl, rfl⟩
            · refine VX.guardF rfl rfl hb18_6 ?_
              refine VX.guardF rfl rfl hb18_6 ?_
              refine VX.guardF rfl rfl hb18_6 ?_
              refine VX.guardF rfl rfl hb18_6 ?_
              refine VX.guardF rfl rfl hb18_6 ?_
              exact VX.pickO rfl (fun h => absurd (h.symm.trans hb18_6) (by decide)) (VX.nil ⟨rfl, rfl⟩)
          refine VX.nil ?_
          refine VC.cond rfl (fun hc5 => ?_) (fun hc5 => ?_)
          · exact absurd hc5 (by rw [hpx, show wantS (clip.map smR) w h dx dy (penOf p).f (penOf p).pl px i j = _ from hwp, hlx, hlc]; simp)
          · (try simp only [au_std] at hc5)
            refine VC.skip ?_
            refine VC.regN tab_ok [] rfl ?_
            first | refine VX.add rfl rfl (by omega) ?_ | refine VX.meek rfl ?_
            refine VX.meek rfl ?_
            refine VX.nil ?_
            refine ⟨i + 1, by (try dsimp only); omega, ?_, (by refine ⟨[some 0, some 1, some 2], rfl, by first | trivial | decide, rfl, ?_, ?_⟩ <;> (repeat' first | exact trivial | exact CvB_n | exact CvB_d | refine CvE_app ?_ ?_ | refine CvE_cons rfl ?_ ?_ | refine CvH_cons ?_ ?_ | refine CvB_c rfl ?_ | fail) <;> first | exact au_v | (first | exact CvL.pure rfl | exact CvL.cons (Cv.pure (encL_pure cR _)) CvL.nil | exact cv_g (Cv.pure (encL_pure cU _)) | exact Cv.eq (congrArg I64 (by omega)) rfl))⟩
            (try dsimp only); omega
      · (try simp only [au_std] at hc2); have hid : i = w := (by omega)
        refine VC.exit ?_
        refine VC.regN tab_ok [] rfl ?_
        first | refine VX.add rfl rfl (by omega) ?_ | refine VX.meek rfl ?_
        refine VX.meek rfl ?_
        refine VX.nil ?_
        refine ⟨j + 1, by (try dsimp only); omega, ?_, (by refine ⟨[some 0, some 1, some 2], rfl, by first | trivial | decide, rfl, ?_, ?_⟩ <;> (repeat' first | exact trivial | exact CvB_n | exact CvB_d | refine CvE_app ?_ ?_ | refine CvE_cons rfl ?_ ?_ | refine CvH_cons ?_ ?_ | refine CvB_c rfl ?_ | fail) <;> first | exact au_v | (first | exact CvL.pure rfl | exact CvL.cons (Cv.pure (encL_pure cR _)) CvL.nil | exact cv_g (Cv.pure (encL_pure cU _)) | exact Cv.eq (congrArg I64 (by omega)) rfl | exact Cv.eq (by rw [hid]; rfl) rfl))⟩
        (try dsimp only); omega
    · (try simp only [au_std] at hc1); have hjd : j = h := (by omega); rw [hjd]
      refine VC.exit ?_
      refine VC.reg tab_ok [] rfl ?_
      first | refine VX.meek rfl ?_ | refine VX.loadI rfl rfl au_l ?_ | refine VX.loadP rfl rfl rfl au_l ?_
      refine VX.callP0 rfl rfl rfl (har) ?_
      iterate 3 refine VX.meek rfl ?_
      refine' VX.merge (d := 145) [_, _] rfl ?_ rfl ?_
      rotate_left
      · refine VX.guard rfl rfl (fun hb22_4 => ?_) (fun hb22_4 => ?_)
        · have ghb22_4 := hb22_4
          try simp only [au_std, Bool.not_true, Bool.not_false] at ghb22_4
          refine VX.callP0 rfl rfl rfl (awake24_p) ?_
          refine VX.pickA rfl (fun _ => rfl) ?_
          exact VX.nil ⟨rfl, rfl⟩
        · exact VX.pickA rfl (fun h => absurd (h.symm.trans hb22_4) (by decide)) (VX.nil ⟨rfl, rfl⟩)
      refine VX.meek rfl ?_
      refine VX.nil ?_
      refine VC.ret ?_
      exact ⟨trivial, _, rfl, Cv.eq (congrArg BL (by simp)) rfl⟩
end
section
open Go.ChangeShapes Go.WideShapes Go.ChangeAt Go.RowKit Go.WideElems
def rowed (P : Program) (ts : List TypeId) : Bool := ts.all fun t => P.readableRec t && decide (t < P.types.size)
theorem trodAll_below {H : Type} {enc : TypeId × Value → H} {P : Program} (hl : laidOutB P = true) {W W' : World} (hb : Below W.heap.size W W') :
    ∀ {ts : List TypeId} {vs : List Value} {ds : List (DataW H)} {p : List MemPlace}, rowed P ts = true → (∀ x ∈ p, x.block < W.heap.size) →
      DataW.TrodAll enc P W 0 (fun _ => true) true ts vs ds p → DataW.TrodAll enc P W' 0 (fun b => decide (b < W.heap.size)) true ts vs ds p
  | [], _, _, _, _, _, h => by
    obtain ⟨rfl, rfl, rfl⟩ := trodAll_nil h
    exact trodAll_mk0
  | t :: ts, _, _, _, hr, hlt, h => by
    obtain ⟨v, vs1, d, ds1, a, b, rfl, rfl, rfl, h1, h2⟩ := trodAll_cons h
    simp only [rowed, List.all_cons, Bool.and_eq_true, decide_eq_true_eq] at hr
    refine trodAll_cons_mk (Below.trod hl hr.1.1 hr.1.2 h1 hb (fun x hx => hlt x (by simp [hx]))) ?_
    exact trodAll_below hl hb (by simpa [rowed] using hr.2) (fun x hx => hlt x (by simp [hx])) h2
theorem post_law {H : Type} {enc : TypeId × Value → H} {P : Program} {f : Func} {s : ChangeSpec} {W W' : World} {args : Array Value} {ds gs : List (DataW H)} {before : List MemPlace} {tb : TypeId}
    (hl : laidOutB P = true) (hps : rowed P f.params.toList = true) (hvs : varsRowed P s.vars = true) (hres : f.resultTypes = #[tb]) (htb : P.underlying tb = some .bool)
    (hW : DataW.Whole enc P f.params.toList s.vars false W args.toList ds gs before)
    (h1 : (s.fn H (ds ++ gs)).results = [.lit (.bool true)]) (h2 : (s.fn H (ds ++ gs)).args = ds) (h3 : (s.fn H (ds ++ gs)).vars = gs)
    (hb : Below W.heap.size W W') : s.post enc P f false true false false W args (.bool true) W' := by
  have hlt := hW.lt
  have hW' := hW
  obtain ⟨p, q, hA, hV, rfl, hfz, hnd⟩ := hW
  refine ⟨ds, gs, p ++ q, [], p, q, hW', ?_, ?_, ?_, hb.frame _, fun h => by cases h⟩
  · rw [h1, hres]
    exact trodAll_cons_mk (shut_bool htb true) trodAll_mk0
  · rw [h2]
    exact trodAll_below hl hb hps (fun x hx => hlt x (by simp [hx])) hA
  · rw [h3]
    exact Below.trodVars hl hb hvs hV
end
end Go.Proofs.YtelhkfdpkjkpjaaGreat
