/-
  The proof's lemmas, part 5.
-/
import Derived.Test.YtjnomaiejmgedaaDoorMkd
import Derived.LaidSub
import Derived.MakeChecks
import Derived.OpenVars
import Derived.Carry
namespace Go.Proofs.YtjnomaiejmgedaaDoor
set_option linter.unusedSimpArgs false
set_option linter.unusedVariables false
section
open Go.RowKit
set_option maxRecDepth 10000
set_option maxHeartbeats 2000000

/- the sort of nothing -/
theorem len64_0 : CallP Tryd.prog 140 [.v (.int .u64 0)] (I64 0) := by
  refine CallP.intro2 au_pu au_pu ?_
  refine CallT.intro tab_ok Tryd.func140 rfl (by kernel_rfl) (Nat.le_of_ble_eq_true rfl) ?_
  refine VC.reg tab_ok [] rfl ?_
  refine VX.meek rfl ?_
  refine VX.nil ?_
  refine VC.seq ?_
  refine VC.reg tab_ok [] rfl ?_
  iterate 2 refine VX.meek rfl ?_
  refine VX.nil ?_
  refine VC.condF rfl ?_
  refine VC.skip ?_
  refine VC.seq ?_
  refine VC.reg tab_ok [] rfl ?_
  iterate 2 refine VX.meek rfl ?_
  refine VX.nil ?_
  refine VC.condF rfl ?_
  refine VC.skip ?_
  refine VC.seq ?_
  refine VC.reg tab_ok [] rfl ?_
  iterate 2 refine VX.meek rfl ?_
  refine VX.nil ?_
  refine VC.condF rfl ?_
  refine VC.skip ?_
  refine VC.reg tab_ok [] rfl ?_
  iterate 2 refine VX.meek rfl ?_
  first | refine VX.meek rfl ?_ | refine VX.bytes tab_ok rfl rfl rfl rfl rfl rfl rfl rfl (by first | omega | (dsimp only; omega) | assumption) ?_
  first | refine VX.idxS rfl rfl rfl rfl rfl (by assumption) ?_ | refine VX.meek rfl ?_
  first | refine VX.meek rfl ?_ | refine VX.bytes tab_ok rfl rfl rfl rfl rfl rfl rfl rfl (by first | omega | (dsimp only; omega) | assumption) ?_
  first | refine VX.add rfl rfl (by omega) ?_ | refine VX.meek rfl ?_
  refine VX.meek rfl ?_
  refine VX.nil ?_
  refine VC.ret ?_
  exact ⟨trivial, _, rfl, Cv.eq (by first | rfl | (simp [*]; done)) rfl⟩
theorem len_0 : CallP Tryd.prog 99 [.v (.int .u64 0)] (I64 0) := by
  refine CallP.intro2 au_pu au_pu ?_
  refine CallT.intro tab_ok Tryd.func99 rfl (by kernel_rfl) (Nat.le_of_ble_eq_true rfl) ?_
  refine VC.reg tab_ok [] rfl ?_
  refine VX.meek rfl ?_
  refine VX.nil ?_
  refine VC.seq ?_
  refine VC.condF rfl ?_
  refine VC.skip ?_
  refine VC.reg tab_ok [] rfl ?_
  refine VX.meek rfl ?_
  refine VX.callP0 rfl rfl rfl (len64_0) ?_
  refine VX.meek rfl ?_
  refine VX.nil ?_
  refine VC.ret ?_
  exact ⟨trivial, _, rfl, Cv.eq (by first | rfl | (simp [*]; done)) rfl⟩
theorem insID_0 : CallP Tryd.prog 130 [NIL, I64 0, I64 0] (.tup []) := by
  refine CallP.intro2 au_pu au_pu ?_
  refine CallT.intro tab_ok Tryd.func130 rfl (by kernel_rfl) (Nat.le_of_ble_eq_true rfl) ?_
  refine VC.reg tab_ok [] rfl ?_
  refine VX.meek rfl ?_
  first | refine VX.add rfl rfl (by omega) ?_ | refine VX.meek rfl ?_
  refine VX.meek rfl ?_
  refine VX.nil ?_
  refine VC.block ?_
  refine VC.loopS (σ := Unit) (fun _ => 0) (fun _ => True) (fun _ => [(6, I64 1), (2, I64 0)]) (fun _ => []) [0, 1] rfl (()) ?_ ?_ ?_
  · refine ⟨[], rfl, by first | trivial | decide, by first | rfl | (simp only [noO, Bool.and_true, Bool.and_eq_true]; first | assumption | (refine ⟨?_, ?_⟩ <;> assumption)) | (simp only [noO, *, Bool.and_true, Bool.true_and, Bool.and_self]; done), ?_, ?_⟩ <;> (repeat' first | exact trivial | exact CvB_n | exact CvB_d | exact CvB_o rfl | refine CvE_app ?_ ?_ | refine CvE_cons rfl ?_ ?_ | refine CvH_cons ?_ ?_ | refine CvB_c rfl ?_ | fail) <;> first | exact au_v | (skip)
  · trivial
  rintro _ _
  refine VC.seq ?_
  refine VC.reg tab_ok [] rfl ?_
  iterate 3 refine VX.meek rfl ?_
  refine VX.nil ?_
  refine VC.condF rfl ?_
  refine VC.exit ?_
  exact ⟨trivial, _, rfl, Cv.eq (by first | rfl | (simp [*]; done)) rfl⟩
theorem pdqID_0 : CallP Tryd.prog 98 [NIL, I64 0, I64 0, I64 0] (.tup []) := by
  refine CallP.intro2 au_pu au_pu ?_
  refine CallT.intro tab_ok Tryd.func98 rfl (by kernel_rfl) (Nat.le_of_ble_eq_true rfl) ?_
  refine VC.reg tab_ok [] rfl ?_
  refine VX.meek rfl ?_
  refine VX.nil ?_
  refine VC.reg tab_ok [] rfl ?_
  refine VX.meek rfl ?_
  refine VX.nil ?_
  refine VC.block ?_
  refine VC.loopS (σ := Unit) (fun _ => 0) (fun _ => True) (fun _ => [(0, NIL), (1, I64 0), (2, I64 0)]) (fun _ => []) [] rfl (()) ?_ ?_ ?_
  · refine ⟨[], rfl, by first | trivial | decide, by first | rfl | (simp only [noO, Bool.and_true, Bool.and_eq_true]; first | assumption | (refine ⟨?_, ?_⟩ <;> assumption)) | (simp only [noO, *, Bool.and_true, Bool.true_and, Bool.and_self]; done), ?_, ?_⟩ <;> (repeat' first | exact trivial | exact CvB_n | exact CvB_d | exact CvB_o rfl | refine CvE_app ?_ ?_ | refine CvE_cons rfl ?_ ?_ | refine CvH_cons ?_ ?_ | refine CvB_c rfl ?_ | fail) <;> first | exact au_v | (skip)
  · trivial
  rintro _ _
  refine VC.block ?_
  refine VC.reg tab_ok [] rfl ?_
  iterate 2 refine VX.meek rfl ?_
  first | refine VX.sub rfl rfl (by omega) ?_ | refine VX.meek rfl ?_
  refine VX.meek rfl ?_
  refine VX.nil ?_
  refine VC.seq ?_
  refine VC.reg tab_ok [] rfl ?_
  iterate 2 refine VX.meek rfl ?_
  refine VX.nil ?_
  refine VC.condT rfl ?_
  refine VC.reg tab_ok [] rfl ?_
  iterate 3 refine VX.meek rfl ?_
  refine VX.callP0 rfl rfl rfl (insID_0) ?_
  refine VX.nil ?_
  refine VC.ret ?_
  exact ⟨trivial, _, rfl, Cv.eq (by first | rfl | (simp [*]; done)) rfl⟩
theorem sortID_0 : CallP Tryd.prog 65 [NIL] (.tup []) := by
  refine CallP.intro2 au_pu au_pu ?_
  refine CallT.intro tab_ok Tryd.func65 rfl (by kernel_rfl) (Nat.le_of_ble_eq_true rfl) ?_
  refine VC.reg tab_ok [] rfl ?_
  iterate 3 refine VX.meek rfl ?_
  refine VX.nil ?_
  refine VC.regN tab_ok [] rfl ?_
  iterate 3 refine VX.meek rfl ?_
  first | refine VX.meek rfl ?_ | refine VX.bytes tab_ok rfl rfl rfl rfl rfl rfl rfl rfl (by first | omega | (dsimp only; omega) | assumption) ?_
  refine VX.callP0 rfl rfl rfl (len_0) ?_
  refine VX.callP0 rfl rfl rfl (pdqID_0) ?_
  refine VX.nil ?_
  exact ⟨trivial, _, rfl, Cv.eq (by first | rfl | (simp [*]; done)) rfl⟩
theorem frames_0 (m : Mg) (hf : m.fresh = false) (hF : m.F = []) : CallP Tryd.prog 32 [mgT m] NIL := by
  have hp3 := mpF_pure m
  have hp4 := mpW_pure m
  have hs := sortID_0
  have hpi0 : (iterP none [] []).pi = true := rfl
  refine CallP.intro2 au_pu au_pu ?_
  refine CallT.intro tab_ok Tryd.func32 rfl (by kernel_rfl) (Nat.le_of_ble_eq_true rfl) ?_
  refine VC.reg tab_ok [1] rfl ?_
  refine VX.newI rfl rfl ?_
  refine VX.meek rfl ?_
  refine VX.nil ?_
  refine VC.reg tab_ok [] rfl ?_
  refine VX.meek rfl ?_
  refine VX.nil ?_
  refine VC.seq ?_
  refine VC.reg tab_ok [] rfl ?_
  refine VX.meek rfl ?_
  refine VX.meek (t := .mp [] []) (by show some (mpF m, (none : Option (Nat × List T))) = _; rw [mpF_eq hf, hF]; rfl) ?_
  refine VX.range tab_ok rfl rfl rfl (.inl rfl) ?_
  refine VX.nil ?_
  refine VC.block ?_
  refine VC.loopS (σ := Nat) (fun k => 1 - k) (fun k => k ≤ 0) (fun _ => [(7, .ptr 0 0), (3, NIL)]) (fun _ => [.o (iterP none [] [])]) [] rfl (0) ?_ ?_ ?_
  · refine ⟨[some 0], rfl, by first | trivial | decide, by first | rfl | (simp only [noO, Bool.and_true, Bool.and_eq_true]; first | assumption | (refine ⟨?_, ?_⟩ <;> assumption)) | (simp only [noO, *, Bool.and_true, Bool.true_and, Bool.and_self]; done), ?_, ?_⟩ <;> (repeat' first | exact trivial | exact CvB_n | exact CvB_d | exact CvB_o rfl | refine CvE_app ?_ ?_ | refine CvE_cons rfl ?_ ?_ | refine CvH_cons ?_ ?_ | refine CvB_c rfl ?_ | fail) <;> first | exact au_v | (skip)
  · (try dsimp only); omega
  rintro k hk
  refine VC.reg tab_ok [] rfl ?_
  refine VX.next rfl rfl (fun hz3 => ?_) (fun i3 k3 t3 hk3 ht3 => ?_)
  · skip
    refine VX.meek rfl ?_
    refine VX.nil ?_
    refine VC.seq ?_
    refine VC.condF rfl ?_
    refine VC.exit ?_
    refine VC.reg tab_ok [] rfl ?_
    refine VX.meek rfl ?_
    refine VX.callP0 rfl rfl rfl (hs) ?_
    refine VX.nil ?_
    refine VC.reg tab_ok [] rfl ?_
    iterate 2 refine VX.meek rfl ?_
    refine VX.nil ?_
    refine VC.ret ?_
    exact ⟨trivial, _, rfl, Cv.eq (by first | rfl | (simp [*]; done)) rfl⟩
  · exact absurd hk3 (by simp)
/- requests compared -/
theorem eqI_p (a : List Int) (ha : a.length ≤ 1000000) : CallP Tryd.prog 100 [cIf a, cIf a] (BL true) := by
  refine CallP.intro2 au_pu au_pu ?_
  refine CallT.intro tab_ok Tryd.func100 rfl (by kernel_rfl) (Nat.le_of_ble_eq_true rfl) ?_
  refine VC.reg tab_ok [] rfl ?_
  refine VX.meek rfl ?_
  refine VX.nil ?_
  refine VC.seq ?_
  refine VC.reg tab_ok [] rfl ?_
  iterate 5 refine VX.meek rfl ?_
  refine VX.nil ?_
  refine VC.cond rfl (fun hc0 => ?_) (fun hc0 => ?_)
  · exact absurd hc0 (by simp)
  · (try simp only [au_std] at hc0)
    refine VC.skip ?_
    refine VC.seq ?_
    refine VC.reg tab_ok [] rfl ?_
    iterate 3 refine VX.meek rfl ?_
    refine VX.nil ?_
    refine VC.block ?_
    refine VC.loopS (σ := Nat) (fun i => a.length - i) (fun i => i ≤ a.length) (fun i => [(13, I64 i), (0, cIf a), (1, cIf a)]) (fun _ => []) [12] rfl (0) ?_ ?_ ?_
    · refine ⟨[], rfl, by first | trivial | decide, by first | rfl | (simp only [noO, Bool.and_true, Bool.and_eq_true]; first | assumption | (refine ⟨?_, ?_⟩ <;> assumption)) | (simp only [noO, *, Bool.and_true, Bool.true_and, Bool.and_self]; done), ?_, ?_⟩ <;> (repeat' first | exact trivial | exact CvB_n | exact CvB_d | exact CvB_o rfl | refine CvE_app ?_ ?_ | refine CvE_cons rfl ?_ ?_ | refine CvH_cons ?_ ?_ | refine CvB_c rfl ?_ | fail) <;> first | exact au_v | (skip)
    · (try dsimp only); omega
    rintro i hi
    refine VC.reg tab_ok [] rfl ?_
    refine VX.meek rfl ?_
    refine VX.nil ?_
    refine VC.seq ?_
    refine VC.cond rfl (fun hc1 => ?_) (fun hc1 => ?_)
    · (try simp only [au_std] at hc1); have hil : i < a.length := (by omega)
      refine VC.skip ?_
      refine VC.seq ?_
      refine VC.block ?_
      refine VC.reg tab_ok [] rfl ?_
      iterate 2 refine VX.meek rfl ?_
      refine VX.nil ?_
      refine VC.drw tab_ok [] [_, _, _, _, _, _, _, _, _] rfl (by kernel_rfl) (by kernel_rfl) ?_
      iterate 2 refine VX.meek rfl ?_
      first | refine VX.idxI rfl rfl rfl rfl rfl rfl (by omega) ?_ | refine VX.idxO0 rfl rfl rfl rfl rfl rfl rfl (by omega) ?_ | refine VX.idxO0 rfl rfl rfl rfl rfl rfl au_z (by omega) ?_ | refine VX.idxO rfl rfl rfl rfl rfl rfl rfl (by omega) ?_ | refine VX.idxI rfl rfl rfl rfl rfl au_z (by omega) ?_ | refine VX.idxO rfl rfl rfl rfl rfl rfl au_z (by omega) ?_ | refine VX.meek rfl ?_
      first | refine VX.meek rfl ?_ | refine VX.loadI rfl rfl au_l ?_ | refine VX.loadP rfl rfl rfl au_l ?_
      iterate 2 refine VX.meek rfl ?_
      first | refine VX.idxI rfl rfl rfl rfl rfl rfl (by omega) ?_ | refine VX.idxO0 rfl rfl rfl rfl rfl rfl rfl (by omega) ?_ | refine VX.idxO0 rfl rfl rfl rfl rfl rfl au_z (by omega) ?_ | refine VX.idxO rfl rfl rfl rfl rfl rfl rfl (by omega) ?_ | refine VX.idxI rfl rfl rfl rfl rfl au_z (by omega) ?_ | refine VX.idxO rfl rfl rfl rfl rfl rfl au_z (by omega) ?_ | refine VX.meek rfl ?_
      first | refine VX.meek rfl ?_ | refine VX.loadI rfl rfl au_l ?_ | refine VX.loadP rfl rfl rfl au_l ?_
      refine VX.meek rfl ?_
      refine VX.nil ?_
      refine VX.nil ?_
      refine VC.cond rfl (fun hc2 => ?_) (fun hc2 => ?_)
      · exact absurd hc2 (by simp)
      · (try simp only [au_std] at hc2)
        refine VC.skip ?_
        refine VC.regN tab_ok [] rfl ?_
        first | refine VX.add rfl rfl (by omega) ?_ | refine VX.meek rfl ?_
        refine VX.meek rfl ?_
        refine VX.nil ?_
        refine ⟨i + 1, by (try dsimp only); omega, ?_, (by refine ⟨[], rfl, by first | trivial | decide, by first | rfl | (simp only [noO, Bool.and_true, Bool.and_eq_true]; first | assumption | (refine ⟨?_, ?_⟩ <;> assumption)) | (simp only [noO, *, Bool.and_true, Bool.true_and, Bool.and_self]; done), ?_, ?_⟩ <;> (repeat' first | exact trivial | exact CvB_n | exact CvB_d | exact CvB_o rfl | refine CvE_app ?_ ?_ | refine CvE_cons rfl ?_ ?_ | refine CvH_cons ?_ ?_ | refine CvB_c rfl ?_ | fail) <;> first | exact au_v | (exact Cv.pure rfl))⟩
        (try dsimp only); omega
    · (try simp only [au_std] at hc1)
      refine VC.exit ?_
      refine VC.reg tab_ok [] rfl ?_
      refine VX.meek rfl ?_
      refine VX.nil ?_
      refine VC.ret ?_
      exact ⟨trivial, _, rfl, Cv.eq (by first | rfl | (simp [*]; done)) rfl⟩
theorem eqN_p : CallP Tryd.prog 100 [NIL, NIL] (BL true) := by
  refine CallP.intro2 au_pu au_pu ?_
  refine CallT.intro tab_ok Tryd.func100 rfl (by kernel_rfl) (Nat.le_of_ble_eq_true rfl) ?_
  refine VC.reg tab_ok [] rfl ?_
  refine VX.meek rfl ?_
  refine VX.nil ?_
  refine VC.seq ?_
  refine VC.reg tab_ok [] rfl ?_
  iterate 5 refine VX.meek rfl ?_
  refine VX.nil ?_
  refine VC.condF rfl ?_
  refine VC.skip ?_
  refine VC.seq ?_
  refine VC.reg tab_ok [] rfl ?_
  iterate 3 refine VX.meek rfl ?_
  refine VX.nil ?_
  refine VC.block ?_
  refine VC.loopS (σ := Nat) (fun i => 1 - i) (fun i => i ≤ 0) (fun i => [(13, I64 0), (0, NIL), (1, NIL)]) (fun _ => []) [12] rfl (0) ?_ ?_ ?_
  · refine ⟨[], rfl, by first | trivial | decide, by first | rfl | (simp only [noO, Bool.and_true, Bool.and_eq_true]; first | assumption | (refine ⟨?_, ?_⟩ <;> assumption)) | (simp only [noO, *, Bool.and_true, Bool.true_and, Bool.and_self]; done), ?_, ?_⟩ <;> (repeat' first | exact trivial | exact CvB_n | exact CvB_d | exact CvB_o rfl | refine CvE_app ?_ ?_ | refine CvE_cons rfl ?_ ?_ | refine CvH_cons ?_ ?_ | refine CvB_c rfl ?_ | fail) <;> first | exact au_v | (skip)
  · (try dsimp only); omega
  rintro i hi
  refine VC.reg tab_ok [] rfl ?_
  refine VX.meek rfl ?_
  refine VX.nil ?_
  refine VC.seq ?_
  refine VC.condF rfl ?_
  refine VC.exit ?_
  refine VC.reg tab_ok [] rfl ?_
  refine VX.meek rfl ?_
  refine VX.nil ?_
  refine VC.ret ?_
  exact ⟨trivial, _, rfl, Cv.eq (by first | rfl | (simp [*]; done)) rfl⟩
theorem fsame_p (n : List Int) (b : List UInt8) (hn : n.length ≤ 1000000) : CallP Tryd.prog 66 [.agg [cIf n, strT b, NIL], .agg [cIf n, strT b, NIL]] (BL true) := by
  have h1 := eqI_p n hn
  have h2 := eqN_p
  refine CallP.intro2 au_pu au_pu ?_
  refine CallT.intro tab_ok Tryd.func66 rfl (by kernel_rfl) (Nat.le_of_ble_eq_true rfl) ?_
  refine VC.reg tab_ok [2, 3] rfl ?_
  refine VX.newI rfl rfl ?_
  refine VX.newI rfl rfl ?_
  refine VX.meek rfl ?_
  refine VX.nil ?_
  refine VC.reg tab_ok [] rfl ?_
  refine VX.meek rfl ?_
  first | refine VX.meek rfl ?_ | refine VX.loadI rfl rfl au_l ?_ | refine VX.loadP rfl rfl rfl au_l ?_
  refine VX.meek rfl ?_
  first | refine VX.meek rfl ?_ | refine VX.loadI rfl rfl au_l ?_ | refine VX.loadP rfl rfl rfl au_l ?_
  refine VX.callP0 rfl rfl rfl (h1) ?_
  refine VX.meek rfl ?_
  refine' VX.merge (d := 16) [_, _, _, _, _, _] rfl ?_ rfl ?_
  rotate_left
  · refine VX.guard rfl rfl (fun hb1_5 => ?_) (fun hb1_5 => ?_)
    · have ghb1_5 := hb1_5
      try simp only [au_std, Bool.not_true, Bool.not_false] at ghb1_5
      refine VX.meek rfl ?_
      refine VX.guardT rfl rfl hb1_5 ?_
      first | refine VX.meek rfl ?_ | refine VX.loadI rfl rfl au_l ?_ | refine VX.loadP rfl rfl rfl au_l ?_
      refine VX.guardT rfl rfl hb1_5 ?_
      refine VX.meek rfl ?_
      refine VX.guardT rfl rfl hb1_5 ?_
      first | refine VX.meek rfl ?_ | refine VX.loadI rfl rfl au_l ?_ | refine VX.loadP rfl rfl rfl au_l ?_
      refine VX.guardT rfl rfl hb1_5 ?_
      refine VX.meek rfl ?_
      refine VX.pickA rfl (fun _ => rfl) ?_
      exact VX.nil ⟨rfl, rfl⟩
    · refine VX.guardF rfl rfl hb1_5 ?_
      refine VX.guardF rfl rfl hb1_5 ?_
      refine VX.guardF rfl rfl hb1_5 ?_
      refine VX.guardF rfl rfl hb1_5 ?_
      exact VX.pickA rfl (fun h => absurd (h.symm.trans hb1_5) (by decide)) (VX.nil ⟨rfl, rfl⟩)
  refine VX.meek rfl ?_
  refine' VX.merge (d := 23) [_, _, _, _, _, _] rfl ?_ rfl ?_
  rotate_left
  · refine VX.guard rfl rfl (fun hb1_12 => ?_) (fun hb1_12 => ?_)
    · have ghb1_12 := hb1_12
      try simp only [au_std, Bool.not_true, Bool.not_false] at ghb1_12
      refine VX.meek rfl ?_
      refine VX.guardT rfl rfl hb1_12 ?_
      first | refine VX.meek rfl ?_ | refine VX.loadI rfl rfl au_l ?_ | refine VX.loadP rfl rfl rfl au_l ?_
      refine VX.guardT rfl rfl hb1_12 ?_
      refine VX.meek rfl ?_
      refine VX.guardT rfl rfl hb1_12 ?_
      first | refine VX.meek rfl ?_ | refine VX.loadI rfl rfl au_l ?_ | refine VX.loadP rfl rfl rfl au_l ?_
      refine VX.guardT rfl rfl hb1_12 ?_
      refine VX.callP0 rfl rfl rfl (h2) ?_
      refine VX.pickA rfl (fun _ => rfl) ?_
      exact VX.nil ⟨rfl, rfl⟩
    · refine VX.guardF rfl rfl hb1_12 ?_
      refine VX.guardF rfl rfl hb1_12 ?_
      refine VX.guardF rfl rfl hb1_12 ?_
      refine VX.guardF rfl rfl hb1_12 ?_
      exact VX.pickA rfl (fun h => absurd (h.symm.trans hb1_12) (by decide)) (VX.nil ⟨rfl, rfl⟩)
  refine VX.meek rfl ?_
  refine VX.nil ?_
  refine VC.ret ?_
  exact ⟨trivial, _, rfl, Cv.eq (by first | rfl | (simp [*]; done)) rfl⟩
theorem same58_p (a : List Rq) (ha : a.length ≤ 1000000) (hb : ∀ r ∈ a, r.n.length ≤ 1000000) : CallP Tryd.prog 34 [rqN a, rqN a] (BL true) := by
  refine CallP.intro2 au_pu au_pu ?_
  refine CallT.intro tab_ok Tryd.func34 rfl (by kernel_rfl) (Nat.le_of_ble_eq_true rfl) ?_
  refine VC.reg tab_ok [] rfl ?_
  refine VX.meek rfl ?_
  refine VX.nil ?_
  refine VC.seq ?_
  refine VC.reg tab_ok [] rfl ?_
  iterate 5 refine VX.meek rfl ?_
  refine VX.nil ?_
  refine VC.cond rfl (fun hc0 => ?_) (fun hc0 => ?_)
  · exact absurd hc0 (by simp)
  · (try simp only [au_std] at hc0)
    refine VC.skip ?_
    refine VC.seq ?_
    refine VC.reg tab_ok [] rfl ?_
    iterate 3 refine VX.meek rfl ?_
    refine VX.nil ?_
    refine VC.block ?_
    refine VC.loopS (σ := Nat) (fun i => a.length - i) (fun i => i ≤ a.length) (fun i => [(13, I64 i), (0, rqN a), (1, rqN a)]) (fun _ => []) [12] rfl (0) ?_ ?_ ?_
    · refine ⟨[], rfl, by first | trivial | decide, by first | rfl | (simp only [noO, Bool.and_true, Bool.and_eq_true]; first | assumption | (refine ⟨?_, ?_⟩ <;> assumption)) | (simp only [noO, *, Bool.and_true, Bool.true_and, Bool.and_self]; done), ?_, ?_⟩ <;> (repeat' first | exact trivial | exact CvB_n | exact CvB_d | exact CvB_o rfl | refine CvE_app ?_ ?_ | refine CvE_cons rfl ?_ ?_ | refine CvH_cons ?_ ?_ | refine CvB_c rfl ?_ | fail) <;> first | exact au_v | (skip)
    · (try dsimp only); omega
    rintro i hi
    refine VC.reg tab_ok [] rfl ?_
    refine VX.meek rfl ?_
    refine VX.nil ?_
    refine VC.seq ?_
    refine VC.cond rfl (fun hc1 => ?_) (fun hc1 => ?_)
    · (try simp only [au_std] at hc1); have hil : i < a.length := (by omega); have hm : a[i]! ∈ a := List.mem_iff_getElem?.2 ⟨i, getE hil⟩; have hfs := fsame_p (a[i]!).n (a[i]!).b (hb _ hm)
      refine VC.skip ?_
      refine VC.seq ?_
      refine VC.block ?_
      refine VC.reg tab_ok [] rfl ?_
      iterate 2 refine VX.meek rfl ?_
      refine VX.nil ?_
      refine VC.drw tab_ok [] [_, _, _, _, _, _, _, _, _, _, _, _, _, _, _, _, _, _, _, _, _, _, _, _, _, _, _, _, _, _, _, _, _, _, _, _, _, _, _, _, _, _, _, _, _, _, _] rfl (by kernel_rfl) (by kernel_rfl) ?_
      iterate 2 refine VX.meek rfl ?_
      first | refine VX.idxI rfl rfl rfl rfl rfl rfl (by omega) ?_ | refine VX.idxO0 rfl rfl rfl rfl rfl rfl rfl (by omega) ?_ | refine VX.idxO0 rfl rfl rfl rfl rfl rfl au_z (by omega) ?_ | refine VX.idxO rfl rfl rfl rfl rfl rfl rfl (by omega) ?_ | refine VX.idxI rfl rfl rfl rfl rfl au_z (by omega) ?_ | refine VX.idxO rfl rfl rfl rfl rfl rfl au_z (by omega) ?_ | refine VX.meek rfl ?_
      refine VX.meek rfl ?_
      first | refine VX.meek rfl ?_ | refine VX.loadI rfl rfl au_l ?_ | refine VX.loadP rfl rfl rfl au_l ?_
      iterate 2 refine VX.meek rfl ?_
      first | refine VX.idxI rfl rfl rfl rfl rfl rfl (by omega) ?_ | refine VX.idxO0 rfl rfl rfl rfl rfl rfl rfl (by omega) ?_ | refine VX.idxO0 rfl rfl rfl rfl rfl rfl au_z (by omega) ?_ | refine VX.idxO rfl rfl rfl rfl rfl rfl rfl (by omega) ?_ | refine VX.idxI rfl rfl rfl rfl rfl au_z (by omega) ?_ | refine VX.idxO rfl rfl rfl rfl rfl rfl au_z (by omega) ?_ | refine VX.meek rfl ?_
      refine VX.meek rfl ?_
      first | refine VX.meek rfl ?_ | refine VX.loadI rfl rfl au_l ?_ | refine VX.loadP rfl rfl rfl au_l ?_
      iterate 2 refine VX.meek rfl ?_
      refine' VX.merge (d := 62) [_, _, _, _, _, _, _, _, _, _, _, _, _, _, _, _, _, _, _, _, _, _, _, _, _, _, _, _, _, _, _, _, _, _, _] rfl ?_ rfl ?_
      rotate_left
      · refine VX.guard rfl rfl (fun hb6_11 => ?_) (fun hb6_11 => ?_)
        · have ghb6_11 := hb6_11
          try simp only [au_std, Bool.not_true, Bool.not_false] at ghb6_11
          refine VX.meek rfl ?_
          refine VX.guardT rfl rfl hb6_11 ?_
          refine VX.meek rfl ?_
          refine VX.guardT rfl rfl hb6_11 ?_
          first | refine VX.idxI rfl rfl rfl rfl rfl rfl (by omega) ?_ | refine VX.idxO0 rfl rfl rfl rfl rfl rfl rfl (by omega) ?_ | refine VX.idxO0 rfl rfl rfl rfl rfl rfl au_z (by omega) ?_ | refine VX.idxO rfl rfl rfl rfl rfl rfl rfl (by omega) ?_ | refine VX.idxI rfl rfl rfl rfl rfl au_z (by omega) ?_ | refine VX.idxO rfl rfl rfl rfl rfl rfl au_z (by omega) ?_ | refine VX.meek rfl ?_
          refine VX.guardT rfl rfl hb6_11 ?_
          refine VX.meek rfl ?_
          refine VX.guardT rfl rfl hb6_11 ?_
          first | refine VX.meek rfl ?_ | refine VX.loadI rfl rfl au_l ?_ | refine VX.loadP rfl rfl rfl au_l ?_
          refine VX.guardT rfl rfl hb6_11 ?_
          refine VX.meek rfl ?_
          refine VX.guardT rfl rfl hb6_11 ?_
          refine VX.meek rfl ?_
          refine VX.guardT rfl rfl hb6_11 ?_
          first | refine VX.idxI rfl rfl rfl rfl rfl rfl (by omega) ?_ | refine VX.idxO0 rfl rfl rfl rfl rfl rfl rfl (by omega) ?_ | refine VX.idxO0 rfl rfl rfl rfl rfl rfl au_z (by omega) ?_ | refine VX.idxO rfl rfl rfl rfl rfl rfl rfl (by omega) ?_ | refine VX.idxI rfl rfl rfl rfl rfl au_z (by omega) ?_ | refine VX.idxO rfl rfl rfl rfl rfl rfl au_z (by omega) ?_ | refine VX.meek rfl ?_
          refine VX.guardT rfl rfl hb6_11 ?_
          refine VX.meek rfl ?_
          refine VX.guardT rfl rfl hb6_11 ?_
          first | refine VX.meek rfl ?_ | refine VX.loadI rfl rfl au_l ?_ | refine VX.loadP rfl rfl rfl au_l ?_
          refine VX.guardT rfl rfl hb6_11 ?_
          refine VX.meek rfl ?_
          refine VX.guardT rfl rfl hb6_11 ?_
          refine VX.meek rfl ?_
          refine VX.guardT rfl rfl hb6_11 ?_
          first | refine VX.idxI rfl rfl rfl rfl rfl rfl (by omega) ?_ | refine VX.idxO0 rfl rfl rfl rfl rfl rfl rfl (by omega) ?_ | refine VX.idxO0 rfl rfl rfl rfl rfl rfl au_z (by omega) ?_ | refine VX.idxO rfl rfl rfl rfl rfl rfl rfl (by omega) ?_ | refine VX.idxI rfl rfl rfl rfl rfl au_z (by omega) ?_ | refine VX.idxO rfl rfl rfl rfl rfl rfl au_z (by omega) ?_ | refine VX.meek rfl ?_
          refine VX.guardT rfl rfl hb6_11 ?_
          refine VX.meek rfl ?_
          refine VX.guardT rfl rfl hb6_11 ?_
          first | refine VX.meek rfl ?_ | refine VX.loadI rfl rfl au_l ?_ | refine VX.loadP rfl rfl rfl au_l ?_
          refine VX.guardT rfl rfl hb6_11 ?_
          refine VX.meek rfl ?_
          refine VX.guardT rfl rfl hb6_11 ?_
          refine VX.meek rfl ?_
          refine VX.guardT rfl rfl hb6_11 ?_
          refine VX.meek rfl ?_
          refine VX.guardT rfl rfl hb6_11 ?_
          first | refine VX.idxI rfl rfl rfl rfl rfl rfl (by omega) ?_ | refine VX.idxO0 rfl rfl rfl rfl rfl rfl rfl (by omega) ?_ | refine VX.idxO0 rfl rfl rfl rfl rfl rfl au_z (by omega) ?_ | refine VX.idxO rfl rfl rfl rfl rfl rfl rfl (by omega) ?_ | refine VX.idxI rfl rfl rfl rfl rfl au_z (by omega) ?_ | refine VX.idxO rfl rfl rfl rfl rfl rfl au_z (by omega) ?_ | refine VX.meek rfl ?_
          refine VX.guardT rfl rfl hb6_11 ?_
          refine VX.meek rfl ?_
          refine VX.guardT rfl rfl hb6_11 ?_
          first | refine VX.meek rfl ?_ | refine VX.loadI rfl rfl au_l ?_ | refine VX.loadP rfl rfl rfl au_l ?_
          refine VX.guardT rfl rfl hb6_11 ?_
          refine VX.meek rfl ?_
          refine VX.guardT rfl rfl hb6_11 ?_
          refine VX.meek rfl ?_
          refine VX.guardT rfl rfl hb6_11 ?_
          first | refine VX.idxI rfl rfl rfl rfl rfl rfl (by omega) ?_ | refine VX.idxO0 rfl rfl rfl rfl rfl rfl rfl (by omega) ?_ | refine VX.idxO0 rfl rfl rfl rfl rfl rfl au_z (by omega) ?_ | refine VX.idxO rfl rfl rfl rfl rfl rfl rfl (by omega) ?_ | refine VX.idxI rfl rfl rfl rfl rfl au_z (by omega) ?_ | refine VX.idxO rfl rfl rfl rfl rfl rfl au_z (by omega) ?_ | refine VX.meek rfl ?_
          refine VX.guardT rfl rfl hb6_11 ?_
          refine VX.meek rfl ?_
          refine VX.guardT rfl rfl hb6_11 ?_
          first | refine VX.meek rfl ?_ | refine VX.loadI rfl rfl au_l ?_ | refine VX.loadP rfl rfl rfl au_l ?_
          refine VX.guardT rfl rfl hb6_11 ?_
          refine VX.meek rfl ?_
          refine VX.guardT rfl rfl hb6_11 ?_
          refine VX.meek rfl ?_
          refine VX.guardT rfl rfl hb6_11 ?_
          first | refine VX.idxI rfl rfl rfl rfl rfl rfl (by omega) ?_ | refine VX.idxO0 rfl rfl rfl rfl rfl rfl rfl (by omega) ?_ | refine VX.idxO0 rfl rfl rfl rfl rfl rfl au_z (by omega) ?_ | refine VX.idxO rfl rfl rfl rfl rfl rfl rfl (by omega) ?_ | refine VX.idxI rfl rfl rfl rfl rfl au_z (by omega) ?_ | refine VX.idxO rfl rfl rfl rfl rfl rfl au_z (by omega) ?_ | refine VX.meek rfl ?_
          refine VX.guardT rfl rfl hb6_11 ?_
          refine VX.meek rfl ?_
          refine VX.guardT rfl rfl hb6_11 ?_
          first | refine VX.meek rfl ?_ | refine VX.loadI rfl rfl au_l ?_ | refine VX.loadP rfl rfl rfl au_l ?_
          refine VX.guardT rfl rfl hb6_11 ?_
          refine VX.meek rfl ?_
          refine VX.guardT rfl rfl hb6_11 ?_
          refine VX.callP0 rfl rfl rfl (hfs) ?_
          refine VX.guardT rfl rfl hb6_11 ?_
          refine VX.meek rfl ?_
          refine VX.pickO rfl (fun _ => rfl) ?_
          exact VX.nil ⟨rfl, rfl⟩
        · refine VX.guardF rfl rfl hb6_11 ?_
          refine VX.guardF rfl rfl hb6_11 ?_
          refine VX.guardF rfl rfl hb6_11 ?_
          refine VX.guardF rfl rfl hb6_11 ?_
          refine VX.guardF rfl rfl hb6_11 ?_
          refine VX.guardF rfl rfl hb6_11 ?_
          refine VX.guardF rfl rfl hb6_11 ?_
          refine VX.guardF rfl rfl hb6_11 ?_
          refine VX.guardF rfl rfl hb6_11 ?_
          refine VX.guardF rfl rfl hb6_11 ?_
          refine VX.guardF rfl rfl hb6_11 ?_
          refine VX.guardF rfl rfl hb6_11 ?_
          refine VX.guardF rfl rfl hb6_11 ?_
          refine VX.guardF rfl rfl hb6_11 ?_
          refine VX.guardF rfl rfl hb6_11 ?_
          refine VX.guardF rfl rfl hb6_11 ?_
          refine VX.guardF rfl rfl hb6_11 ?_
          refine VX.guardF rfl rfl hb6_11 ?_
          refine VX.guardF rfl rfl hb6_11 ?_
          refine VX.guardF rfl rfl hb6_11 ?_
          refine VX.guardF rfl rfl hb6_11 ?_
          refine VX.guardF rfl rfl hb6_11 ?_
          refine VX.guardF rfl rfl hb6_11 ?_
          refine VX.guardF rfl rfl hb6_11 ?_
          refine VX.guardF rfl rfl hb6_11 ?_
          refine VX.guardF rfl rfl hb6_11 ?_
          refine VX.guardF rfl rfl hb6_11 ?_
          refine VX.guardF rfl rfl hb6_11 ?_
          refine VX.guardF rfl rfl hb6_11 ?_
          refine VX.guardF rfl rfl hb6_11 ?_
          refine VX.guardF rfl rfl hb6_11 ?_
          refine VX.guardF rfl rfl hb6_11 ?_
          refine VX.guardF rfl rfl hb6_11 ?_
          exact VX.pickO rfl (fun h => absurd (h.symm.trans hb6_11) (by decide)) (VX.nil ⟨rfl, rfl⟩)
      refine VX.nil ?_
      refine VX.nil ?_
      refine VC.cond rfl (fun hc2 => ?_) (fun hc2 => ?_)
      · exact absurd hc2 (by simp)
      · (try simp only [au_std] at hc2)
        refine VC.skip ?_
        refine VC.regN tab_ok [] rfl ?_
        first | refine VX.add rfl rfl (by omega) ?_ | refine VX.meek rfl ?_
        refine VX.meek rfl ?_
        refine VX.nil ?_
        refine ⟨i + 1, by (try dsimp only); omega, ?_, (by refine ⟨[], rfl, by first | trivial | decide, by first | rfl | (simp only [noO, Bool.and_true, Bool.and_eq_true]; first | assumption | (refine ⟨?_, ?_⟩ <;> assumption)) | (simp only [noO, *, Bool.and_true, Bool.true_and, Bool.and_self]; done), ?_, ?_⟩ <;> (repeat' first | exact trivial | exact CvB_n | exact CvB_d | exact CvB_o rfl | refine CvE_app ?_ ?_ | refine CvE_cons rfl ?_ ?_ | refine CvH_cons ?_ ?_ | refine CvB_c rfl ?_ | fail) <;> first | exact au_v | (exact Cv.pure rfl))⟩
        (try dsimp only); omega
    · (try simp only [au_std] at hc1)
      refine VC.exit ?_
      refine VC.reg tab_ok [] rfl ?_
      refine VX.meek rfl ?_
      refine VX.nil ?_
      refine VC.ret ?_
      exact ⟨trivial, _, rfl, Cv.eq (by first | rfl | (simp [*]; done)) rfl⟩
/- the manager that asks -/
def asM (c : Int) (W : List (Int × Wt)) : Mg := ⟨1048576, c, 0, 40, 40, false, [], W, false, 0, 0, 0⟩
abbrev asO (id : Int) : Ot := ⟨2, 17, 0, [1, id], [], []⟩
abbrev asX (id seq : Int) : Ot := ⟨0, 3, seq, [id, 9], [], []⟩
abbrev asL (id : Int) : List Rq := [rq 9 [id], rq 15 [id, 8, 0, 0, 64, 0]]
theorem as0 (id : Int) : (newMg 1 40 40).step (asO id) = (asM 6 [(id, ⟨5, false, 0, 0⟩)], asL id) := rfl
theorem as1 (id : Int) : (asM 6 [(id, ⟨5, false, 0, 0⟩)]).step (asO id) = (asM 6 [(id, ⟨5, false, 0, 0⟩)], []) := by
  simp [Mg.step, Mg.ev, needsE, Mg.mapReq, posK, asM]
theorem as2 (id : Int) (s : Bool) : (asM 6 [(id, ⟨5, false, 0, 0⟩)]).step (asX id (if s then 6 else 5)) = (asM 6 [], []) := by
  cases s <;> rfl
theorem as3 (id : Int) : (asM 6 []).step (asO id) = (asM 8 [(id, ⟨7, false, 0, 0⟩)], asL id) := rfl
theorem asO_few {id : Int} (h : 5242880 ≤ id ∧ id ≤ 5243880) : (asO id).Few := by
  refine ⟨fun v hv => ?_, fun v hv => (by cases hv), fun _ v hv => ?_⟩
  · simp only [List.mem_cons, List.not_mem_nil, or_false] at hv
    unfold r32
    rcases hv with hv | hv <;> omega
  · simp only [List.take_succ_cons, List.take_nil, List.mem_cons, List.not_mem_nil, or_false] at hv
    rcases hv with hv | hv <;> omega
theorem asX_few {id seq : Int} (h : 5242880 ≤ id ∧ id ≤ 5243880) : (asX id seq).Few := by
  refine ⟨fun v hv => ?_, fun v hv => (by cases hv), fun k => absurd k (by simp)⟩
  simp only [List.mem_cons, List.not_mem_nil, or_false] at hv
  unfold r32
  rcases hv with hv | hv <;> omega
theorem managerAsks_all (window times : Int) (second : Bool) (hw : 0 ≤ window ∧ window < 4294967296) (ht : 0 ≤ times ∧ times < 256) : CallP Tryd.prog 7 [.v (.int .u32 window), U8 times, BL second] (BL true) := by
  have haw := awake58_p
  obtain ⟨id, hid⟩ : ∃ id, id = window % 1000 + 5242880 := ⟨_, rfl⟩
  have hib : 5242880 ≤ id ∧ id ≤ 5243880 := by omega
  have fo := asO_few hib
  have ok0 : (newMg 1 40 40).Ok 4 := newMg_ok 1 40 40 (by decide) (by decide) (by decide) (by decide) (by decide) (by decide)
  have ok1 : (asM 6 [(id, ⟨5, false, 0, 0⟩)]).Ok 11 := by have := ok0.step (asO id) fo (by decide); rw [as0] at this; exact this
  have ok2 : (asM 6 []).Ok 18 := by have := ok1.step (asX id (if second then 6 else 5)) (asX_few hib) (by decide); rw [as2] at this; exact this
  have hnew : CallP Tryd.prog 30 [I64 1, I64 40, I64 40] (.tup [mgT (newMg 1 40 40), .islc (encL cRn (newL 1048576)) 4 none, I64 0]) := mnew_p 1 40 40 (by decide) (by decide) (by decide) (by decide) (by decide) (by decide)
  have s0 : CallP Tryd.prog 31 [mgT (newMg 1 40 40), otT (asO id)] (.tup [mgT (asM 6 [(id, ⟨5, false, 0, 0⟩)]), rqN (asL id)]) := by
    have := step_any _ (asO id) 4 ok0 (by decide) fo (by decide : (([] : List Int).length ≤ 100000)) fun M g _ _ _ h => absurd rfl h
    rw [as0] at this
    exact this
  have s1 : CallP Tryd.prog 31 [mgT (asM 6 [(id, ⟨5, false, 0, 0⟩)]), otT (asO id)] (.tup [mgT (asM 6 [(id, ⟨5, false, 0, 0⟩)]), rqN []]) := by
    have := step_any _ (asO id) 11 ok1 (by decide) fo (by decide : (([] : List Int).length ≤ 100000)) fun M g _ _ _ h => absurd rfl h
    rw [as1] at this
    exact this
  have s2 : ∀ sq : Int, sq = (if second then 6 else 5) → CallP Tryd.prog 31 [mgT (asM 6 [(id, ⟨5, false, 0, 0⟩)]), otT (asX id sq)] (.tup [mgT (asM 6 []), rqN []]) := by
    rintro _ rfl
    have := step_any _ (asX id (if second then 6 else 5)) 11 ok1 (by decide) (asX_few hib) (by decide : (([] : List Int).length ≤ 100000)) fun M g _ _ k => absurd k (by simp)
    rw [as2] at this
    exact this
  have s3 : CallP Tryd.prog 31 [mgT (asM 6 []), otT (asO id)] (.tup [mgT (asM 8 [(id, ⟨7, false, 0, 0⟩)]), rqN (asL id)]) := by
    have := step_any _ (asO id) 18 ok2 (by decide) fo (by decide : (([] : List Int).length ≤ 100000)) fun M g _ _ _ h => absurd rfl h
    rw [as3] at this
    exact this
  have hfr := frames_0 (asM 6 []) rfl rfl
  have hsm := same58_p (asL id) (show 2 ≤ 1000000 by omega) (fun r hr => by simp only [List.mem_cons, List.not_mem_nil, or_false] at hr; rcases hr with rfl | rfl <;> simp [rq])
  have hLl : (asL id).length = 2 := rfl
  have c0 := mg_cell (newMg 1 40 40)
  have c1 := mg_cell (asM 6 [(id, ⟨5, false, 0, 0⟩)])
  have c2 := mg_cell (asM 6 [])
  have c3 := mg_cell (asM 8 [(id, ⟨7, false, 0, 0⟩)])
  have p0 := mpF_pure (newMg 1 40 40)
  have p1 := mpF_pure (asM 6 [(id, ⟨5, false, 0, 0⟩)])
  have p2 := mpF_pure (asM 6 [])
  have p3 := mpF_pure (asM 8 [(id, ⟨7, false, 0, 0⟩)])
  have q0 := mpW_pure (newMg 1 40 40)
  have q1 := mpW_pure (asM 6 [(id, ⟨5, false, 0, 0⟩)])
  have q2 := mpW_pure (asM 6 [])
  have q3 := mpW_pure (asM 8 [(id, ⟨7, false, 0, 0⟩)])
  generalize newMg 1 40 40 = A0 at *
  generalize asM 6 [(id, ⟨5, false, 0, 0⟩)] = A1 at *
  generalize asM 6 [] = A2 at *
  generalize asM 8 [(id, ⟨7, false, 0, 0⟩)] = A3 at *
  generalize newL 1048576 = N0 at *
  obtain ⟨N, hN⟩ := Int.eq_ofNat_of_zero_le (show 0 ≤ times % 5 by omega)
  refine CallP.intro2 au_pu au_pu ?_
  refine CallT.intro tab_ok Tryd.func7 rfl (by kernel_rfl) (Nat.le_of_ble_eq_true rfl) ?_
  refine VC.reg tab_ok [] rfl ?_
  refine VX.meek rfl ?_
  refine VX.nil ?_
  refine VC.reg tab_ok [] rfl ?_
  refine VX.meek rfl ?_
  refine VX.meek (t := .v (.int .u32 (window % 1000))) (by show (match (if (1000 : Int) = 0 then none else some (Value.int .u32 (window.tmod 1000))).map T.v with | some r => some (r, (none : Option (Nat × List T))) | none => none) = _; rw [Int.tmod_eq_emod_of_nonneg hw.1]; rfl) ?_
  refine VX.meek (t := .v (.int .u32 id)) (by show some (T.v (.int .u32 (IntKind.u32.wrap (window % 1000 + 5242880))), (none : Option (Nat × List T))) = _; rw [← hid, u32_in (by omega)]) ?_
  refine VX.meek rfl ?_
  refine VX.nil ?_
  refine VC.reg tab_ok [] rfl ?_
  refine VX.callP0 rfl rfl rfl (hnew) ?_
  iterate 4 refine VX.meek rfl ?_
  refine VX.new rfl rfl ?_
  refine VX.store rfl rfl rfl rfl rfl (Nat.le_of_ble_eq_true rfl) c0 ?_
  iterate 2 refine VX.meek rfl ?_
  refine VX.nil ?_
  refine VC.seq ?_
  refine VC.reg tab_ok [] rfl ?_
  iterate 2 refine VX.meek rfl ?_
  refine VX.nil ?_
  refine VC.condF rfl ?_
  refine VC.skip ?_
  refine VC.reg tab_ok [31] rfl ?_
  refine VX.meek rfl ?_
  refine VX.meek (t := I64 id) (by show some (T.v (.int .i64 (IntKind.i64.wrap id)), (none : Option (Nat × List T))) = _; rw [wrap_in (by omega)]) ?_
  refine VX.newI rfl rfl ?_
  refine VX.meek rfl ?_
  refine VX.new rfl rfl ?_
  refine VX.store rfl rfl rfl rfl rfl au_s rfl ?_
  refine VX.nil ?_
  refine VC.view ([(8, .ptr 0 0), (11, .iptr [I64 2, I64 17, I64 0, .islc (encL cI [1, id]) 2 (some 2), strT [], NIL] 0)]) ([.c (mgC A0)]) [1, 2, 7] rfl (by refine ⟨[some 0], rfl, by first | trivial | decide, by first | rfl | (simp only [noO, Bool.and_true, Bool.and_eq_true]; first | assumption | (refine ⟨?_, ?_⟩ <;> assumption)) | (simp only [noO, *, Bool.and_true, Bool.true_and, Bool.and_self]; done), ?_, ?_⟩ <;> (repeat' first | exact trivial | exact CvB_n | exact CvB_d | exact CvB_o rfl | refine CvE_app ?_ ?_ | refine CvE_cons rfl ?_ ?_ | refine CvH_cons ?_ ?_ | refine CvB_c rfl ?_ | fail) <;> first | exact au_v | (first | exact CvL.eq rfl (mg_pure _) | exact Cv.fptr ⟨rfl, (show some 1 ∉ [some 0] by simp)⟩ (CvL.eq rfl rfl))) ?_
  refine VC.reg tab_ok [] rfl ?_
  refine VX.meek (t := mgT A0) rfl ?_
  refine VX.meek (t := .agg [I64 2, I64 17, I64 0, .islc (encL cI [1, id]) 2 (some 2), strT [], NIL]) rfl ?_
  refine VX.callP rfl rfl (s0) au_wk au_pu ?_
  iterate 3 refine VX.meek rfl ?_
  refine VX.store rfl rfl rfl rfl rfl (Nat.le_of_ble_eq_true rfl) c1 ?_
  refine VX.meek rfl ?_
  refine VX.nil ?_
  refine VC.view ([(8, .ptr 0 0)]) ([.c (mgC A1)]) [1, 2, 7, 11, 12] rfl (by refine ⟨[some 0], rfl, by first | trivial | decide, by first | rfl | (simp only [noO, Bool.and_true, Bool.and_eq_true]; first | assumption | (refine ⟨?_, ?_⟩ <;> assumption)) | (simp only [noO, *, Bool.and_true, Bool.true_and, Bool.and_self]; done), ?_, ?_⟩ <;> (repeat' first | exact trivial | exact CvB_n | exact CvB_d | exact CvB_o rfl | refine CvE_app ?_ ?_ | refine CvE_cons rfl ?_ ?_ | refine CvH_cons ?_ ?_ | refine CvB_c rfl ?_ | fail) <;> first | exact au_v | (exact CvL.eq rfl (mg_pure _))) ?_
  refine VC.seq ?_
  refine VC.reg tab_ok [] rfl ?_
  iterate 4 refine VX.meek rfl ?_
  refine' VX.merge (d := 48) [_, _, _, _, _, _] rfl ?_ rfl ?_
  rotate_left
  · refine VX.guard rfl rfl (fun hb7_3 => ?_) (fun hb7_3 => ?_)
    · have ghb7_3 := hb7_3
      try simp only [au_std, Bool.not_true, Bool.not_false] at ghb7_3
      refine VX.meek rfl ?_
      refine VX.guardT rfl rfl hb7_3 ?_
      first | refine VX.idxI (m := 0) rfl rfl rfl rfl rfl rfl (by omega) ?_ | refine VX.idxO (m := 0) rfl rfl rfl rfl rfl rfl rfl (by omega) ?_ | refine VX.meek rfl ?_
      refine VX.guardT rfl rfl hb7_3 ?_
      refine VX.meek rfl ?_
      refine VX.guardT rfl rfl hb7_3 ?_
      first | refine VX.meek rfl ?_ | refine VX.loadI rfl rfl au_l ?_ | refine VX.loadP rfl rfl rfl au_l ?_
      refine VX.guardT rfl rfl hb7_3 ?_
      refine VX.meek rfl ?_
      refine VX.pickO rfl (fun _ => rfl) ?_
      exact VX.nil ⟨rfl, rfl⟩
    · refine VX.guardF rfl rfl hb7_3 ?_
      refine VX.guardF rfl rfl hb7_3 ?_
      refine VX.guardF rfl rfl hb7_3 ?_
      refine VX.guardF rfl rfl hb7_3 ?_
      exact VX.pickO rfl (fun h => absurd (h.symm.trans hb7_3) (by decide)) (VX.nil ⟨rfl, rfl⟩)
  refine VX.meek rfl ?_
  refine' VX.merge (d := 55) [_, _, _, _, _, _] rfl ?_ rfl ?_
  rotate_left
  · refine VX.guard rfl rfl (fun hb7_10 => ?_) (fun hb7_10 => ?_)
    · have ghb7_10 := hb7_10
      try simp only [au_std, Bool.not_true, Bool.not_false] at ghb7_10
      refine VX.meek rfl ?_
      refine VX.guardT rfl rfl hb7_10 ?_
      first | refine VX.idxI rfl rfl rfl rfl rfl rfl (by omega) ?_ | refine VX.idxO0 rfl rfl rfl rfl rfl rfl rfl (by omega) ?_ | refine VX.idxO0 rfl rfl rfl rfl rfl rfl au_z (by omega) ?_ | refine VX.idxO rfl rfl rfl rfl rfl rfl rfl (by omega) ?_ | refine VX.idxI rfl rfl rfl rfl rfl au_z (by omega) ?_ | refine VX.idxO rfl rfl rfl rfl rfl rfl au_z (by omega) ?_ | refine VX.meek rfl ?_
      refine VX.guardT rfl rfl hb7_10 ?_
      refine VX.meek rfl ?_
      refine VX.guardT rfl rfl hb7_10 ?_
      first | refine VX.meek rfl ?_ | refine VX.loadI rfl rfl au_l ?_ | refine VX.loadP rfl rfl rfl au_l ?_
      refine VX.guardT rfl rfl hb7_10 ?_
      refine VX.meek rfl ?_
      refine VX.pickO rfl (fun _ => rfl) ?_
      exact VX.nil ⟨rfl, rfl⟩
    · refine VX.guardF rfl rfl hb7_10 ?_
      refine VX.guardF rfl rfl hb7_10 ?_
      refine VX.guardF rfl rfl hb7_10 ?_
      refine VX.guardF rfl rfl hb7_10 ?_
      exact VX.pickO rfl (fun h => absurd (h.symm.trans hb7_10) (by decide)) (VX.nil ⟨rfl, rfl⟩)
  refine VX.meek rfl ?_
  refine' VX.merge (d := 66) [_, _, _, _, _, _, _, _, _, _] rfl ?_ rfl ?_
  rotate_left
  · refine VX.guard rfl rfl (fun hb7_17 => ?_) (fun hb7_17 => ?_)
    · have ghb7_17 := hb7_17
      try simp only [au_std, Bool.not_true, Bool.not_false] at ghb7_17
      refine VX.meek rfl ?_
      refine VX.guardT rfl rfl hb7_17 ?_
      first | refine VX.idxI (m := 0) rfl rfl rfl rfl rfl rfl (by omega) ?_ | refine VX.idxO (m := 0) rfl rfl rfl rfl rfl rfl rfl (by omega) ?_ | refine VX.meek rfl ?_
      refine VX.guardT rfl rfl hb7_17 ?_
      refine VX.meek rfl ?_
      refine VX.guardT rfl rfl hb7_17 ?_
      first | refine VX.meek rfl ?_ | refine VX.loadI rfl rfl au_l ?_ | refine VX.loadP rfl rfl rfl au_l ?_
      refine VX.guardT rfl rfl hb7_17 ?_
      first | refine VX.idxI (m := 0) rfl rfl rfl rfl rfl rfl (by omega) ?_ | refine VX.idxO (m := 0) rfl rfl rfl rfl rfl rfl rfl (by omega) ?_ | refine VX.meek rfl ?_
      refine VX.guardT rfl rfl hb7_17 ?_
      first | refine VX.meek rfl ?_ | refine VX.loadI rfl rfl au_l ?_ | refine VX.loadP rfl rfl rfl au_l ?_
      refine VX.guardT rfl rfl hb7_17 ?_
      refine VX.meek rfl ?_
      refine VX.guardT rfl rfl hb7_17 ?_
      refine VX.meek (t := I64 id) (by show some (T.v (.int .i64 (IntKind.i64.wrap id)), (none : Option (Nat × List T))) = _; rw [wrap_in (by omega)]) ?_
      refine VX.guardT rfl rfl hb7_17 ?_
      refine VX.meek rfl ?_
      refine VX.pickO rfl (fun _ => rfl) ?_
      exact VX.nil ⟨rfl, rfl⟩
    · refine VX.guardF rfl rfl hb7_17 ?_
      refine VX.guardF rfl rfl hb7_17 ?_
      refine VX.guardF rfl rfl hb7_17 ?_
      refine VX.guardF rfl rfl hb7_17 ?_
      refine VX.guardF rfl rfl hb7_17 ?_
      refine VX.guardF rfl rfl hb7_17 ?_
      refine VX.guardF rfl rfl hb7_17 ?_
      refine VX.guardF rfl rfl hb7_17 ?_
      exact VX.pickO rfl (fun h => absurd (h.symm.trans hb7_17) (by decide)) (VX.nil ⟨rfl, rfl⟩)
  refine VX.meek rfl ?_
  refine' VX.merge (d := 77) [_, _, _, _, _, _, _, _, _, _] rfl ?_ rfl ?_
  rotate_left
  · refine VX.guard rfl rfl (fun hb7_28 => ?_) (fun hb7_28 => ?_)
    · have ghb7_28 := hb7_28
      try simp only [au_std, Bool.not_true, Bool.not_false] at ghb7_28
      refine VX.meek rfl ?_
      refine VX.guardT rfl rfl hb7_28 ?_
      first | refine VX.idxI rfl rfl rfl rfl rfl rfl (by omega) ?_ | refine VX.idxO0 rfl rfl rfl rfl rfl rfl rfl (by omega) ?_ | refine VX.idxO0 rfl rfl rfl rfl rfl rfl au_z (by omega) ?_ | refine VX.idxO rfl rfl rfl rfl rfl rfl rfl (by omega) ?_ | refine VX.idxI rfl rfl rfl rfl rfl au_z (by omega) ?_ | refine VX.idxO rfl rfl rfl rfl rfl rfl au_z (by omega) ?_ | refine VX.meek rfl ?_
      refine VX.guardT rfl rfl hb7_28 ?_
      refine VX.meek rfl ?_
      refine VX.guardT rfl rfl hb7_28 ?_
      first | refine VX.meek rfl ?_ | refine VX.loadI rfl rfl au_l ?_ | refine VX.loadP rfl rfl rfl au_l ?_
      refine VX.guardT rfl rfl hb7_28 ?_
      first | refine VX.idxI (m := 0) rfl rfl rfl rfl rfl rfl (by omega) ?_ | refine VX.idxO (m := 0) rfl rfl rfl rfl rfl rfl rfl (by omega) ?_ | refine VX.meek rfl ?_
      refine VX.guardT rfl rfl hb7_28 ?_
      first | refine VX.meek rfl ?_ | refine VX.loadI rfl rfl au_l ?_ | refine VX.loadP rfl rfl rfl au_l ?_
      refine VX.guardT rfl rfl hb7_28 ?_
      refine VX.meek rfl ?_
      refine VX.guardT rfl rfl hb7_28 ?_
      refine VX.meek (t := I64 id) (by show some (T.v (.int .i64 (IntKind.i64.wrap id)), (none : Option (Nat × List T))) = _; rw [wrap_in (by omega)]) ?_
      refine VX.guardT rfl rfl hb7_28 ?_
      refine VX.meek rfl ?_
      refine VX.pickO rfl (fun _ => rfl) ?_
      exact VX.nil ⟨rfl, rfl⟩
    · refine VX.guardF rfl rfl hb7_28 ?_
      refine VX.guardF rfl rfl hb7_28 ?_
      refine VX.guardF rfl rfl hb7_28 ?_
      refine VX.guardF rfl rfl hb7_28 ?_
      refine VX.guardF rfl rfl hb7_28 ?_
      refine VX.guardF rfl rfl hb7_28 ?_
      refine VX.guardF rfl rfl hb7_28 ?_
      refine VX.guardF rfl rfl hb7_28 ?_
      exact VX.pickO rfl (fun h => absurd (h.symm.trans hb7_28) (by decide)) (VX.nil ⟨rfl, rfl⟩)
  refine VX.nil ?_
  refine VC.cond rfl (fun hc1 => ?_) (fun hc1 => ?_)
  · exact absurd hc1 (by simp [rq])
  · (try simp only [au_std] at hc1)
    refine VC.skip ?_
    refine VC.seq ?_
    refine VC.reg tab_ok [] rfl ?_
    refine VX.meek rfl ?_
    refine VX.meek (t := U8 (times % 5)) (by show (match (if (5 : Int) = 0 then none else some (Value.int .u8 (times.tmod 5))).map T.v with | some r => some (r, (none : Option (Nat × List T))) | none => none) = _; rw [Int.tmod_eq_emod_of_nonneg ht.1]; rfl) ?_
    refine VX.meek (t := I64 N) (by show some (T.v (.int .i64 (IntKind.i64.wrap (times % 5))), (none : Option (Nat × List T))) = _; rw [wrap_in (by omega), hN]) ?_
    refine VX.meek rfl ?_
    refine VX.nil ?_
    refine VC.block ?_
    refine VC.loopS (σ := Nat) (fun i => N - i) (fun i => i ≤ N) (fun i => [(81, I64 i), (8, .ptr 0 0)]) (fun _ => [.c (mgC A1)]) [2, 7, 11, 12, 80] rfl (0) ?_ ?_ ?_
    · refine ⟨[some 0], rfl, by first | trivial | decide, by first | rfl | (simp only [noO, Bool.and_true, Bool.and_eq_true]; first | assumption | (refine ⟨?_, ?_⟩ <;> assumption)) | (simp only [noO, *, Bool.and_true, Bool.true_and, Bool.and_self]; done), ?_, ?_⟩ <;> (repeat' first | exact trivial | exact CvB_n | exact CvB_d | exact CvB_o rfl | refine CvE_app ?_ ?_ | refine CvE_cons rfl ?_ ?_ | refine CvH_cons ?_ ?_ | refine CvB_c rfl ?_ | fail) <;> first | exact au_v | (exact CvL.eq rfl (mg_pure _))
    · (try dsimp only); omega
    rintro i hi
    refine VC.reg tab_ok [] rfl ?_
    refine VX.meek rfl ?_
    refine VX.nil ?_
    refine VC.seq ?_
    refine VC.cond rfl (fun hc2 => ?_) (fun hc2 => ?_)
    · (try simp only [au_std] at hc2); have hil : i < N := (by omega)
      refine VC.skip ?_
      refine VC.seq ?_
      refine VC.block ?_
      refine VC.reg tab_ok [] rfl ?_
      refine VX.meek (t := mgT A1) rfl ?_
      refine VX.meek (t := .agg [I64 2, I64 17, I64 0, .islc (encL cI [1, id]) 2 (some 2), strT [], NIL]) rfl ?_
      refine VX.callP rfl rfl (s1) au_wk au_pu ?_
      iterate 3 refine VX.meek rfl ?_
      refine VX.new rfl rfl ?_
      refine VX.store rfl rfl rfl rfl rfl (Nat.le_of_ble_eq_true rfl) c1 ?_
      refine VX.meek rfl ?_
      refine VX.nil ?_
      refine VC.seq ?_
      refine VC.reg tab_ok [] rfl ?_
      iterate 3 refine VX.meek rfl ?_
      refine VX.nil ?_
      refine VC.condF rfl ?_
      refine VC.skip ?_
      refine VC.regN tab_ok [] rfl ?_
      refine VX.meek (t := mgT A1) rfl ?_
      refine VX.store rfl rfl rfl rfl rfl (Nat.le_of_ble_eq_true rfl) c1 ?_
      refine VX.nil ?_
      refine VC.regN tab_ok [] rfl ?_
      first | refine VX.add rfl rfl (by omega) ?_ | refine VX.meek rfl ?_
      refine VX.meek rfl ?_
      refine VX.nil ?_
      refine ⟨i + 1, by (try dsimp only); omega, ?_, (by refine ⟨[some 0], rfl, by first | trivial | decide, by first | rfl | (simp only [noO, Bool.and_true, Bool.and_eq_true]; first | assumption | (refine ⟨?_, ?_⟩ <;> assumption)) | (simp only [noO, *, Bool.and_true, Bool.true_and, Bool.and_self]; done), ?_, ?_⟩ <;> (repeat' first | exact trivial | exact CvB_n | exact CvB_d | exact CvB_o rfl | refine CvE_app ?_ ?_ | refine CvE_cons rfl ?_ ?_ | refine CvH_cons ?_ ?_ | refine CvB_c rfl ?_ | fail) <;> first | exact au_v | (exact CvL.eq rfl (mg_pure _)))⟩
      (try dsimp only); omega
    · (try simp only [au_std] at hc2)
      refine VC.exit ?_
      refine VC.reg tab_ok [] rfl ?_
      refine VX.meek rfl ?_
      refine VX.nil ?_
      refine VC.seq ?_
      refine VC.reg tab_ok [] rfl ?_
      refine VX.meek rfl ?_
      refine VX.nil ?_
      refine VC.cond rfl (fun hc4 => ?_) (fun hc4 => ?_)
      · have hst := s2 6 (by simp [hc4])
        refine VC.regN tab_ok [] rfl ?_
        refine VX.meek rfl ?_
        refine VX.nil ?_
        refine VC.reg tab_ok [100] rfl ?_
        refine VX.meek (t := mgT A1) rfl ?_
        iterate 2 refine VX.meek rfl ?_
        refine VX.meek (t := I64 id) (by show some (T.v (.int .i64 (IntKind.i64.wrap id)), (none : Option (Nat × List T))) = _; rw [wrap_in (by omega)]) ?_
        refine VX.newI rfl rfl ?_
        first | refine VX.meek (t := .agg [I64 0, I64 3, I64 6, .islc (encL cI [id, 9]) 2 (some 2), strT [], NIL]) rfl ?_ | refine VX.meek (t := .agg [I64 0, I64 3, I64 5, .islc (encL cI [id, 9]) 2 (some 2), strT [], NIL]) rfl ?_
        refine VX.callP rfl rfl (hst) au_wk au_pu ?_
        iterate 3 refine VX.meek rfl ?_
        refine VX.store rfl rfl rfl rfl rfl (Nat.le_of_ble_eq_true rfl) c2 ?_
        refine VX.meek rfl ?_
        refine VX.nil ?_
        refine VC.view ([(8, .ptr 0 0)]) ([.c (mgC A2)]) [11, 12, 16] rfl (by refine ⟨[some 0], rfl, by first | trivial | decide, by first | rfl | (simp only [noO, Bool.and_true, Bool.and_eq_true]; first | assumption | (refine ⟨?_, ?_⟩ <;> assumption)) | (simp only [noO, *, Bool.and_true, Bool.true_and, Bool.and_self]; done), ?_, ?_⟩ <;> (repeat' first | exact trivial | exact CvB_n | exact CvB_d | exact CvB_o rfl | refine CvE_app ?_ ?_ | refine CvE_cons rfl ?_ ?_ | refine CvH_cons ?_ ?_ | refine CvB_c rfl ?_ | fail) <;> first | exact au_v | (exact CvL.eq rfl (mg_pure _))) ?_
        refine VC.reg tab_ok [] rfl ?_
        refine VX.meek (t := mgT A2) rfl ?_
        refine VX.meek (t := .agg [I64 2, I64 17, I64 0, .islc (encL cI [1, id]) 2 (some 2), strT [], NIL]) rfl ?_
        refine VX.callP rfl rfl (s3) au_wk au_pu ?_
        iterate 3 refine VX.meek rfl ?_
        refine VX.new rfl rfl ?_
        refine VX.store rfl rfl rfl rfl rfl (Nat.le_of_ble_eq_true rfl) c3 ?_
        refine VX.meek rfl ?_
        refine VX.nil ?_
        refine VC.reg tab_ok [] rfl ?_
        refine VX.callP0 rfl rfl rfl (haw) ?_
        refine VX.meek rfl ?_
        refine' VX.merge (d := 116) [_, _, _, _] rfl ?_ rfl ?_
        rotate_left
        · refine VX.guard rfl rfl (fun hb21_1 => ?_) (fun hb21_1 => ?_)
          · have ghb21_1 := hb21_1
            try simp only [au_std, Bool.not_true, Bool.not_false] at ghb21_1
            refine VX.meek rfl ?_
            refine VX.guardT rfl rfl hb21_1 ?_
            refine VX.meek rfl ?_
            refine VX.guardT rfl rfl hb21_1 ?_
            refine VX.meek rfl ?_
            refine VX.pickA rfl (fun _ => rfl) ?_
            exact VX.nil ⟨rfl, rfl⟩
          · refine VX.guardF rfl rfl hb21_1 ?_
            refine VX.guardF rfl rfl hb21_1 ?_
            exact VX.pickA rfl (fun h => absurd (h.symm.trans hb21_1) (by decide)) (VX.nil ⟨rfl, rfl⟩)
        refine VX.meek rfl ?_
        refine' VX.merge (d := 121) [_, _, _, _] rfl ?_ rfl ?_
        rotate_left
        · refine VX.guard rfl rfl (fun hb21_6 => ?_) (fun hb21_6 => ?_)
          · have ghb21_6 := hb21_6
            try simp only [au_std, Bool.not_true, Bool.not_false] at ghb21_6
            refine VX.meek rfl ?_
            refine VX.guardT rfl rfl hb21_6 ?_
            refine VX.meek rfl ?_
            refine VX.guardT rfl rfl hb21_6 ?_
            refine VX.callP0 rfl rfl rfl (hsm) ?_
            refine VX.pickA rfl (fun _ => rfl) ?_
            exact VX.nil ⟨rfl, rfl⟩
          · refine VX.guardF rfl rfl hb21_6 ?_
            refine VX.guardF rfl rfl hb21_6 ?_
            exact VX.pickA rfl (fun h => absurd (h.symm.trans hb21_6) (by decide)) (VX.nil ⟨rfl, rfl⟩)
        refine VX.meek rfl ?_
        refine' VX.merge (d := 127) [_, _, _, _, _] rfl ?_ rfl ?_
        rotate_left
        · refine VX.guard rfl rfl (fun hb21_11 => ?_) (fun hb21_11 => ?_)
          · have ghb21_11 := hb21_11
            try simp only [au_std, Bool.not_true, Bool.not_false] at ghb21_11
            first | refine VX.meek rfl ?_ | refine VX.loadI rfl rfl au_l ?_ | refine VX.loadP rfl rfl rfl au_l ?_
            refine VX.guardT rfl rfl hb21_11 ?_
            refine VX.callP0 rfl rfl rfl (hfr) ?_
            refine VX.guardT rfl rfl hb21_11 ?_
            refine VX.meek rfl ?_
            refine VX.guardT rfl rfl hb21_11 ?_
            refine VX.meek rfl ?_
            refine VX.pickA rfl (fun _ => rfl) ?_
            exact VX.nil ⟨rfl, rfl⟩
          · refine VX.guardF rfl rfl hb21_11 ?_
            refine VX.guardF rfl rfl hb21_11 ?_
            refine VX.guardF rfl rfl hb21_11 ?_
            exact VX.pickA rfl (fun h => absurd (h.symm.trans hb21_11) (by decide)) (VX.nil ⟨rfl, rfl⟩)
        refine VX.meek rfl ?_
        refine VX.nil ?_
        refine VC.ret ?_
        exact ⟨trivial, _, rfl, Cv.eq (by first | rfl | (simp [*]; done)) rfl⟩
      · have hst := s2 5 (by simp [hc4])
        refine VC.skip ?_
        refine VC.reg tab_ok [100] rfl ?_
        refine VX.meek (t := mgT A1) rfl ?_
        iterate 2 refine VX.meek rfl ?_
        refine VX.meek (t := I64 id) (by show some (T.v (.int .i64 (IntKind.i64.wrap id)), (none : Option (Nat × List T))) = _; rw [wrap_in (by omega)]) ?_
        refine VX.newI rfl rfl ?_
        first | refine VX.meek (t := .agg [I64 0, I64 3, I64 6, .islc (encL cI [id, 9]) 2 (some 2), strT [], NIL]) rfl ?_ | refine VX.meek (t := .agg [I64 0, I64 3, I64 5, .islc (encL cI [id, 9]) 2 (some 2), strT [], NIL]) rfl ?_
        refine VX.callP rfl rfl (hst) au_wk au_pu ?_
        iterate 3 refine VX.meek rfl ?_
        refine VX.store rfl rfl rfl rfl rfl (Nat.le_of_ble_eq_true rfl) c2 ?_
        refine VX.meek rfl ?_
        refine VX.nil ?_
        refine VC.view ([(8, .ptr 0 0)]) ([.c (mgC A2)]) [11, 12, 16] rfl (by refine ⟨[some 0], rfl, by first | trivial | decide, by first | rfl | (simp only [noO, Bool.and_true, Bool.and_eq_true]; first | assumption | (refine ⟨?_, ?_⟩ <;> assumption)) | (simp only [noO, *, Bool.and_true, Bool.true_and, Bool.and_self]; done), ?_, ?_⟩ <;> (repeat' first | exact trivial | exact CvB_n | exact CvB_d | exact CvB_o rfl | refine CvE_app ?_ ?_ | refine CvE_cons rfl ?_ ?_ | refine CvH_cons ?_ ?_ | refine CvB_c rfl ?_ | fail) <;> first | exact au_v | (exact CvL.eq rfl (mg_pure _))) ?_
        refine VC.reg tab_ok [] rfl ?_
        refine VX.meek (t := mgT A2) rfl ?_
        refine VX.meek (t := .agg [I64 2, I64 17, I64 0, .islc (encL cI [1, id]) 2 (some 2), strT [], NIL]) rfl ?_
        refine VX.callP rfl rfl (s3) au_wk au_pu ?_
        iterate 3 refine VX.meek rfl ?_
        refine VX.new rfl rfl ?_
        refine VX.store rfl rfl rfl rfl rfl (Nat.le_of_ble_eq_true rfl) c3 ?_
        refine VX.meek rfl ?_
        refine VX.nil ?_
        refine VC.reg tab_ok [] rfl ?_
        refine VX.callP0 rfl rfl rfl (haw) ?_
        refine VX.meek rfl ?_
        refine' VX.merge (d := 116) [_, _, _, _] rfl ?_ rfl ?_
        rotate_left
        · refine VX.guard rfl rfl (fun hb21_1 => ?_) (fun hb21_1 => ?_)
          · have ghb21_1 := hb21_1
            try simp only [au_std, Bool.not_true, Bool.not_false] at ghb21_1
            refine VX.meek rfl ?_
            refine VX.guardT rfl rfl hb21_1 ?_
            refine VX.meek rfl ?_
            refine VX.guardT rfl rfl hb21_1 ?_
            refine VX.meek rfl ?_
            refine VX.pickA rfl (fun _ => rfl) ?_
            exact VX.nil ⟨rfl, rfl⟩
          · refine VX.guardF rfl rfl hb21_1 ?_
            refine VX.guardF rfl rfl hb21_1 ?_
            exact VX.pickA rfl (fun h => absurd (h.symm.trans hb21_1) (by decide)) (VX.nil ⟨rfl, rfl⟩)
        refine VX.meek rfl ?_
        refine' VX.merge (d := 121) [_, _, _, _] rfl ?_ rfl ?_
        rotate_left
        · refine VX.guard rfl rfl (fun hb21_6 => ?_) (fun hb21_6 => ?_)
          · have ghb21_6 := hb21_6
            try simp only [au_std, Bool.not_true, Bool.not_false] at ghb21_6
            refine VX.meek rfl ?_
            refine VX.guardT rfl rfl hb21_6 ?_
            refine VX.meek rfl ?_
            refine VX.guardT rfl rfl hb21_6 ?_
            refine VX.callP0 rfl rfl rfl (hsm) ?_
            refine VX.pickA rfl (fun _ => rfl) ?_
            exact VX.nil ⟨rfl, rfl⟩
          · refine VX.guardF rfl rfl hb21_6 ?_
            refine VX.guardF rfl rfl hb21_6 ?_
            exact VX.pickA rfl (fun h => absurd (h.symm.trans hb21_6) (by decide)) (VX.nil ⟨rfl, rfl⟩)
        refine VX.meek rfl ?_
        refine' VX.merge (d := 127) [_, _, _, _, _] rfl ?_ rfl ?_
        rotate_left
        · refine VX.guard rfl rfl (fun hb21_11 => ?_) (fun hb21_11 => ?_)
          · have ghb21_11 := hb21_11
            try simp only [au_std, Bool.not_true, Bool.not_false] at ghb21_11
            first | refine VX.meek rfl ?_ | refine VX.loadI rfl rfl au_l ?_ | refine VX.loadP rfl rfl rfl au_l ?_
            refine VX.guardT rfl rfl hb21_11 ?_
            refine VX.callP0 rfl rfl rfl (hfr) ?_
            refine VX.guardT rfl rfl hb21_11 ?_
            refine VX.meek rfl ?_
            refine VX.guardT rfl rfl hb21_11 ?_
            refine VX.meek rfl ?_
            refine VX.pickA rfl (fun _ => rfl) ?_
            exact VX.nil ⟨rfl, rfl⟩
          · refine VX.guardF rfl rfl hb21_11 ?_
            refine VX.guardF rfl rfl hb21_11 ?_
            refine VX.guardF rfl rfl hb21_11 ?_
            exact VX.pickA rfl (fun h => absurd (h.symm.trans hb21_11) (by decide)) (VX.nil ⟨rfl, rfl⟩)
        refine VX.meek rfl ?_
        refine VX.nil ?_
        refine VC.ret ?_
        exact ⟨trivial, _, rfl, Cv.eq (by first | rfl | (simp [*]; done)) rfl⟩
theorem managerAsks_wt {t0 t1 t2 : List T} (h0 : shU32.wt t0) (h1 : shU.wt t1) (h2 : Sh.bool.wt t2) : CallP Tryd.prog 7 [shU32.tree t0, shU.tree t1, Sh.bool.tree t2] (BL true) := by
  obtain ⟨a, rfl, ha⟩ := wt_u32 h0
  obtain ⟨b, rfl, hb⟩ := wt_u8 h1
  obtain ⟨c, rfl⟩ := wt_bool h2
  exact managerAsks_all a b c ha hb
end
section
open Go.RowKit
set_option maxRecDepth 100000
theorem glo_of {W : World} {l : List (String × DataW Unit)} (hf : l.filter (fun x => x.1 == "strings.asciiSpace") = [("strings.asciiSpace", Lib.tabData .u8 Lib.asciiSpaceTab)]) (h : laidMetH Tryd.prog l W) : Glo (inW (fun _ => none) W) := by
  have h2 := h.filter (fun x => x.1 == "strings.asciiSpace")
  rw [hf, MakeChecks.laidMetH_plain _ _ _ (by kernel_rfl)] at h2
  have ht : Lib.TabIs Tryd.prog W "strings.asciiSpace" .u8 Lib.asciiSpaceTab := Lib.tabIs_of_head (g := 1) (t := 222) (e := 5) (n := 256) (by kernel_rfl) (by kernel_rfl) (by kernel_rfl) (by kernel_rfl) (by kernel_rfl) (by kernel_rfl) h2
  intro g a hg
  have hg' : glT g = some a := hg
  unfold glT at hg'
  split at hg'
  · rename_i hgg
    subst hgg
    injection hg' with hg'
    subst hg'
    unfold Lib.TabIs World.var? at ht
    rw [show Tryd.prog.globalNamed "strings.asciiSpace" = some 1 from by kernel_rfl] at ht
    simp only [Option.bind_some] at ht
    refine ⟨fun h => h, ?_⟩
    show ∃ e f, W.heap[1]? = some (.cells spaceA e f)
    split at ht
    · rename_i cs e f he
      injection ht with ht
      subst ht
      exact ⟨_, _, he⟩
    · cases ht
  · cases hg'
end
section
open Go.ChangeShapes Go.WideShapes Go.ChangeAt Go.RowKit Go.WideElems
def rowed (P : Program) (ts : List TypeId) : Bool := ts.all fun t => P.readableRec t && decide (t < P.types.size)
theorem trodAll_below {H : Type} {enc : TypeId × Value → H} {P : Program} (hl : laidOutB P = true) {W W' : World} (hb : Below W.heap.size W W') :
    ∀ {ts : List TypeId} {vs : List Value} {ds : List (DataW H)} {p : List MemPlace}, rowed P ts = true → (∀ x ∈ p, x.block < W.heap.size) →
      DataW.TrodAll enc P W 0 (fun _ => true) true ts vs ds p → DataW.TrodAll enc P W' 0 (fun b => decide (b < W.heap.size)) true ts vs ds p
  | [], _, _, _, _, _, h => by
    obtain ⟨rfl, rfl, rfl⟩ := trodAll_nil h
    exact trodAll_mk0
  | t :: ts, _, _, _, hr, hlt, h => by
    obtain ⟨v, vs1, d, ds1, a, b, rfl, rfl, rfl, h1, h2⟩ := trodAll_cons h
    simp only [rowed, List.all_cons, Bool.and_eq_true, decide_eq_true_eq] at hr
    refine trodAll_cons_mk (Below.trod hl hr.1.1 hr.1.2 h1 hb (fun x hx => hlt x (by simp [hx]))) ?_
    exact trodAll_below hl hb (by simpa [rowed] using hr.2) (fun x hx => hlt x (by simp [hx])) h2
theorem post_law {H : Type} {enc : TypeId × Value → H} {P : Program} {f : Func} {s : ChangeSpec} {W W' : World} {args : Array Value} {ds gs : List (DataW H)} {before : List MemPlace} {tb : TypeId}
    (hl : laidOutB P = true) (hps : rowed P f.params.toList = true) (hvs : varsRowed P s.vars = true) (hres : f.resultTypes = #[tb]) (htb : P.underlying tb = some .bool)
    (hW : DataW.Whole enc P f.params.toList s.vars false W args.toList ds gs before)
    (h1 : (s.fn H (ds ++ gs)).results = [.lit (.bool true)]) (h2 : (s.fn H (ds ++ gs)).args = ds) (h3 : (s.fn H (ds ++ gs)).vars = gs)
    (hb : Below W.heap.size W W') : s.post enc P f false true false false W args (.bool true) W' := by
  have hlt := hW.lt
  have hW' := hW
  obtain ⟨p, q, hA, hV, rfl, hfz, hnd⟩ := hW
  refine ⟨ds, gs, p ++ q, [], p, q, hW', ?_, ?_, ?_, hb.frame _, fun h => by cases h⟩
  · rw [h1, hres]
    exact trodAll_cons_mk (shut_bool htb true) trodAll_mk0
  · rw [h2]
    exact trodAll_below hl hb hps (fun x hx => hlt x (by simp [hx])) hA
  · rw [h3]
    exact Below.trodVars hl hb hvs hV
end
end Go.Proofs.YtjnomaiejmgedaaDoor
