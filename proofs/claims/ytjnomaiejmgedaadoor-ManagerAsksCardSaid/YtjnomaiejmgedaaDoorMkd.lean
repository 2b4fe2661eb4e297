/-
  The proof's lemmas, part 4.
-/
import Derived.Test.YtjnomaiejmgedaaDoorMkc
import Derived.Test.YtjnomaiejmgedaaDoorShelfC
namespace Go.Proofs.YtjnomaiejmgedaaDoor
set_option linter.unusedSimpArgs false
set_option linter.unusedVariables false
section
open Go.RowKit
set_option maxRecDepth 10000
set_option maxHeartbeats 2000000
theorem titled_t (m : Mg) (o : Ot) (top : Int) (ok : m.Ok top) (hf : m.fresh = false) (htop : top ≤ 1000000) (hc15 : o.code = 15) (hl : o.l.length ≤ 100000) :
    CallT Tryd.prog 62 [.ptr 0 0, otT o] (tnH m (mF m) (mW m) []) (fun t H' => t = .tup [] ∧ H' = ranH (m.titled o.seq o.l).1 (m.titled o.seq o.l).2 []) := by
  have hpF := piF m.F
  have hpW := piW m.W
  have hpo := ot_pure o
  have hwt := waiting_t m 86 [.iptr (otC o) 0] (fun k => k.g + 1 == o.seq) [] (by simp only [T.pureL, T.pure, encL_pure]; rfl) (fun i j x y hx hy h1 h2 => ok.one o.seq hx hy (by simp at h1; omega) (by simp at h2; omega)) (clo_b o)
  cases h1 : posB m.W (fun k => k.g + 1 == o.seq) with
  | none =>
    have hr : m.titled o.seq o.l = (m, []) := by unfold Mg.titled; rw [h1]
    have hfw : foundW m (fun k => k.g + 1 == o.seq) = .tup [I64 0, BL false] := by unfold foundW; rw [h1]
    rw [hfw] at hwt
    rw [hr]
    refine CallT.intro tab_ok Tryd.func62 rfl (by kernel_rfl) (Nat.le_of_ble_eq_true rfl) ?_
    refine VC.reg tab_ok [3] rfl ?_
    refine VX.newI rfl rfl ?_
    refine VX.nil ?_
    refine VC.reg tab_ok [] rfl ?_
    refine VX.meek rfl ?_
    first | refine VX.meek rfl ?_ | refine VX.loadI rfl rfl au_l ?_ | refine VX.loadP rfl rfl rfl au_l ?_
    refine VX.nil ?_
    refine VC.block ?_
    refine VC.reg tab_ok [] rfl ?_
    iterate 2 refine VX.meek rfl ?_
    refine VX.nil ?_
    refine VC.cond rfl (fun hc0 => ?_) (fun hc0 => ?_)
    · exact absurd hc0 (by simp [hc15])
    · (try simp only [au_std] at hc0)
      refine VC.reg tab_ok [] rfl ?_
      iterate 2 refine VX.meek rfl ?_
      refine VX.nil ?_
      refine VC.cond rfl (fun hc2 => ?_) (fun hc2 => ?_)
      · (try simp only [au_std] at hc2)
        refine VC.reg tab_ok [] rfl ?_
        iterate 2 refine VX.meek rfl ?_
        refine VX.callT rfl rfl (CallT.frame (hwt) [0, 1, 2, 3] rfl au_ci au_ci ?_)
        rintro _ _ ⟨rfl, rfl⟩
        refine frK au_co au_co ?_
        iterate 5 refine VX.meek rfl ?_
        refine VX.nil ?_
        refine VC.reg tab_ok [] rfl ?_
        refine VX.meek rfl ?_
        refine VX.nil ?_
        refine VC.condF rfl ?_
        refine VC.skip ?_
        exact ⟨trivial, _, rfl, rfl, rfl⟩
      · exact absurd hc2 (by simp [hc15])
  | some i =>
    obtain ⟨⟨id, v⟩, he, -⟩ := posB_some h1
    have hr : m.titled o.seq o.l = Mg.manage { m with W := m.W.eraseIdx i } id v o.l := by unfold Mg.titled; rw [h1]; simp only [getM he]
    have hfw : foundW m (fun k => k.g + 1 == o.seq) = .tup [I64 id, BL true] := by unfold foundW; rw [h1]; simp only [getM he]
    have hlw := lookW_some ok.wk he false
    have hv := ok.wv _ (mem_at he)
    have ok1 := ok.dropW hf i
    have hmg := manage_t { m with W := m.W.eraseIdx i } id v o.l top ok1 htop (fun k => by obtain ⟨x, k1, k2⟩ := List.mem_map.1 k; exact ok.dis x k1 (k2 ▸ List.mem_map.2 ⟨_, mem_at he, rfl⟩)) hv.2.1 hv.2.2 hl
    rw [hfw] at hwt
    rw [hr]
    generalize Mg.manage { m with W := m.W.eraseIdx i } id v o.l = r at *
    have hpW1 := piW (m.W.eraseIdx i)
    obtain ⟨m2, rs⟩ := r
    have hpF2 := piF m2.F
    have hpW2 := piW m2.W
    obtain ⟨m1, hm1⟩ : ∃ m1 : Mg, m1 = { m with W := m.W.eraseIdx i } := ⟨_, rfl⟩
    match rs, hmg with
    | [], hmg =>
      have hmg : CallT Tryd.prog 87 [.ptr 0 0, I64 id, wtT v, cIf o.l] (tnH { m with W := m.W.eraseIdx i } (mF { m with W := m.W.eraseIdx i }) (mW { m with W := m.W.eraseIdx i }) []) (fun t H' => t = .tup [] ∧ H' = tnH m2 (mF m2) (mW m2) []) := hmg
      refine CallT.intro tab_ok Tryd.func62 rfl (by kernel_rfl) (Nat.le_of_ble_eq_true rfl) ?_
      refine VC.reg tab_ok [3] rfl ?_
      refine VX.newI rfl rfl ?_
      refine VX.nil ?_
      refine VC.reg tab_ok [] rfl ?_
      refine VX.meek rfl ?_
      first | refine VX.meek rfl ?_ | refine VX.loadI rfl rfl au_l ?_ | refine VX.loadP rfl rfl rfl au_l ?_
      refine VX.nil ?_
      refine VC.block ?_
      refine VC.reg tab_ok [] rfl ?_
      iterate 2 refine VX.meek rfl ?_
      refine VX.nil ?_
      refine VC.cond rfl (fun hc0 => ?_) (fun hc0 => ?_)
      · exact absurd hc0 (by simp [hc15])
      · (try simp only [au_std] at hc0)
        refine VC.reg tab_ok [] rfl ?_
        iterate 2 refine VX.meek rfl ?_
        refine VX.nil ?_
        refine VC.cond rfl (fun hc2 => ?_) (fun hc2 => ?_)
        · (try simp only [au_std] at hc2)
          refine VC.reg tab_ok [] rfl ?_
          iterate 2 refine VX.meek rfl ?_
          refine VX.callT rfl rfl (CallT.frame (hwt) [0, 1, 2, 3] rfl au_ci au_ci ?_)
          rintro _ _ ⟨rfl, rfl⟩
          refine frK au_co au_co ?_
          iterate 5 refine VX.meek rfl ?_
          refine VX.nil ?_
          refine VC.reg tab_ok [] rfl ?_
          refine VX.meek rfl ?_
          refine VX.nil ?_
          refine VC.condT rfl ?_
          refine VC.reg tab_ok [] rfl ?_
          iterate 4 refine VX.meek rfl ?_
          first | refine VX.meek rfl ?_ | refine VX.loadI rfl rfl au_l ?_ | refine VX.loadP rfl rfl rfl au_l ?_
          refine VX.meek rfl ?_
          refine VX.lookO tab_ok rfl rfl rfl hlw ?_
          refine VX.new rfl rfl ?_
          refine VX.store rfl rfl rfl rfl rfl au_s rfl ?_
          refine VX.nil ?_
          refine VC.view ([(0, .ptr 0 0), (9, .iptr (wtC v) 0)]) (tnH m (mF m) (mW m) []) [3, 7] rfl (by refine ⟨[some 0, some 1, some 2, some 3], rfl, by first | trivial | decide, by first | rfl | (simp only [noO, Bool.and_true, Bool.and_eq_true]; first | assumption | (refine ⟨?_, ?_⟩ <;> assumption)) | (simp only [noO, *, Bool.and_true, Bool.true_and, Bool.and_self]; done), ?_, ?_⟩ <;> (repeat' first | exact trivial | exact CvB_n | exact CvB_d | exact CvB_o rfl | refine CvE_app ?_ ?_ | refine CvE_cons rfl ?_ ?_ | refine CvH_cons ?_ ?_ | refine CvB_c rfl ?_ | fail) <;> first | exact au_v | (first | exact cv_tn (Cv.om rfl) (Cv.om rfl) (Cv.slc rfl (.inr rfl)) | exact cv_tn (Cv.om rfl) (Cv.om rfl) (Cv.slc rfl (.inl rfl)) | exact CvL.pure (encL_pure _ _) | exact Cv.ptr rfl | exact Cv.fptr ⟨rfl, (show some 4 ∉ [some 0, some 1, some 2, some 3] by simp)⟩ (CvL.pure rfl))) ?_
          refine VC.reg tab_ok [] rfl ?_
          iterate 4 refine VX.meek rfl ?_
          first | refine VX.meek rfl ?_ | refine VX.loadI rfl rfl au_l ?_ | refine VX.loadP rfl rfl rfl au_l ?_
          refine VX.meek rfl ?_
          refine VX.delete tab_ok rfl rfl rfl rfl rfl rfl rfl (by exact likeF _ _) (keyAt he) ?_; rw [delW]
          refine VX.nil ?_
          refine VC.regN tab_ok [] rfl ?_
          iterate 2 refine VX.meek rfl ?_
          first | refine VX.meek rfl ?_ | refine VX.loadI rfl rfl au_l ?_ | refine VX.loadP rfl rfl rfl au_l ?_
          refine VX.meek rfl ?_
          first | refine VX.meek rfl ?_ | refine VX.loadI rfl rfl au_l ?_ | refine VX.loadP rfl rfl rfl au_l ?_
          refine VX.callT rfl rfl (CallT.frame (hmg) [0, 1, 2, 3] rfl au_ci au_ci ?_)
          rintro _ _ ⟨rfl, rfl⟩
          refine frK au_co au_co ?_
          refine VX.nil ?_
          exact ⟨trivial, _, rfl, rfl, rfl⟩
        · exact absurd hc2 (by simp [hc15])
    | [r1], hmg =>
      have hmg : CallT Tryd.prog 87 [.ptr 0 0, I64 id, wtT v, cIf o.l] (tnH { m with W := m.W.eraseIdx i } (mF { m with W := m.W.eraseIdx i }) (mW { m with W := m.W.eraseIdx i }) []) (fun t H' => t = .tup [] ∧ H' = tnH1 m2 (mF m2) (mW m2) [r1]) := hmg
      refine CallT.intro tab_ok Tryd.func62 rfl (by kernel_rfl) (Nat.le_of_ble_eq_true rfl) ?_
      refine VC.reg tab_ok [3] rfl ?_
      refine VX.newI rfl rfl ?_
      refine VX.nil ?_
      refine VC.reg tab_ok [] rfl ?_
      refine VX.meek rfl ?_
      first | refine VX.meek rfl ?_ | refine VX.loadI rfl rfl au_l ?_ | refine VX.loadP rfl rfl rfl au_l ?_
      refine VX.nil ?_
      refine VC.block ?_
      refine VC.reg tab_ok [] rfl ?_
      iterate 2 refine VX.meek rfl ?_
      refine VX.nil ?_
      refine VC.cond rfl (fun hc0 => ?_) (fun hc0 => ?_)
      · exact absurd hc0 (by simp [hc15])
      · (try simp only [au_std] at hc0)
        refine VC.reg tab_ok [] rfl ?_
        iterate 2 refine VX.meek rfl ?_
        refine VX.nil ?_
        refine VC.cond rfl (fun hc2 => ?_) (fun hc2 => ?_)
        · (try simp only [au_std] at hc2)
          refine VC.reg tab_ok [] rfl ?_
          iterate 2 refine VX.meek rfl ?_
          refine VX.callT rfl rfl (CallT.frame (hwt) [0, 1, 2, 3] rfl au_ci au_ci ?_)
          rintro _ _ ⟨rfl, rfl⟩
          refine frK au_co au_co ?_
          iterate 5 refine VX.meek rfl ?_
          refine VX.nil ?_
          refine VC.reg tab_ok [] rfl ?_
          refine VX.meek rfl ?_
          refine VX.nil ?_
          refine VC.condT rfl ?_
          refine VC.reg tab_ok [] rfl ?_
          iterate 4 refine VX.meek rfl ?_
          first | refine VX.meek rfl ?_ | refine VX.loadI rfl rfl au_l ?_ | refine VX.loadP rfl rfl rfl au_l ?_
          refine VX.meek rfl ?_
          refine VX.lookO tab_ok rfl rfl rfl hlw ?_
          refine VX.new rfl rfl ?_
          refine VX.store rfl rfl rfl rfl rfl au_s rfl ?_
          refine VX.nil ?_
          refine VC.view ([(0, .ptr 0 0), (9, .iptr (wtC v) 0)]) (tnH m (mF m) (mW m) []) [3, 7] rfl (by refine ⟨[some 0, some 1, some 2, some 3], rfl, by first | trivial | decide, by first | rfl | (simp only [noO, Bool.and_true, Bool.and_eq_true]; first | assumption | (refine ⟨?_, ?_⟩ <;> assumption)) | (simp only [noO, *, Bool.and_true, Bool.true_and, Bool.and_self]; done), ?_, ?_⟩ <;> (repeat' first | exact trivial | exact CvB_n | exact CvB_d | exact CvB_o rfl | refine CvE_app ?_ ?_ | refine CvE_cons rfl ?_ ?_ | refine CvH_cons ?_ ?_ | refine CvB_c rfl ?_ | fail) <;> first | exact au_v | (first | exact cv_tn (Cv.om rfl) (Cv.om rfl) (Cv.slc rfl (.inr rfl)) | exact cv_tn (Cv.om rfl) (Cv.om rfl) (Cv.slc rfl (.inl rfl)) | exact CvL.pure (encL_pure _ _) | exact Cv.ptr rfl | exact Cv.fptr ⟨rfl, (show some 4 ∉ [some 0, some 1, some 2, some 3] by simp)⟩ (CvL.pure rfl))) ?_
          refine VC.reg tab_ok [] rfl ?_
          iterate 4 refine VX.meek rfl ?_
          first | refine VX.meek rfl ?_ | refine VX.loadI rfl rfl au_l ?_ | refine VX.loadP rfl rfl rfl au_l ?_
          refine VX.meek rfl ?_
          refine VX.delete tab_ok rfl rfl rfl rfl rfl rfl rfl (by exact likeF _ _) (keyAt he) ?_; rw [delW]
          refine VX.nil ?_
          refine VC.regN tab_ok [] rfl ?_
          iterate 2 refine VX.meek rfl ?_
          first | refine VX.meek rfl ?_ | refine VX.loadI rfl rfl au_l ?_ | refine VX.loadP rfl rfl rfl au_l ?_
          refine VX.meek rfl ?_
          first | refine VX.meek rfl ?_ | refine VX.loadI rfl rfl au_l ?_ | refine VX.loadP rfl rfl rfl au_l ?_
          refine VX.callT rfl rfl (CallT.frame (hmg) [0, 1, 2, 3] rfl au_ci au_ci ?_)
          rintro _ _ ⟨rfl, rfl⟩
          refine frK au_co au_co ?_
          refine VX.nil ?_
          exact ⟨trivial, _, rfl, rfl, rfl⟩
        · exact absurd hc2 (by simp [hc15])
    | r1 :: r2 :: rs, hmg =>
      have hmg : CallT Tryd.prog 87 [.ptr 0 0, I64 id, wtT v, cIf o.l] (tnH { m with W := m.W.eraseIdx i } (mF { m with W := m.W.eraseIdx i }) (mW { m with W := m.W.eraseIdx i }) []) (fun t H' => t = .tup [] ∧ H' = tnH2 m2 (mF m2) (mW m2) (r1 :: r2 :: rs)) := hmg
      refine CallT.intro tab_ok Tryd.func62 rfl (by kernel_rfl) (Nat.le_of_ble_eq_true rfl) ?_
      refine VC.reg tab_ok [3] rfl ?_
      refine VX.newI rfl rfl ?_
      refine VX.nil ?_
      refine VC.reg tab_ok [] rfl ?_
      refine VX.meek rfl ?_
      first | refine VX.meek rfl ?_ | refine VX.loadI rfl rfl au_l ?_ | refine VX.loadP rfl rfl rfl au_l ?_
      refine VX.nil ?_
      refine VC.block ?_
      refine VC.reg tab_ok [] rfl ?_
      iterate 2 refine VX.meek rfl ?_
      refine VX.nil ?_
      refine VC.cond rfl (fun hc0 => ?_) (fun hc0 => ?_)
      · exact absurd hc0 (by simp [hc15])
      · (try simp only [au_std] at hc0)
        refine VC.reg tab_ok [] rfl ?_
        iterate 2 refine VX.meek rfl ?_
        refine VX.nil ?_
        refine VC.cond rfl (fun hc2 => ?_) (fun hc2 => ?_)
        · (try simp only [au_std] at hc2)
          refine VC.reg tab_ok [] rfl ?_
          iterate 2 refine VX.meek rfl ?_
          refine VX.callT rfl rfl (CallT.frame (hwt) [0, 1, 2, 3] rfl au_ci au_ci ?_)
          rintro _ _ ⟨rfl, rfl⟩
          refine frK au_co au_co ?_
          iterate 5 refine VX.meek rfl ?_
          refine VX.nil ?_
          refine VC.reg tab_ok [] rfl ?_
          refine VX.meek rfl ?_
          refine VX.nil ?_
          refine VC.condT rfl ?_
          refine VC.reg tab_ok [] rfl ?_
          iterate 4 refine VX.meek rfl ?_
          first | refine VX.meek rfl ?_ | refine VX.loadI rfl rfl au_l ?_ | refine VX.loadP rfl rfl rfl au_l ?_
          refine VX.meek rfl ?_
          refine VX.lookO tab_ok rfl rfl rfl hlw ?_
          refine VX.new rfl rfl ?_
          refine VX.store rfl rfl rfl rfl rfl au_s rfl ?_
          refine VX.nil ?_
          refine VC.view ([(0, .ptr 0 0), (9, .iptr (wtC v) 0)]) (tnH m (mF m) (mW m) []) [3, 7] rfl (by refine ⟨[some 0, some 1, some 2, some 3], rfl, by first | trivial | decide, by first | rfl | (simp only [noO, Bool.and_true, Bool.and_eq_true]; first | assumption | (refine ⟨?_, ?_⟩ <;> assumption)) | (simp only [noO, *, Bool.and_true, Bool.true_and, Bool.and_self]; done), ?_, ?_⟩ <;> (repeat' first | exact trivial | exact CvB_n | exact CvB_d | exact CvB_o rfl | refine CvE_app ?_ ?_ | refine CvE_cons rfl ?_ ?_ | refine CvH_cons ?_ ?_ | refine CvB_c rfl ?_ | fail) <;> first | exact au_v | (first | exact cv_tn (Cv.om rfl) (Cv.om rfl) (Cv.slc rfl (.inr rfl)) | exact cv_tn (Cv.om rfl) (Cv.om rfl) (Cv.slc rfl (.inl rfl)) | exact CvL.pure (encL_pure _ _) | exact Cv.ptr rfl | exact Cv.fptr ⟨rfl, (show some 4 ∉ [some 0, some 1, some 2, some 3] by simp)⟩ (CvL.pure rfl))) ?_
          refine VC.reg tab_ok [] rfl ?_
          iterate 4 refine VX.meek rfl ?_
          first | refine VX.meek rfl ?_ | refine VX.loadI rfl rfl au_l ?_ | refine VX.loadP rfl rfl rfl au_l ?_
          refine VX.meek rfl ?_
          refine VX.delete tab_ok rfl rfl rfl rfl rfl rfl rfl (by exact likeF _ _) (keyAt he) ?_; rw [delW]
          refine VX.nil ?_
          refine VC.regN tab_ok [] rfl ?_
          iterate 2 refine VX.meek rfl ?_
          first | refine VX.meek rfl ?_ | refine VX.loadI rfl rfl au_l ?_ | refine VX.loadP rfl rfl rfl au_l ?_
          refine VX.meek rfl ?_
          first | refine VX.meek rfl ?_ | refine VX.loadI rfl rfl au_l ?_ | refine VX.loadP rfl rfl rfl au_l ?_
          refine VX.callT rfl rfl (CallT.frame (hmg) [0, 1, 2, 3] rfl au_ci au_ci ?_)
          rintro _ _ ⟨rfl, rfl⟩
          refine frK au_co au_co ?_
          refine VX.nil ?_
          exact ⟨trivial, _, rfl, rfl, rfl⟩
        · exact absurd hc2 (by simp [hc15])
end
section
open Go.RowKit
set_option maxRecDepth 10000
set_option maxHeartbeats 1000000
theorem CallP.of_glo {P : Program} {f : FuncId} {args : List T} {r : T} (hp : T.pureL args = true) (hr : r.pure = true) (hgo : goB P f = true)
    (h : ∀ (M : Mp) vs, Glo M → (∀ B, M.X B → B < M.w.heap.size) → RepL M args vs → Calls P f vs.toArray M.w (fun e w' => ∃ u, e = .returned u ∧ Below M.w.heap.size M.w w' ∧ Rep ⟨M.β, M.X, w'⟩ r u)) : CallP P f args r := by
  refine ⟨hp, hr, hgo, fun X0 M vs hS hrep => ?_⟩
  refine (h M vs hS.glo hS.bnd hrep).mono ?_
  rintro e w' ⟨u, rfl, hb, hu⟩
  have hk : ∀ B, B < M.w.heap.size → w'.heap[B]? = M.w.heap[B]? := fun B hB => hb.block B hB
  have hE : Evo X0 M ⟨M.β, M.X, w'⟩ := ⟨fun _ _ h => h, fun _ _ h => h, fun B hB _ => hk B hB, fun B s hs => by
    have : B < M.w.heap.size := by
      rcases Nat.lt_or_ge B M.w.heap.size with h1 | h1
      · exact h1
      · simp [World.shape?, Array.getElem?_eq_none h1] at hs
    rw [← hs]; exact shape_block (hk B this), hb.os, ⟨hb.tape, fun d => d.elim⟩, hb.output, hb.size⟩
  exact ⟨u, r, [], ⟨M.β, M.X, w'⟩, rfl, rfl, rfl, hE, hS.world hE hk, hu⟩
theorem repA_strs (M : Mp) : ∀ (l : List (List UInt8)) (a : Array Value) (j : Nat), (∀ i s, l[i]? = some s → a[j + i]? = some (.string ⟨s.toArray⟩)) → RepA M (encL cStr l) a j
  | [], a, j, h => trivial
  | s :: l, a, j, h => ⟨_, by simpa using h 0 s rfl, rfl, repA_strs M l a (j + 1) fun i s' h' => by
    have := h (i + 1) s' (by simpa using h')
    rwa [show j + (i + 1) = j + 1 + i from by omega] at this⟩
theorem fields_p (s : List UInt8) (hs : s.length ≤ 1000) (has : ∀ b ∈ s, b.toNat < 128) (hn : (Lib.fields s).length ≤ 1000) :
    CallP Tryd.prog 120 [strT s] (.islc (encL cStr (Lib.fields s)) (Lib.fields s).length none) := by
  refine CallP.of_glo rfl (by simp only [T.pure, encL_pure]) (by kernel_rfl) fun M vs hG hX hrep => ?_
  obtain rfl : vs = [.string ⟨s.toArray⟩] := by obtain ⟨u, q, rfl, rfl, rfl⟩ := hrep; rfl
  have htab : Lib.TabIs Tryd.prog M.w "strings.asciiSpace" .u8 Lib.asciiSpaceTab := by
    obtain ⟨-, e, f, hb⟩ := hG 1 spaceA (show glT 1 = some spaceA from if_pos rfl)
    unfold Lib.TabIs World.var?
    rw [show Tryd.prog.globalNamed "strings.asciiSpace" = some 1 from by kernel_rfl]
    simp only [Option.bind_some, hb]
    rfl
  refine (Tryd.strings_Fields_laid ⟨s.toArray⟩ M.w (by show s.toArray.size < _; rw [List.size_toArray]; omega) (fun j b h => has b (by have := List.mem_of_getElem? h; simpa using this)) htab).mono ?_
  rintro e w' ⟨rfl, rfl⟩
  have hl : (⟨s.toArray⟩ : ByteArray).data.toList = s := by simp
  rw [hl]
  refine ⟨_, rfl, ⟨rfl, rfl, rfl, by show _ ≤ (M.w.heap.push _).size; rw [Array.size_push]; omega, fun k hk => by show (M.w.heap.push _)[k]? = _; rw [Array.getElem?_push_lt hk, Array.getElem?_eq_getElem hk]⟩, ?_⟩
  refine ⟨some ⟨M.w.heap.size, 0, none⟩, (Lib.fields s).length, rfl, Nat.le_refl _, by unfold maxLen; omega, fun q h => (by cases h), .inr ⟨M.w.heap.size, 0, _, rfl, ⟨fun hx => Nat.lt_irrefl _ (hX _ hx), _, _, by show (M.w.heap.push _)[M.w.heap.size]? = _; rw [Array.getElem?_push_size]⟩, ?_⟩⟩
  refine repA_strs _ _ _ _ fun i s' h => ?_
  rw [Nat.zero_add, List.getElem?_toArray, List.getElem?_map, h]; rfl
theorem indexAny_p (s c : List UInt8) (hs : s.length ≤ 1000) (hc : c.length ≤ 1000) (has : ∀ b ∈ s, b.toNat < 128) (hac : ∀ b ∈ c, b.toNat < 128) :
    CallP Tryd.prog 149 [strT s, strT c] (I64 (Lib.indexAny s c)) := by
  refine CallP.of_glo rfl rfl (by kernel_rfl) fun M vs hG hX hrep => ?_
  obtain rfl : vs = [.string ⟨s.toArray⟩, .string ⟨c.toArray⟩] := by obtain ⟨u, q, rfl, rfl, u2, q2, rfl, rfl, rfl⟩ := hrep; rfl
  refine (Tryd.strings_IndexAny_laid ⟨s.toArray⟩ ⟨c.toArray⟩ M.w (by show s.toArray.size < _; rw [List.size_toArray]; omega) (by show c.toArray.size < _; rw [List.size_toArray]; omega) (fun j b h => has b (by have := List.mem_of_getElem? h; simpa using this)) (fun j b h => hac b (by have := List.mem_of_getElem? h; simpa using this))).mono ?_
  rintro e w' ⟨rfl, hb⟩
  refine ⟨_, rfl, hb, ?_⟩
  have hl : (⟨s.toArray⟩ : ByteArray).data.toList = s := by simp
  have hl2 : (⟨c.toArray⟩ : ByteArray).data.toList = c := by simp
  rw [hl, hl2]; rfl
end
section
open Go.RowKit
set_option maxRecDepth 10000
set_option maxHeartbeats 1000000
section
variable {q : Bool} {P : Program} {tab : Tab} {im : List Nat} {ds : List (Option Nat)} {l : List Oper} {E : Env} {H : Hp} {K : Env → Hp → Prop} {d : Nat} {ty : TypeId} {pos : String} {after : Array Edge}
theorem VX.strHd [Dr] {x hi : Operand} {t : Nat} {k : IntKind} {m : Nat} {xs : List UInt8} {i : TyI} (hT : tab t = some i) (hk : i.k = .str) (hx : E.opd x = some (strT xs)) (hh : E.opd hi = some (.v (.int k (m : Int)))) (hm : m ≤ xs.length) (kk : VX q P tab im ds l ((d, strT (xs.take m)) :: E) H K) : VX q P tab im ds (⟨some d, .slice t x none (some hi) none, ty, pos, after, none⟩ :: l) E H K := by
  refine VX.meek (t := strT (xs.take m)) ?_ kk
  have hs : (m : Int) ≤ ((⟨xs.toArray⟩ : ByteArray).size : Int) := by show (m : Int) ≤ (xs.length : Int); omega
  have he : (⟨xs.toArray⟩ : ByteArray).extract 0 m = ⟨(xs.take m).toArray⟩ := by
    have : ∀ a b : ByteArray, a.data = b.data → a = b := fun ⟨_⟩ ⟨_⟩ h => by simp only at h; subst h; rfl
    apply this
    rw [ByteArray.data_extract]
    simp
  simp only [opM, hx, optI, hh, mSlice, hT, hk, Option.isSome_none, Bool.false_eq_true, if_false, Option.getD_some, Option.getD_none]
  rw [if_pos ⟨Int.le_refl 0, Int.natCast_nonneg m, hs⟩, Int.toNat_natCast, Int.toNat_zero, he]
theorem VX.strEqN [Dr] {x y : Operand} {t t2 : Nat} {a b : List UInt8} (hx : E.opd x = some (strT a)) (hy : E.opd y = some (strT b)) (k : VX q P tab im ds l ((d, BL (a == b)) :: E) H K) : VX q P tab im ds (⟨some d, .binOp .eql t x y t2, ty, pos, after, none⟩ :: l) E H K := by
  refine VX.meek (t := BL (a == b)) ?_ k
  simp only [opM, hx, hy, mBin, binStr]
  rw [str_beq]
  rfl
end
abbrev digs : List UInt8 := [45, 48, 49, 50, 51, 52, 53, 54, 55, 56, 57]
def sizeS (f : List UInt8) : Int := IntKind.i64.wrap (IntKind.u8.wrap (((f[f.length - 1]?.getD 0).toNat : Int) - 48))
def splitS (f : List UInt8) : List UInt8 × Int :=
  if Lib.indexAny f digs < 0 then (f, 0) else (f.take (Lib.indexAny f digs).toNat, if f[(Lib.indexAny f digs).toNat]?.getD 0 = 45 then IntKind.i64.wrap (0 - sizeS f) else sizeS f)
def fieldB (f : List UInt8) : Bool := decide (f.length ≤ 1000) && f.all (fun b => decide (b.toNat < 128)) && decide (Lib.indexAny f digs < f.length)
def lineB (s : List UInt8) : Bool := decide (s.length ≤ 1000) && s.all (fun b => decide (b.toNat < 128)) && decide ((Lib.fields s).length ≤ 1000) && (Lib.fields s).all fieldB
theorem split_p (f : List UInt8) (h : fieldB f = true) : CallP Tryd.prog 121 [strT f] (.tup [strT (splitS f).1, I64 (splitS f).2]) := by
  unfold fieldB at h
  simp only [Bool.and_eq_true, decide_eq_true_eq, List.all_eq_true] at h
  obtain ⟨⟨h1, h2⟩, h3⟩ := h
  have hix := indexAny_p f digs h1 (by decide) h2 (by decide)
  unfold splitS
  generalize Lib.indexAny f digs = a at *
  by_cases ha : a < 0
  · rw [if_pos ha]
    refine CallP.intro2 au_pu au_pu ?_
    refine CallT.intro tab_ok Tryd.func121 rfl (by kernel_rfl) (Nat.le_of_ble_eq_true rfl) ?_
    refine VC.reg tab_ok [] rfl ?_
    iterate 2 refine VX.meek rfl ?_
    refine VX.nil ?_
    refine VC.reg tab_ok [] rfl ?_
    refine VX.meek rfl ?_
    refine VX.callP0 rfl rfl rfl (hix) ?_
    refine VX.meek rfl ?_
    refine VX.nil ?_
    refine VC.seq ?_
    refine VC.reg tab_ok [] rfl ?_
    iterate 2 refine VX.meek rfl ?_
    refine VX.nil ?_
    refine VC.cond rfl (fun hc0 => ?_) (fun hc0 => ?_)
    · (try simp only [au_std] at hc0)
      refine VC.reg tab_ok [] rfl ?_
      iterate 3 refine VX.meek rfl ?_
      refine VX.nil ?_
      refine VC.ret ?_
      exact ⟨trivial, _, rfl, Cv.eq (by first | rfl | (simp [*]; done)) rfl⟩
    · exact absurd hc0 (by first | omega | (simp; omega) | simp [ha])
  · rw [if_neg ha]
    obtain ⟨m, rfl⟩ := Int.eq_ofNat_of_zero_le (show 0 ≤ a by omega)
    rw [Int.toNat_natCast]
    have hm : m < f.length := by omega
    have hlast : f[f.length - 1]? = some (f[f.length - 1]?.getD 0) := by rw [List.getElem?_eq_getElem (by omega)]; rfl
    have hat : f[m]? = some (f[m]?.getD 0) := by rw [List.getElem?_eq_getElem hm]; rfl
    have hlc : ((f.length : Int) - 1) = ((f.length - 1 : Nat) : Int) := by omega
    refine CallP.intro2 au_pu au_pu ?_
    refine CallT.intro tab_ok Tryd.func121 rfl (by kernel_rfl) (Nat.le_of_ble_eq_true rfl) ?_
    refine VC.reg tab_ok [] rfl ?_
    iterate 2 refine VX.meek rfl ?_
    refine VX.nil ?_
    refine VC.reg tab_ok [] rfl ?_
    refine VX.meek rfl ?_
    refine VX.callP0 rfl rfl rfl (hix) ?_
    refine VX.meek rfl ?_
    refine VX.nil ?_
    refine VC.seq ?_
    refine VC.reg tab_ok [] rfl ?_
    iterate 2 refine VX.meek rfl ?_
    refine VX.nil ?_
    refine VC.cond rfl (fun hc0 => ?_) (fun hc0 => ?_)
    · exact absurd hc0 (by first | omega | (simp; omega) | simp)
    · (try simp only [au_std] at hc0)
      refine VC.skip ?_
      refine VC.reg tab_ok [] rfl ?_
      iterate 2 refine VX.meek rfl ?_
      refine VX.meek (t := I64 (f.length : Nat)) rfl ?_
      first | refine VX.sub rfl rfl (by omega) ?_ | refine VX.meek rfl ?_
      refine VX.idxY rfl rfl rfl rfl hlc hlast ?_
      first | refine VX.sub rfl rfl (by omega) ?_ | refine VX.meek rfl ?_
      first | refine VX.meek rfl ?_ | refine VX.bytes tab_ok rfl rfl rfl rfl rfl rfl rfl rfl (by first | omega | (dsimp only; omega) | assumption) ?_
      refine VX.meek rfl ?_
      refine VX.nil ?_
      refine VC.seq ?_
      refine VC.reg tab_ok [] rfl ?_
      iterate 2 refine VX.meek rfl ?_
      refine VX.idxY rfl rfl rfl rfl rfl hat ?_
      refine VX.meek rfl ?_
      refine VX.nil ?_
      refine VC.cond rfl (fun hc1 => ?_) (fun hc1 => ?_)
      · have hx : f[m]?.getD 0 = 45 := (UInt8.toNat_inj.1 (by have : (((f[m]?.getD 0).toNat : Nat) : Int) = 45 := (by simpa using hc1); show (f[m]?.getD 0).toNat = 45; omega))
        refine VC.regN tab_ok [] rfl ?_
        iterate 3 refine VX.meek rfl ?_
        refine VX.nil ?_
        refine VC.reg tab_ok [] rfl ?_
        iterate 2 refine VX.meek rfl ?_
        refine VX.strHd rfl rfl rfl rfl (by omega) ?_
        iterate 3 refine VX.meek rfl ?_
        refine VX.nil ?_
        refine VC.ret ?_
        exact ⟨trivial, _, rfl, Cv.eq (by rw [if_pos hx]; rfl) rfl⟩
      · have hx : ¬ f[m]?.getD 0 = 45 := (fun k => by rw [k] at hc1; simp at hc1)
        refine VC.skip ?_
        refine VC.reg tab_ok [] rfl ?_
        iterate 2 refine VX.meek rfl ?_
        refine VX.strHd rfl rfl rfl rfl (by omega) ?_
        iterate 3 refine VX.meek rfl ?_
        refine VX.nil ?_
        refine VC.ret ?_
        exact ⟨trivial, _, rfl, Cv.eq (by rw [if_neg hx]; rfl) rfl⟩
structure Fm where
  fx : List Int
  b : Bool
  l : Int
abbrev fmT (m : Fm) : T := .agg [cIf m.fx, BL m.b, I64 m.l]
def fmAdd (m : Fm) (f : List UInt8) : Fm := if (splitS f).1 = [66] then { m with b := true } else if (splitS f).1 = [76] then { m with l := (splitS f).2 } else { m with fx := m.fx ++ [(splitS f).2] }
def fmOf (fs : List (List UInt8)) : Fm := fs.foldl fmAdd ⟨[], false, 0⟩
theorem fmOf_snoc (fs : List (List UInt8)) (f : List UInt8) : fmOf (fs ++ [f]) = fmAdd (fmOf fs) f := by unfold fmOf; rw [List.foldl_append]; rfl
theorem fmOf_len (fs : List (List UInt8)) : (fmOf fs).fx.length ≤ fs.length := by
  have : ∀ (fs : List (List UInt8)) (m : Fm), (fs.foldl fmAdd m).fx.length ≤ m.fx.length + fs.length := by
    intro fs
    induction fs with
    | nil => intro m; simp
    | cons f fs ih =>
      intro m
      rw [List.foldl_cons]
      refine Nat.le_trans (ih _) ?_
      have : (fmAdd m f).fx.length ≤ m.fx.length + 1 := by
        unfold fmAdd
        split
        · simp
        · split <;> simp
      simp only [List.length_cons]; omega
  have h := this fs ⟨[], false, 0⟩
  unfold fmOf
  simpa using h
theorem form_p (s : List UInt8) (h : lineB s = true) : CallP Tryd.prog 84 [strT s] (fmT (fmOf (Lib.fields s))) := by
  unfold lineB at h
  simp only [Bool.and_eq_true, decide_eq_true_eq, List.all_eq_true] at h
  obtain ⟨⟨⟨h1, h2⟩, h3⟩, h4⟩ := h
  have hfp := fields_p s h1 h2 h3
  generalize Lib.fields s = fs at *
  have hpu := encL_pure cI (fmOf fs).fx
  refine CallP.intro2 au_pu au_pu ?_
  refine CallT.intro tab_ok Tryd.func84 rfl (by kernel_rfl) (Nat.le_of_ble_eq_true rfl) ?_
  refine VC.reg tab_ok [] rfl ?_
  refine VX.new rfl rfl ?_
  refine VX.nil ?_
  refine VC.reg tab_ok [] rfl ?_
  refine VX.new rfl rfl ?_
  refine VX.nil ?_
  refine VC.seq ?_
  refine VC.reg tab_ok [] rfl ?_
  refine VX.meek rfl ?_
  refine VX.callP0 rfl rfl rfl (hfp) ?_
  iterate 2 refine VX.meek rfl ?_
  refine VX.nil ?_
  refine VC.block ?_
  refine VC.loopS (σ := Nat) (fun k => fs.length - k) (fun k => k ≤ fs.length) (fun k => [(11, I64 k), (2, .ptr 0 0), (3, .ptr 1 0)]) (fun k => [.c [NIL, BL false, I64 0], .c [.slc 2 0 (fmOf (fs.take k)).fx.length 1 none, BL (fmOf (fs.take k)).b, I64 (fmOf (fs.take k)).l], .c (encL cI (fmOf (fs.take k)).fx)]) [9, 10] rfl (0) ?_ ?_ ?_
  · refine ⟨[some 0, some 1, none], rfl, by first | trivial | decide, by first | rfl | (simp only [noO, Bool.and_true, Bool.and_eq_true]; first | assumption | (refine ⟨?_, ?_⟩ <;> assumption)) | (simp only [noO, *, Bool.and_true, Bool.true_and, Bool.and_self]; done), ?_, ?_⟩ <;> (repeat' first | exact trivial | exact CvB_n | exact CvB_d | exact CvB_o rfl | refine CvE_app ?_ ?_ | refine CvE_cons rfl ?_ ?_ | refine CvH_cons ?_ ?_ | refine CvB_c rfl ?_ | fail) <;> first | exact au_v | (first | exact CvL.pure rfl | exact CvL.cons (Cv.nilv rfl) (CvL.pure rfl))
  · (try dsimp only); omega
  rintro k hk
  refine VC.reg tab_ok [] rfl ?_
  refine VX.meek rfl ?_
  refine VX.nil ?_
  refine VC.seq ?_
  refine VC.cond rfl (fun hc0 => ?_) (fun hc0 => ?_)
  · (try simp only [au_std] at hc0); have hkl : k < fs.length := (by omega); have hff := h4 fs[k]! (List.mem_iff_getElem?.2 ⟨k, getE hkl⟩); have hsp := split_p fs[k]! hff; have hsn : fmOf (fs.take (k + 1)) = fmAdd (fmOf (fs.take k)) fs[k]! := (by rw [List.take_add_one, List.getElem?_eq_getElem hkl, getElem!_pos fs k hkl]; exact fmOf_snoc _ _); have hlen := fmOf_len (fs.take k); have htk : (fs.take k).length = k := (by rw [List.length_take]; omega)
    generalize fmOf (fs.take k) = m at *
    unfold fmAdd at hsn
    generalize splitS fs[k]! = r at *
    refine VC.skip ?_
    refine VC.seq ?_
    refine VC.block ?_
    refine VC.reg tab_ok [] rfl ?_
    first | refine VX.idxI rfl rfl rfl rfl rfl rfl (by omega) ?_ | refine VX.idxO0 rfl rfl rfl rfl rfl rfl rfl (by omega) ?_ | refine VX.idxO0 rfl rfl rfl rfl rfl rfl au_z (by omega) ?_ | refine VX.idxO rfl rfl rfl rfl rfl rfl rfl (by omega) ?_ | refine VX.idxI rfl rfl rfl rfl rfl au_z (by omega) ?_ | refine VX.idxO rfl rfl rfl rfl rfl rfl au_z (by omega) ?_ | refine VX.meek rfl ?_
    first | refine VX.meek rfl ?_ | refine VX.loadI rfl rfl au_l ?_ | refine VX.loadP rfl rfl rfl au_l ?_
    refine VX.meek rfl ?_
    refine VX.nil ?_
    refine VC.reg tab_ok [] rfl ?_
    refine VX.meek rfl ?_
    refine VX.callP0 rfl rfl rfl (hsp) ?_
    iterate 5 refine VX.meek rfl ?_
    refine VX.nil ?_
    refine VC.reg tab_ok [] rfl ?_
    refine VX.meek rfl ?_
    refine VX.nil ?_
    refine VC.block ?_
    refine VC.reg tab_ok [] rfl ?_
    refine VX.strEqN rfl rfl ?_
    refine VX.meek rfl ?_
    refine VX.nil ?_
    refine VC.cond rfl (fun hc1 => ?_) (fun hc1 => ?_)
    · have hb : r.1 = [66] := (by simpa using hc1); rw [if_pos hb] at hsn
      refine VC.regN tab_ok [] rfl ?_
      refine VX.meek rfl ?_
      refine VX.store rfl rfl rfl rfl rfl au_s rfl ?_
      refine VX.nil ?_
      refine VC.regN tab_ok [] rfl ?_
      first | refine VX.add rfl rfl (by omega) ?_ | refine VX.meek rfl ?_
      refine VX.meek rfl ?_
      refine VX.nil ?_
      refine ⟨k + 1, by (try dsimp only); omega, ?_, (by refine ⟨[some 0, some 1, some 2], rfl, by first | trivial | decide, by first | rfl | (simp only [noO, Bool.and_true, Bool.and_eq_true]; first | assumption | (refine ⟨?_, ?_⟩ <;> assumption)) | (simp only [noO, *, Bool.and_true, Bool.true_and, Bool.and_self]; done), ?_, ?_⟩ <;> (repeat' first | exact trivial | exact CvB_n | exact CvB_d | exact CvB_o rfl | refine CvE_app ?_ ?_ | refine CvE_cons rfl ?_ ?_ | refine CvH_cons ?_ ?_ | refine CvB_c rfl ?_ | fail) <;> first | exact au_v | (first | exact CvL.pure rfl | (rw [hsn]; exact CvL.cons (Cv.slc rfl (.inl rfl)) (CvL.pure rfl)) | exact CvL.eq (by rw [hsn]) (encL_pure _ _)))⟩
      (try dsimp only); omega
    · have hb : ¬ r.1 = [66] := (by simpa using hc1); rw [if_neg hb] at hsn
      refine VC.reg tab_ok [] rfl ?_
      refine VX.strEqN rfl rfl ?_
      refine VX.meek rfl ?_
      refine VX.nil ?_
      refine VC.cond rfl (fun hc2 => ?_) (fun hc2 => ?_)
      · have hb2 : r.1 = [76] := (by simpa using hc2); rw [if_pos hb2] at hsn
        refine VC.regN tab_ok [] rfl ?_
        iterate 2 refine VX.meek rfl ?_
        refine VX.store rfl rfl rfl rfl rfl au_s rfl ?_
        refine VX.nil ?_
        refine VC.regN tab_ok [] rfl ?_
        first | refine VX.add rfl rfl (by omega) ?_ | refine VX.meek rfl ?_
        refine VX.meek rfl ?_
        refine VX.nil ?_
        refine ⟨k + 1, by (try dsimp only); omega, ?_, (by refine ⟨[some 0, some 1, some 2], rfl, by first | trivial | decide, by first | rfl | (simp only [noO, Bool.and_true, Bool.and_eq_true]; first | assumption | (refine ⟨?_, ?_⟩ <;> assumption)) | (simp only [noO, *, Bool.and_true, Bool.true_and, Bool.and_self]; done), ?_, ?_⟩ <;> (repeat' first | exact trivial | exact CvB_n | exact CvB_d | exact CvB_o rfl | refine CvE_app ?_ ?_ | refine CvE_cons rfl ?_ ?_ | refine CvH_cons ?_ ?_ | refine CvB_c rfl ?_ | fail) <;> first | exact au_v | (first | exact CvL.pure rfl | (rw [hsn]; exact CvL.cons (Cv.slc rfl (.inl rfl)) (CvL.pure rfl)) | exact CvL.eq (by rw [hsn]) (encL_pure _ _)))⟩
        (try dsimp only); omega
      · have hb2 : ¬ r.1 = [76] := (by simpa using hc2); rw [if_neg hb2] at hsn
        refine VC.regN tab_ok [24] rfl ?_
        refine VX.meek rfl ?_
        first | refine VX.meek rfl ?_ | refine VX.loadI rfl rfl au_l ?_ | refine VX.loadP rfl rfl rfl au_l ?_
        refine VX.meek rfl ?_
        refine VX.newI rfl rfl ?_
        first | refine VX.appendNil rfl rfl rfl rfl rfl rfl au_s au_s au_s ?_ | refine VX.append rfl rfl rfl rfl rfl rfl rfl rfl au_s au_s au_s au_s au_s ?_
        refine VX.meek rfl ?_
        refine VX.store rfl rfl rfl rfl rfl au_s rfl ?_
        refine VX.nil ?_
        refine VC.regN tab_ok [] rfl ?_
        first | refine VX.add rfl rfl (by omega) ?_ | refine VX.meek rfl ?_
        refine VX.meek rfl ?_
        refine VX.nil ?_
        refine ⟨k + 1, by (try dsimp only); omega, ?_, (by refine ⟨[some 0, some 1, some 3], rfl, by first | trivial | decide, by first | rfl | (simp only [noO, Bool.and_true, Bool.and_eq_true]; first | assumption | (refine ⟨?_, ?_⟩ <;> assumption)) | (simp only [noO, *, Bool.and_true, Bool.true_and, Bool.and_self]; done), ?_, ?_⟩ <;> (repeat' first | exact trivial | exact CvB_n | exact CvB_d | exact CvB_o rfl | refine CvE_app ?_ ?_ | refine CvE_cons rfl ?_ ?_ | refine CvH_cons ?_ ?_ | refine CvB_c rfl ?_ | fail) <;> first | exact au_v | (first | exact CvL.pure rfl | (rw [hsn, List.length_append]; exact CvL.cons (Cv.slc rfl (.inr rfl)) (CvL.pure rfl)) | exact CvL.eq (by rw [hsn, encL_append, List.drop_zero, List.take_of_length_le (by rw [encL_len, cI_sz]; exact Nat.le_refl _)]; rfl) (encL_pure _ _)))⟩
        (try dsimp only); omega
  · (try simp only [au_std] at hc0); obtain rfl : k = fs.length := (by omega); rw [List.take_length]
    refine VC.exit ?_
    refine VC.reg tab_ok [] rfl ?_
    first | refine VX.meek rfl ?_ | refine VX.loadI rfl rfl au_l ?_ | refine VX.loadP rfl rfl rfl au_l ?_
    refine VX.store rfl rfl rfl rfl rfl au_s rfl ?_
    refine VX.nil ?_
    refine VC.ret ?_
    exact ⟨trivial, _, rfl, Cv.agg (CvL.cons (Cv.fslc0 ⟨rfl, by simp⟩ (CvL.pure hpu)) (CvL.pure rfl))⟩
end
section
open Go.RowKit
set_option maxRecDepth 100000
set_option maxHeartbeats 2000000

/- a function's operations one by one, and what the ones that build come to -/
def opsC : Code → List Oper
  | .region _ ops _ => ops.toList
  | .seq a b => opsC a ++ opsC b
  | .cond _ a b => opsC a ++ opsC b
  | .block _ a => opsC a
  | .loop a => opsC a
  | _ => []
def isBuild (o : Oper) : Bool := match o.op with | .build .. => true | _ => false
def runC : List Oper → Env → Env
  | [], E => E
  | o :: r, E => match o.dst, opM tab (fun _ => none) 0 E.opd o.op with | some d, some (t, _) => runC r ((d, t) :: E) | _, _ => runC r E
def cellsT : Option T → List T
  | some (.agg cs) => cs
  | _ => []
def builtC (f : Func) (d : Nat) : List T := cellsT ((runC ((opsC (f.body.getD .skip)).filter isBuild) []).get d)
noncomputable def evCs : List T := builtC Tryd.f88 36
noncomputable def rqA : List T := builtC Tryd.f118 30
noncomputable def rqB : List T := builtC Tryd.f119 30
theorem evCs_len : evCs.length = 78 := by kernel_rfl
theorem rqA_len : rqA.length = 90 := by kernel_rfl
theorem rqB_len : rqB.length = 177 := by kernel_rfl
theorem evCs_pure : T.pureL evCs = true := by kernel_rfl
theorem rqA_pure : T.pureL rqA = true := by kernel_rfl
theorem rqB_pure : T.pureL rqB = true := by kernel_rfl
def evOne (n : Nat) (e : List T) : Bool :=
  match e with
  | [.v (.string a), .v (.string b), .v (.string c)] =>
    (mEq tab 170 (.agg [.v (.string a), .v (.string b), .v (.string c)]) (.agg [strT [], strT [], strT []]) == some false) && lineB b.data.toList && (needsE n == 0 || (fmOf (Lib.fields b.data.toList)).fx.length == needsE n)
  | _ => false
def evChk (cs : List T) : Bool := (List.range 25).all fun k => evOne (k + 1) ((cs.drop ((k + 1) * 3)).take 3)
def needsR (n : Nat) : Nat := if n = 9 then 7 else if n = 15 then 3 else 0
def rqOne (n : Nat) (e : List T) : Bool :=
  match e with
  | [.v (.string a), .v (.string b), .v (.string c)] => (c.data.toList == [] && needsR n == 0) || (lineB c.data.toList && (needsR n == 0 || (fmOf (Lib.fields c.data.toList)).fx.length == needsR n) && !(c.data.toList == []))
  | _ => false
def rqChk (cs : List T) (a n : Nat) : Bool := (List.range n).all fun k => rqOne (a + k) ((cs.drop ((a + k) * 3)).take 3)
theorem ev_ok : evChk evCs = true := by kernel_rfl
theorem rqA_ok : rqChk rqA 1 29 = true := by kernel_rfl
theorem rqB_ok : rqChk rqB 30 29 = true := by kernel_rfl
end
section
open Go.RowKit
set_option maxRecDepth 100000
set_option maxHeartbeats 2000000
section
variable {q : Bool} {P : Program} {tab : Tab} {im : List Nat} {ds : List (Option Nat)} {l : List Oper} {E : Env} {H : Hp} {K : Env → Hp → Prop} {d : Nat} {ty : TypeId} {pos : String} {after : Array Edge}
def meekL (tab : Tab) (look : Look) (nx : Nat) : List Oper → Env → Option Env
  | [], E => some E
  | o :: r, E => match o with
    | ⟨some d, op, _, _, _, none⟩ => match opM tab look nx E.opd op with | some (t, none) => meekL tab look nx r ((d, t) :: E) | _ => none
    | _ => none
theorem VX.bulk [Dr] {E' : Env} : ∀ (l l2 : List Oper) (E : Env), meekL tab (lookH H) H.length l E = some E' → VX q P tab im ds l2 E' H K → VX q P tab im ds (l ++ l2) E H K
  | [], l2, E, h, k => by
    injection h with h
    subst h
    exact k
  | o :: r, l2, E, h, k => by
    obtain ⟨dst, op, ty, pos, after, g⟩ := o
    cases dst with
    | none => cases h
    | some d =>
      cases g with
      | some g => cases h
      | none =>
        simp only [meekL] at h
        split at h
        · rename_i t ht
          exact VX.meek ht (VX.bulk r l2 _ h k)
        · cases h
theorem VX.bulkN [Dr] (n : Nat) {E' : Env} {l : List Oper} (h : meekL tab (lookH H) H.length (l.take n) E = some E') (k : VX q P tab im ds (l.drop n) E' H K) : VX q P tab im ds l E H K := by
  have := VX.bulk (im := im) (ds := ds) (P := P) (q := q) _ _ _ h k
  rwa [List.take_append_drop] at this
theorem VX.bulkL [Dr] (n : Nat) (L : Env) {l : List Oper} (h : meekL tab (lookH H) H.length (l.take n) E = some (L ++ E)) (k : VX q P tab im ds (l.drop n) (L ++ E) H K) : VX q P tab im ds l E H K := VX.bulkN n h k
theorem VX.idxAr [Dr] {t e o m w : Nat} {x ix : Operand} {i j : TyI} {cs : List T} {k : IntKind} (hT : tab t = some i) (hk : i.k = .arr w e) (hj : tab e = some j) (hx : E.opd x = some (.iptr cs o)) (hi : E.opd ix = some (.v (.int k (m : Int)))) (hm : m < w)
    (kk : VX q P tab im ds l ((d, .iptr cs (o + m * j.sz)) :: E) H K) : VX q P tab im ds (⟨some d, .indexAddr t x ix, ty, pos, after, none⟩ :: l) E H K := by
  refine VX.meek (t := .iptr cs (o + m * j.sz)) ?_ kk
  simp only [opM, hx, hi, mIndexAddr, hT, hk, hj]
  rw [if_pos ⟨by omega, by omega⟩]; rfl
theorem VX.idxAg [Dr] {t e m w : Nat} {x ix : Operand} {i j : TyI} {cs : List T} {k : IntKind} (hT : tab t = some i) (hk : i.k = .arr w e) (hj : tab e = some j) (hg : j.k.agg = true) (hx : E.opd x = some (.agg cs)) (hi : E.opd ix = some (.v (.int k (m : Int)))) (hm : m < w) (hl : m * j.sz + j.sz ≤ cs.length)
    (kk : VX q P tab im ds l ((d, .agg ((cs.drop (m * j.sz)).take j.sz)) :: E) H K) : VX q P tab im ds (⟨some d, .index t x ix, ty, pos, after, none⟩ :: l) E H K := by
  refine VX.meek (t := .agg ((cs.drop (m * j.sz)).take j.sz)) ?_ kk
  simp only [opM, hx, hi, mIndex, hT, hk, hj]
  rw [if_pos ⟨by omega, by omega⟩]
  unfold partT
  rw [if_pos hg, Int.toNat_natCast, if_pos hl]
end
theorem str_back (a : ByteArray) : strT a.data.toList = .v (.string a) := by
  obtain ⟨d⟩ := a
  simp
theorem ev_at (n : Nat) (h1 : 1 ≤ n) (h2 : n ≤ 25) : ∃ a b c : List UInt8, (evCs.drop (n * 3)).take 3 = [strT a, strT b, strT c] ∧ mEq tab 170 (.agg [strT a, strT b, strT c]) (.agg [strT [], strT [], strT []]) = some false ∧ lineB b = true ∧ (needsE n = 0 ∨ (fmOf (Lib.fields b)).fx.length = needsE n) := by
  have h := List.all_eq_true.1 ev_ok (n - 1) (List.mem_range.2 (by omega))
  rw [show n - 1 + 1 = n from by omega] at h
  generalize (evCs.drop (n * 3)).take 3 = e at *
  unfold evOne at h
  split at h
  · rename_i a b c
    simp only [Bool.and_eq_true, Bool.or_eq_true, beq_iff_eq] at h
    refine ⟨a.data.toList, b.data.toList, c.data.toList, by rw [str_back, str_back, str_back], by rw [str_back, str_back, str_back]; exact h.1.1, h.1.2, ?_⟩
    rcases h.2 with k | k
    · exact .inl k
    · exact .inr k
  · cases h
noncomputable def tabL (cs : List T) (d n : Nat) : Env := (d + n, .agg cs) :: (List.range n).reverse.map fun k => (d + k, .agg ((cs.drop ((k + 1) * 3)).take 3))
theorem event_p (n : Nat) (h1 : 1 ≤ n) (h2 : n ≤ 25) : CallP Tryd.prog 88 [I64 n] (.agg ((evCs.drop (n * 3)).take 3)) := by
  obtain ⟨a, b, c, he, -, -, -⟩ := ev_at n h1 h2
  have hl := evCs_len
  have hpt : partT ⟨3, 48, [strT [], strT [], strT []], .st [(0, 9), (1, 9), (2, 9)], true⟩ evCs (0 + n * 3) = some (.agg [strT a, strT b, strT c]) := by
    unfold partT
    rw [if_pos (show (Kd.st [(0, 9), (1, 9), (2, 9)]).agg = true from rfl), if_pos (by show 0 + n * 3 + 3 ≤ _; omega), Nat.zero_add]
    exact congrArg (fun l => some (T.agg l)) he
  rw [he]
  refine CallP.intro2 au_pu au_pu ?_
  refine CallT.intro tab_ok Tryd.func88 rfl (by kernel_rfl) (Nat.le_of_ble_eq_true rfl) ?_
  refine VC.reg tab_ok [] rfl ?_
  refine VX.new rfl rfl ?_
  refine VX.nil ?_
  refine VC.seq ?_
  refine VC.reg tab_ok [] rfl ?_
  iterate 3 refine VX.meek rfl ?_
  refine' VX.merge (d := 9) [_, _, _] rfl ?_ rfl ?_
  rotate_left
  · refine VX.guard rfl rfl (fun hb1_2 => ?_) (fun hb1_2 => ?_)
    · have ghb1_2 := hb1_2
      try simp only [au_std, Bool.not_true, Bool.not_false] at ghb1_2
      refine VX.meek rfl ?_
      refine VX.guardT rfl rfl hb1_2 ?_
      refine VX.meek rfl ?_
      refine VX.pickO rfl (fun _ => rfl) ?_
      exact VX.nil ⟨rfl, rfl⟩
    · refine VX.guardF rfl rfl hb1_2 ?_
      exact VX.pickO rfl (fun h => absurd (h.symm.trans hb1_2) (by decide)) (VX.nil ⟨rfl, rfl⟩)
  refine VX.nil ?_
  refine VC.cond rfl (fun hc0 => ?_) (fun hc0 => ?_)
  · exact absurd hc0 (by simp; omega)
  · (try simp only [au_std] at hc0)
    refine VC.skip ?_
    refine VC.reg tab_ok [] rfl ?_
    refine VX.bulkL 26 (tabL evCs 11 25) ?h ?k
    case h => kernel_rfl
    skip
    skip
    skip
    skip
    skip
    skip
    skip
    skip
    skip
    skip
    skip
    skip
    skip
    skip
    skip
    skip
    skip
    skip
    skip
    skip
    skip
    skip
    skip
    skip
    skip
    refine VX.new rfl rfl ?_
    refine VX.store rfl rfl rfl rfl (by kernel_rfl) (Nat.le_of_ble_eq_true (by kernel_rfl)) (by kernel_rfl) ?_
    refine VX.nil ?_
    refine VC.view ([(2, .ptr 0 0), (3, .iptr evCs 0)]) ([.c [strT [], strT [], strT []]]) [0] rfl (by refine ⟨[some 0], rfl, by first | trivial | decide, by first | rfl | (simp only [noO, Bool.and_true, Bool.and_eq_true]; first | assumption | (refine ⟨?_, ?_⟩ <;> assumption)) | (simp only [noO, *, Bool.and_true, Bool.true_and, Bool.and_self]; done), ?_, ?_⟩ <;> (repeat' first | exact trivial | exact CvB_n | exact CvB_d | exact CvB_o rfl | refine CvE_app ?_ ?_ | refine CvE_cons rfl ?_ ?_ | refine CvH_cons ?_ ?_ | refine CvB_c rfl ?_ | fail) <;> first | exact au_v | (first | exact CvL.pure rfl | exact Cv.fptr ⟨rfl, (show some 1 ∉ [some 0] by simp)⟩ (CvL.eq (by kernel_rfl) evCs_pure))) ?_
    refine VC.reg tab_ok [] rfl ?_
    refine VX.meek rfl ?_
    refine VX.idxAr rfl rfl rfl rfl rfl (by omega) ?_
    refine VX.loadI rfl rfl hpt ?_
    refine VX.store rfl rfl rfl rfl rfl au_s rfl ?_
    refine VX.nil ?_
    refine VC.ret ?_
    exact ⟨trivial, _, rfl, Cv.eq (by first | rfl | (simp [*]; done)) rfl⟩
end
section
open Go.RowKit
set_option maxRecDepth 100000
set_option maxHeartbeats 2000000
section
variable {q : Bool} {P : Program} {tab : Tab} {im : List Nat} {ds : List (Option Nat)} {l : List Oper} {E : Env} {H : Hp} {K : Env → Hp → Prop} {d : Nat} {ty : TypeId} {pos : String} {after : Array Edge}
theorem VX.eqlAg [Dr] {x y : Operand} {t t2 : Nat} (xs ys : List T) {r : Bool} (hx : E.opd x = some (.agg xs)) (hy : E.opd y = some (.agg ys)) (h : mEq tab t (.agg xs) (.agg ys) = some r) (k : VX q P tab im ds l ((d, BL r) :: E) H K) : VX q P tab im ds (⟨some d, .binOp .eql t x y t2, ty, pos, after, none⟩ :: l) E H K := by
  refine VX.meek (t := BL r) ?_ k
  simp only [opM, hx, hy, mBin, h]
end
theorem fm_pure (m : Fm) : T.pureL [cIf m.fx, BL m.b, I64 m.l] = true := by simp only [T.pureL, T.pure, encL_pure]; rfl
abbrev fm0 : Fm := ⟨[], false, 0⟩
theorem eventX (n : Nat) (h1 : 1 ≤ n) (h2 : n ≤ 25) : ∃ m : Fm, CallP Tryd.prog 63 [I64 n] (.tup [fmT m, BL true]) ∧ (needsE n = 0 ∨ m.fx.length = needsE n) := by
  obtain ⟨a, b, c, he, heq, hb, hn⟩ := ev_at n h1 h2
  have hev := event_p n h1 h2
  rw [he] at hev
  have hfo := form_p b hb
  refine ⟨fmOf (Lib.fields b), ?_, hn⟩
  have hpu := encL_pure cI (fmOf (Lib.fields b)).fx
  refine CallP.intro2 au_pu au_pu ?_
  refine CallT.intro tab_ok Tryd.func63 rfl (by kernel_rfl) (Nat.le_of_ble_eq_true rfl) ?_
  refine VC.reg tab_ok [] rfl ?_
  refine VX.new rfl rfl ?_
  refine VX.meek rfl ?_
  refine VX.nil ?_
  refine VC.reg tab_ok [] rfl ?_
  refine VX.meek rfl ?_
  refine VX.callP0 rfl rfl rfl (hev) ?_
  refine VX.new rfl rfl ?_
  refine VX.store rfl rfl rfl rfl rfl au_s rfl ?_
  refine VX.nil ?_
  refine VC.seq ?_
  refine VC.reg tab_ok [] rfl ?_
  first | refine VX.meek rfl ?_ | refine VX.loadI rfl rfl au_l ?_ | refine VX.loadP rfl rfl rfl au_l ?_
  refine VX.meek rfl ?_
  refine VX.eqlAg [strT a, strT b, strT c] [strT [], strT [], strT []] rfl rfl heq ?_
  refine VX.nil ?_
  refine VC.condF rfl ?_
  refine VC.skip ?_
  refine VC.reg tab_ok [] rfl ?_
  refine VX.meek rfl ?_
  first | refine VX.meek rfl ?_ | refine VX.loadI rfl rfl au_l ?_ | refine VX.loadP rfl rfl rfl au_l ?_
  refine VX.callP0 rfl rfl rfl (hfo) ?_
  refine VX.store rfl rfl rfl rfl rfl au_s rfl ?_
  refine VX.meek rfl ?_
  refine VX.nil ?_
  refine VC.ret ?_
  exact ⟨trivial, _, rfl, Cv.tup (CvL.cons (Cv.agg (CvL.eq rfl (fm_pure _))) (CvL.cons (Cv.pure rfl) CvL.nil))⟩
theorem eventN (code : Int) (h : code < 1 ∨ 25 < code) : CallP Tryd.prog 63 [I64 code] (.tup [fmT fm0, BL false]) := by
  have hev : CallP Tryd.prog 88 [I64 code] (.agg [strT [], strT [], strT []]) := by
    refine CallP.intro2 au_pu au_pu ?_
    refine CallT.intro tab_ok Tryd.func88 rfl (by kernel_rfl) (Nat.le_of_ble_eq_true rfl) ?_
    refine VC.reg tab_ok [] rfl ?_
    refine VX.new rfl rfl ?_
    refine VX.nil ?_
    refine VC.seq ?_
    refine VC.reg tab_ok [] rfl ?_
    iterate 3 refine VX.meek rfl ?_
    refine' VX.merge (d := 9) [_, _, _] rfl ?_ rfl ?_
    rotate_left
    · refine VX.guard rfl rfl (fun hb1_2 => ?_) (fun hb1_2 => ?_)
      · have ghb1_2 := hb1_2
        try simp only [au_std, Bool.not_true, Bool.not_false] at ghb1_2
        refine VX.meek rfl ?_
        refine VX.guardT rfl rfl hb1_2 ?_
        refine VX.meek rfl ?_
        refine VX.pickO rfl (fun _ => rfl) ?_
        exact VX.nil ⟨rfl, rfl⟩
      · refine VX.guardF rfl rfl hb1_2 ?_
        exact VX.pickO rfl (fun h => absurd (h.symm.trans hb1_2) (by decide)) (VX.nil ⟨rfl, rfl⟩)
    refine VX.nil ?_
    refine VC.cond rfl (fun hc0 => ?_) (fun hc0 => ?_)
    · (try simp only [au_std] at hc0)
      refine VC.reg tab_ok [] rfl ?_
      refine VX.meek rfl ?_
      refine VX.store rfl rfl rfl rfl rfl au_s rfl ?_
      refine VX.nil ?_
      refine VC.ret ?_
      exact ⟨trivial, _, rfl, Cv.eq (by first | rfl | (simp [*]; done)) rfl⟩
    · exact absurd hc0 (by simp; omega)
  refine CallP.intro2 au_pu au_pu ?_
  refine CallT.intro tab_ok Tryd.func63 rfl (by kernel_rfl) (Nat.le_of_ble_eq_true rfl) ?_
  refine VC.reg tab_ok [] rfl ?_
  refine VX.new rfl rfl ?_
  refine VX.meek rfl ?_
  refine VX.nil ?_
  refine VC.reg tab_ok [] rfl ?_
  refine VX.meek rfl ?_
  refine VX.callP0 rfl rfl rfl (hev) ?_
  refine VX.new rfl rfl ?_
  refine VX.store rfl rfl rfl rfl rfl au_s rfl ?_
  refine VX.nil ?_
  refine VC.seq ?_
  refine VC.reg tab_ok [] rfl ?_
  first | refine VX.meek rfl ?_ | refine VX.loadI rfl rfl au_l ?_ | refine VX.loadP rfl rfl rfl au_l ?_
  refine VX.meek rfl ?_
  refine VX.eqlAg [strT [], strT [], strT []] [strT [], strT [], strT []] (r := true) rfl rfl (by kernel_rfl) ?_
  refine VX.nil ?_
  refine VC.condT rfl ?_
  refine VC.reg tab_ok [] rfl ?_
  refine VX.meek rfl ?_
  refine VX.store rfl rfl rfl rfl rfl au_s rfl ?_
  refine VX.meek rfl ?_
  refine VX.nil ?_
  refine VC.ret ?_
  exact ⟨trivial, _, rfl, Cv.tup (CvL.cons (Cv.agg (CvL.cons (Cv.nil _ (.inl rfl)) (CvL.pure rfl))) (CvL.cons (Cv.pure rfl) CvL.nil))⟩
theorem event_any (code : Int) : ∃ (m : Fm) (ok : Bool), CallP Tryd.prog 63 [I64 code] (.tup [fmT m, BL ok]) ∧ (needsE code ≠ 0 → ok = true ∧ m.fx.length = needsE code) := by
  by_cases h : code < 1 ∨ 25 < code
  · refine ⟨fm0, false, eventN code h, fun hn => absurd ?_ hn⟩
    unfold needsE
    repeat rw [if_neg (by omega)]
  · obtain ⟨n, rfl⟩ := Int.eq_ofNat_of_zero_le (show 0 ≤ code by omega)
    obtain ⟨m, h1, h2⟩ := eventX n (by omega) (by omega)
    exact ⟨m, true, h1, fun hn => ⟨rfl, h2.resolve_left hn⟩⟩
noncomputable def tabA (cs : List T) (a d n : Nat) : Env := (d + n, .agg cs) :: (List.range n).reverse.map fun k => (d + k, .agg ((cs.drop ((a + k) * 3)).take 3))
theorem early_p : CallP Tryd.prog 118 [] (.agg rqA) := by
  have hpu := rqA_pure
  refine CallP.intro2 au_pu au_pu ?_
  refine CallT.intro tab_ok Tryd.func118 rfl (by kernel_rfl) (Nat.le_of_ble_eq_true rfl) ?_
  refine VC.reg tab_ok [] rfl ?_
  refine VX.new rfl rfl ?_
  refine VX.nil ?_
  refine VC.reg tab_ok [] rfl ?_
  refine VX.bulkL 30 (tabA rqA 1 1 29) ?h ?k
  case h => kernel_rfl
  skip
  skip
  skip
  skip
  skip
  skip
  skip
  skip
  skip
  skip
  skip
  skip
  skip
  skip
  skip
  skip
  skip
  skip
  skip
  skip
  skip
  skip
  skip
  skip
  skip
  skip
  skip
  skip
  skip
  refine VX.store rfl rfl rfl rfl (by kernel_rfl) (Nat.le_of_ble_eq_true (by kernel_rfl)) (by kernel_rfl) ?_
  refine VX.nil ?_
  refine VC.ret ?_
  exact ⟨trivial, _, rfl, Cv.agg (CvL.eq (by kernel_rfl) rqA_pure)⟩
theorem late_p : CallP Tryd.prog 119 [] (.agg rqB) := by
  have hpu := rqB_pure
  refine CallP.intro2 au_pu au_pu ?_
  refine CallT.intro tab_ok Tryd.func119 rfl (by kernel_rfl) (Nat.le_of_ble_eq_true rfl) ?_
  refine VC.reg tab_ok [] rfl ?_
  refine VX.new rfl rfl ?_
  refine VX.nil ?_
  refine VC.reg tab_ok [] rfl ?_
  refine VX.bulkL 30 (tabA rqB 30 1 29) ?h ?k
  case h => kernel_rfl
  skip
  skip
  skip
  skip
  skip
  skip
  skip
  skip
  skip
  skip
  skip
  skip
  skip
  skip
  skip
  skip
  skip
  skip
  skip
  skip
  skip
  skip
  skip
  skip
  skip
  skip
  skip
  skip
  skip
  refine VX.store rfl rfl rfl rfl (by kernel_rfl) (Nat.le_of_ble_eq_true (by kernel_rfl)) (by kernel_rfl) ?_
  refine VX.nil ?_
  refine VC.ret ?_
  exact ⟨trivial, _, rfl, Cv.agg (CvL.eq (by kernel_rfl) rqB_pure)⟩
theorem rq_at (cs : List T) (a m : Nat) (hc : rqChk cs a m = true) (n : Nat) (h1 : a ≤ n) (h2 : n < a + m) : ∃ x b c : List UInt8, (cs.drop (n * 3)).take 3 = [strT x, strT b, strT c] ∧ ((c = [] ∧ needsR n = 0) ∨ (c ≠ [] ∧ lineB c = true ∧ (needsR n = 0 ∨ (fmOf (Lib.fields c)).fx.length = needsR n))) := by
  have h := List.all_eq_true.1 hc (n - a) (List.mem_range.2 (by omega))
  rw [show a + (n - a) = n from by omega] at h
  generalize (cs.drop (n * 3)).take 3 = e at *
  unfold rqOne at h
  split at h
  · rename_i x b c
    simp only [Bool.and_eq_true, Bool.or_eq_true, beq_iff_eq, Bool.not_eq_true', beq_eq_false_iff_ne] at h
    refine ⟨x.data.toList, b.data.toList, c.data.toList, by rw [str_back, str_back, str_back], ?_⟩
    rcases h with k | k
    · exact .inl k
    · exact .inr ⟨k.2, k.1.1, k.1.2⟩
  · cases h
theorem request_p (n : Nat) (h1 : 1 ≤ n) (h2 : n ≤ 58) : ∃ x b c : List UInt8, CallP Tryd.prog 83 [I64 n] (.agg [strT x, strT b, strT c]) ∧ ((c = [] ∧ needsR n = 0) ∨ (c ≠ [] ∧ lineB c = true ∧ (needsR n = 0 ∨ (fmOf (Lib.fields c)).fx.length = needsR n))) := by
  by_cases hs : n ≤ 29
  · obtain ⟨x, b, c, he, hk⟩ := rq_at rqA 1 29 rqA_ok n h1 (by omega)
    refine ⟨x, b, c, ?_, hk⟩
    have hA := early_p
    have hl := rqA_len
    refine CallP.intro2 au_pu au_pu ?_
    refine CallT.intro tab_ok Tryd.func83 rfl (by kernel_rfl) (Nat.le_of_ble_eq_true rfl) ?_
    refine VC.reg tab_ok [] rfl ?_
    refine VX.new rfl rfl ?_
    refine VX.nil ?_
    refine VC.seq ?_
    refine VC.block ?_
    refine VC.reg tab_ok [] rfl ?_
    iterate 3 refine VX.meek rfl ?_
    refine' VX.merge (d := 9) [_, _, _] rfl ?_ rfl ?_
    rotate_left
    · refine VX.guard rfl rfl (fun hb1_2 => ?_) (fun hb1_2 => ?_)
      · have ghb1_2 := hb1_2
        try simp only [au_std, Bool.not_true, Bool.not_false] at ghb1_2
        refine VX.meek rfl ?_
        refine VX.guardT rfl rfl hb1_2 ?_
        refine VX.meek rfl ?_
        refine VX.pickO rfl (fun _ => rfl) ?_
        exact VX.nil ⟨rfl, rfl⟩
      · refine VX.guardF rfl rfl hb1_2 ?_
        exact VX.pickO rfl (fun h => absurd (h.symm.trans hb1_2) (by decide)) (VX.nil ⟨rfl, rfl⟩)
    refine VX.meek rfl ?_
    refine VX.nil ?_
    refine VC.cond rfl (fun hc0 => ?_) (fun hc0 => ?_)
    · exact absurd hc0 (by simp; omega)
    · (try simp only [au_std] at hc0)
      refine VC.reg tab_ok [] rfl ?_
      iterate 3 refine VX.meek rfl ?_
      refine VX.nil ?_
      refine VC.cond rfl (fun hc1 => ?_) (fun hc1 => ?_)
      · (try simp only [au_std] at hc1)
        refine VC.reg tab_ok [] rfl ?_
        refine VX.callP0 rfl rfl rfl (hA) ?_
        refine VX.meek rfl ?_
        refine VX.idxAg rfl rfl rfl rfl rfl rfl (by omega) (by show n * 3 + 3 ≤ _; omega) ?_; rw [show (rqA.drop (n * _)).take _ = [strT x, strT b, strT c] from he]
        refine VX.store rfl rfl rfl rfl rfl au_s rfl ?_
        refine VX.nil ?_
        refine VC.ret ?_
        exact ⟨trivial, _, rfl, Cv.eq (by first | rfl | (simp [*]; done)) rfl⟩
      · exact absurd hc1 (by simp; omega)
  · obtain ⟨x, b, c, he, hk⟩ := rq_at rqB 30 29 rqB_ok n (by omega) (by omega)
    refine ⟨x, b, c, ?_, hk⟩
    have hB := late_p
    have hl := rqB_len
    refine CallP.intro2 au_pu au_pu ?_
    refine CallT.intro tab_ok Tryd.func83 rfl (by kernel_rfl) (Nat.le_of_ble_eq_true rfl) ?_
    refine VC.reg tab_ok [] rfl ?_
    refine VX.new rfl rfl ?_
    refine VX.nil ?_
    refine VC.seq ?_
    refine VC.block ?_
    refine VC.reg tab_ok [] rfl ?_
    iterate 3 refine VX.meek rfl ?_
    refine' VX.merge (d := 9) [_, _, _] rfl ?_ rfl ?_
    rotate_left
    · refine VX.guard rfl rfl (fun hb1_2 => ?_) (fun hb1_2 => ?_)
      · have ghb1_2 := hb1_2
        try simp only [au_std, Bool.not_true, Bool.not_false] at ghb1_2
        refine VX.meek rfl ?_
        refine VX.guardT rfl rfl hb1_2 ?_
        refine VX.meek rfl ?_
        refine VX.pickO rfl (fun _ => rfl) ?_
        exact VX.nil ⟨rfl, rfl⟩
      · refine VX.guardF rfl rfl hb1_2 ?_
        exact VX.pickO rfl (fun h => absurd (h.symm.trans hb1_2) (by decide)) (VX.nil ⟨rfl, rfl⟩)
    refine VX.meek rfl ?_
    refine VX.nil ?_
    refine VC.cond rfl (fun hc0 => ?_) (fun hc0 => ?_)
    · exact absurd hc0 (by simp; omega)
    · (try simp only [au_std] at hc0)
      refine VC.reg tab_ok [] rfl ?_
      iterate 3 refine VX.meek rfl ?_
      refine VX.nil ?_
      refine VC.cond rfl (fun hc1 => ?_) (fun hc1 => ?_)
      · exact absurd hc1 (by simp; omega)
      · (try simp only [au_std] at hc1)
        refine VC.skip ?_
        refine VC.reg tab_ok [] rfl ?_
        refine VX.callP0 rfl rfl rfl (hB) ?_
        refine VX.meek rfl ?_
        refine VX.idxAg rfl rfl rfl rfl rfl rfl (by omega) (by show n * 3 + 3 ≤ _; omega) ?_; rw [show (rqB.drop (n * _)).take _ = [strT x, strT b, strT c] from he]
        refine VX.store rfl rfl rfl rfl rfl au_s rfl ?_
        refine VX.nil ?_
        refine VC.ret ?_
        exact ⟨trivial, _, rfl, Cv.eq (by first | rfl | (simp [*]; done)) rfl⟩
theorem replyX (code : Int) (x b c : List UInt8) (h : CallP Tryd.prog 83 [I64 code] (.agg [strT x, strT b, strT c])) (hl : c ≠ [] → lineB c = true) :
    CallP Tryd.prog 61 [I64 code] (.tup [fmT (if c = [] then fm0 else fmOf (Lib.fields c)), BL (c != [])]) := by
  by_cases hc : c = []
  · subst hc
    rw [if_pos rfl]
    refine CallP.intro2 au_pu au_pu ?_
    refine CallT.intro tab_ok Tryd.func61 rfl (by kernel_rfl) (Nat.le_of_ble_eq_true rfl) ?_
    refine VC.reg tab_ok [] rfl ?_
    refine VX.new rfl rfl ?_
    refine VX.meek rfl ?_
    refine VX.nil ?_
    refine VC.reg tab_ok [] rfl ?_
    refine VX.meek rfl ?_
    refine VX.callP0 rfl rfl rfl (h) ?_
    refine VX.new rfl rfl ?_
    refine VX.store rfl rfl rfl rfl rfl au_s rfl ?_
    refine VX.nil ?_
    refine VC.seq ?_
    refine VC.reg tab_ok [] rfl ?_
    refine VX.meek rfl ?_
    first | refine VX.meek rfl ?_ | refine VX.loadI rfl rfl au_l ?_ | refine VX.loadP rfl rfl rfl au_l ?_
    refine VX.strEqN rfl rfl ?_
    refine VX.nil ?_
    refine VC.condT rfl ?_
    refine VC.reg tab_ok [] rfl ?_
    refine VX.meek rfl ?_
    refine VX.store rfl rfl rfl rfl rfl au_s rfl ?_
    refine VX.meek rfl ?_
    refine VX.nil ?_
    refine VC.ret ?_
    exact ⟨trivial, _, rfl, Cv.tup (CvL.cons (Cv.agg (CvL.cons (Cv.nil _ (.inl rfl)) (CvL.pure rfl))) (CvL.cons (Cv.pure rfl) CvL.nil))⟩
  · rw [if_neg hc]
    have hfo := form_p c (hl hc)
    have hb : (c == []) = false := beq_eq_false_iff_ne.2 hc
    have hb2 : (c != []) = true := by rw [bne, hb]; rfl
    rw [hb2]
    refine CallP.intro2 au_pu au_pu ?_
    refine CallT.intro tab_ok Tryd.func61 rfl (by kernel_rfl) (Nat.le_of_ble_eq_true rfl) ?_
    refine VC.reg tab_ok [] rfl ?_
    refine VX.new rfl rfl ?_
    refine VX.meek rfl ?_
    refine VX.nil ?_
    refine VC.reg tab_ok [] rfl ?_
    refine VX.meek rfl ?_
    refine VX.callP0 rfl rfl rfl (h) ?_
    refine VX.new rfl rfl ?_
    refine VX.store rfl rfl rfl rfl rfl au_s rfl ?_
    refine VX.nil ?_
    refine VC.seq ?_
    refine VC.reg tab_ok [] rfl ?_
    refine VX.meek rfl ?_
    first | refine VX.meek rfl ?_ | refine VX.loadI rfl rfl au_l ?_ | refine VX.loadP rfl rfl rfl au_l ?_
    refine VX.strEqN rfl rfl ?_; rw [hb]
    refine VX.nil ?_
    refine VC.condF rfl ?_
    refine VC.skip ?_
    refine VC.reg tab_ok [] rfl ?_
    refine VX.meek rfl ?_
    first | refine VX.meek rfl ?_ | refine VX.loadI rfl rfl au_l ?_ | refine VX.loadP rfl rfl rfl au_l ?_
    refine VX.callP0 rfl rfl rfl (hfo) ?_
    refine VX.store rfl rfl rfl rfl rfl au_s rfl ?_
    refine VX.meek rfl ?_
    refine VX.nil ?_
    refine VC.ret ?_
    exact ⟨trivial, _, rfl, Cv.tup (CvL.cons (Cv.agg (CvL.eq rfl (fm_pure _))) (CvL.cons (Cv.pure rfl) CvL.nil))⟩
theorem reply_any (code : Int) : ∃ (m : Fm) (ok : Bool), CallP Tryd.prog 61 [I64 code] (.tup [fmT m, BL ok]) ∧ (code = 9 → ok = true ∧ m.fx.length = 7) ∧ (code = 15 → ok = true ∧ m.fx.length = 3) := by
  by_cases h : code < 1 ∨ 58 < code
  · have hr : CallP Tryd.prog 83 [I64 code] (.agg [strT [], strT [], strT []]) := by
      refine CallP.intro2 au_pu au_pu ?_
      refine CallT.intro tab_ok Tryd.func83 rfl (by kernel_rfl) (Nat.le_of_ble_eq_true rfl) ?_
      refine VC.reg tab_ok [] rfl ?_
      refine VX.new rfl rfl ?_
      refine VX.nil ?_
      refine VC.seq ?_
      refine VC.block ?_
      refine VC.reg tab_ok [] rfl ?_
      iterate 3 refine VX.meek rfl ?_
      refine' VX.merge (d := 9) [_, _, _] rfl ?_ rfl ?_
      rotate_left
      · refine VX.guard rfl rfl (fun hb1_2 => ?_) (fun hb1_2 => ?_)
        · have ghb1_2 := hb1_2
          try simp only [au_std, Bool.not_true, Bool.not_false] at ghb1_2
          refine VX.meek rfl ?_
          refine VX.guardT rfl rfl hb1_2 ?_
          refine VX.meek rfl ?_
          refine VX.pickO rfl (fun _ => rfl) ?_
          exact VX.nil ⟨rfl, rfl⟩
        · refine VX.guardF rfl rfl hb1_2 ?_
          exact VX.pickO rfl (fun h => absurd (h.symm.trans hb1_2) (by decide)) (VX.nil ⟨rfl, rfl⟩)
      refine VX.meek rfl ?_
      refine VX.nil ?_
      refine VC.cond rfl (fun hc0 => ?_) (fun hc0 => ?_)
      · (try simp only [au_std] at hc0)
        refine VC.reg tab_ok [] rfl ?_
        refine VX.meek rfl ?_
        refine VX.store rfl rfl rfl rfl rfl au_s rfl ?_
        refine VX.nil ?_
        refine VC.ret ?_
        exact ⟨trivial, _, rfl, Cv.eq (by first | rfl | (simp [*]; done)) rfl⟩
      · exact absurd hc0 (by simp; omega)
    exact ⟨fm0, false, replyX code [] [] [] hr (fun k => absurd rfl k), fun k => by omega, fun k => by omega⟩
  · obtain ⟨n, rfl⟩ := Int.eq_ofNat_of_zero_le (show 0 ≤ code by omega)
    obtain ⟨x, b, c, hr, hk⟩ := request_p n (by omega) (by omega)
    refine ⟨_, _, replyX n x b c hr (fun k => by rcases hk with ⟨k1, -⟩ | ⟨-, k2, -⟩; exact absurd k1 k; exact k2), fun k => ?_, fun k => ?_⟩
    · have hn : n = 9 := by omega
      subst hn
      rcases hk with ⟨-, k2⟩ | ⟨k1, -, k3⟩
      · cases k2
      · rw [if_neg k1]
        exact ⟨by simpa using k1, k3.resolve_left (by decide)⟩
    · have hn : n = 15 := by omega
      subst hn
      rcases hk with ⟨-, k2⟩ | ⟨k1, -, k3⟩
      · cases k2
      · rw [if_neg k1]
        exact ⟨by simpa using k1, k3.resolve_left (by decide)⟩
end
section
open Go.RowKit
set_option maxRecDepth 10000
set_option maxHeartbeats 1000000
theorem cons_erase {α : Type} : ∀ {l : List α} {i : Nat} {e : α}, l[i]? = some e → (e :: l.eraseIdx i).Perm l
  | [], _, _, h => by simp at h
  | a :: l, 0, e, h => by simp at h; subst h; exact .refl _
  | a :: l, i + 1, e, h => by
    simp at h
    rw [List.eraseIdx_cons_succ]
    exact (List.Perm.swap a e _).trans ((cons_erase h).cons a)
theorem perm_step {α : Type} {D R F : List α} {i : Nat} {e : α} (h : R[i]? = some e) (hp : (D ++ R).Perm F) : ((D ++ [e]) ++ R.eraseIdx i).Perm F := by
  rw [List.append_assoc]
  exact ((cons_erase h).append_left D).trans hp
theorem perm_new {α : Type} {D R F : List (Int × α)} {i : Nat} {e : Int × α} (h : R[i]? = some e) (hp : (D ++ R).Perm F) (hn : (F.map Prod.fst).Nodup) : e.1 ∉ D.map Prod.fst := by
  have h1 : ((D ++ R).map Prod.fst).Nodup := (hp.map Prod.fst).nodup_iff.2 hn
  rw [List.map_append, List.nodup_append] at h1
  exact fun k => h1.2.2 _ k _ (List.mem_map.2 ⟨e, mem_at h, rfl⟩) rfl
theorem permF {D F : List (Int × Fr)} (h : D.Perm F) : mapP (kF D) (tF D) = mapP (kF F) (tF F) := by
  refine mapP_perm (by simp) (by simp) ?_
  rw [kF, tF, kF, tF, List.zip_map', List.zip_map']
  exact h.map _
theorem permW {D F : List (Int × Wt)} (h : D.Perm F) : mapP (kF D) (tW D) = mapP (kF F) (tW F) := by
  refine mapP_perm (by simp) (by simp) ?_
  rw [kF, tW, kF, tW, List.zip_map', List.zip_map']
  exact h.map _
theorem copyF_t (F : List (Int × Fr)) (hn : (F.map Prod.fst).Nodup) : CallT Tryd.prog 58 [.om 0, .mp (kF F) (tF F)] [.o (mapP [] [])] (fun t H' => t = .tup [] ∧ ∃ p : OP, p.pi = true ∧ H' = [.o (mapP (kF F) (tF F)), .o p]) := by
  have hpi0 : (iterP none (kF F) (tF F)).pi = true := by show (T.pureL (tF F) && true) = true; rw [pF]; rfl
  have hpu := pF F
  have hpD0 := piF []
  refine CallT.intro tab_ok Tryd.func58 rfl (by kernel_rfl) (Nat.le_of_ble_eq_true rfl) ?_
  refine VC.reg tab_ok [] rfl ?_
  refine VX.meek rfl ?_
  refine VX.range tab_ok rfl rfl rfl (.inl rfl) ?_
  refine VX.nil ?_
  refine VC.block ?_
  refine VC.loopS3 (σ1 := List (Int × Fr)) (σ2 := List (Int × Fr)) (σ3 := Option (Value × T)) (fun R _ _ => R.length) (fun R D c => (D ++ R).Perm F ∧ (iterP c (kF R) (tF R)).pi = true) (fun _ _ _ => [(7, .ptr 1 0), (0, .om 0)]) (fun R D c => [.o (mapP (kF D) (tF D)), .o (iterP c (kF R) (tF R))]) [] rfl (F) ([]) (none) ?_ ?_ ?_
  · refine ⟨[some 0, some 1], rfl, by first | trivial | decide, by first | rfl | (simp only [noO, Bool.and_true, Bool.and_eq_true]; first | assumption | (refine ⟨?_, ?_⟩ <;> assumption)) | (simp only [noO, *, Bool.and_true, Bool.true_and, Bool.and_self]; done), ?_, ?_⟩ <;> (repeat' first | exact trivial | exact CvB_n | exact CvB_d | exact CvB_o rfl | refine CvE_app ?_ ?_ | refine CvE_cons rfl ?_ ?_ | refine CvH_cons ?_ ?_ | refine CvB_c rfl ?_ | fail) <;> first | exact au_v | (skip)
  · exact ⟨.refl _, hpi0⟩
  rintro R D c ⟨hp, hpi⟩
  refine VC.reg tab_ok [] rfl ?_
  refine VX.next rfl rfl (fun hz1 => ?_) (fun i1 k1 t1 hk1 ht1 => ?_)
  · have hRn : R = [] := (by simpa using hz1)
    refine VX.meek rfl ?_
    refine VX.nil ?_
    refine VC.seq ?_
    refine VC.condF rfl ?_
    refine VC.exit ?_
    subst hRn; exact ⟨trivial, _, rfl, rfl, _, hpi, by rw [List.append_nil] at hp; exact congrArg (fun p => ([.o p, _] : Hp)) (permF hp)⟩
  · obtain ⟨e, he, rfl⟩ := kF_at hk1; obtain rfl := tF_at he ht1; rw [show (kF R).eraseIdx i1 = kF (R.eraseIdx i1) from (erase_map _ _ _).symm, show (tF R).eraseIdx i1 = tF (R.eraseIdx i1) from (erase_map _ _ _).symm]
    have hlen : (R.eraseIdx i1).length < R.length := (by have := (List.getElem?_eq_some_iff.1 he).1; rw [List.length_eraseIdx_of_lt this]; omega)
    have hpi1 : (iterP (some (Value.int .i64 e.1, frT e.2)) (kF (R.eraseIdx i1)) (tF (R.eraseIdx i1))).pi = true := (by show (T.pureL (tF _) && true) = true; rw [pF]; rfl)
    have hpD1 := piF (D ++ [e])
    refine VX.meek rfl ?_
    refine VX.nil ?_
    refine VC.seq ?_
    refine VC.condT rfl ?_
    refine VC.skip ?_
    refine VC.block ?_
    refine VC.reg tab_ok [] rfl ?_
    refine VX.entry rfl rfl ?_
    iterate 2 refine VX.meek rfl ?_
    refine VX.new rfl rfl ?_
    refine VX.meek rfl ?_
    refine VX.store rfl rfl rfl rfl rfl au_s rfl ?_
    refine VX.nil ?_
    refine VC.regN tab_ok [] rfl ?_
    iterate 2 refine VX.meek rfl ?_
    first | refine VX.meek rfl ?_ | refine VX.loadI rfl rfl au_l ?_ | refine VX.loadP rfl rfl rfl au_l ?_
    refine VX.updNew tab_ok rfl rfl rfl rfl rfl rfl rfl (show _ = some (frT e.2) from rfl) (by exact likeF _ _) (keyNew (perm_new he hp hn)) ?_; rw [addF D e.1 e.2]
    refine VX.nil ?_
    refine ⟨R.eraseIdx i1, D ++ [e], some (Value.int .i64 e.1, frT e.2), by (try dsimp only); omega, ?_, (by refine ⟨[some 0, some 1], rfl, by first | trivial | decide, by first | rfl | (simp only [noO, Bool.and_true, Bool.and_eq_true]; first | assumption | (refine ⟨?_, ?_⟩ <;> assumption)) | (simp only [noO, *, Bool.and_true, Bool.true_and, Bool.and_self]; done), ?_, ?_⟩ <;> (repeat' first | exact trivial | exact CvB_n | exact CvB_d | exact CvB_o rfl | refine CvE_app ?_ ?_ | refine CvE_cons rfl ?_ ?_ | refine CvH_cons ?_ ?_ | refine CvB_c rfl ?_ | fail) <;> first | exact au_v | (fail))⟩
    exact ⟨perm_step he hp, hpi1⟩
theorem copyF0_t : CallT Tryd.prog 58 [.om 0, .v (.map none)] [.o (mapP [] [])] (fun t H' => t = .tup [] ∧ ∃ p : OP, p.pi = true ∧ H' = [.o (mapP [] []), .o p]) := by
  refine CallT.intro tab_ok Tryd.func58 rfl (by kernel_rfl) (Nat.le_of_ble_eq_true rfl) ?_
  refine VC.reg tab_ok [] rfl ?_
  refine VX.meek rfl ?_
  refine VX.range tab_ok rfl rfl rfl (.inr ⟨rfl, rfl, rfl⟩) ?_
  refine VX.nil ?_
  refine VC.block ?_
  refine VC.loopS (σ := Nat) (fun k => 1 - k) (fun k => k ≤ 0) (fun _ => [(7, .ptr 1 0), (0, .om 0)]) (fun _ => [.o (mapP [] []), .o (iterP none [] [])]) [] rfl (0) ?_ ?_ ?_
  · refine ⟨[some 0, some 1], rfl, by first | trivial | decide, by first | rfl | (simp only [noO, Bool.and_true, Bool.and_eq_true]; first | assumption | (refine ⟨?_, ?_⟩ <;> assumption)) | (simp only [noO, *, Bool.and_true, Bool.true_and, Bool.and_self]; done), ?_, ?_⟩ <;> (repeat' first | exact trivial | exact CvB_n | exact CvB_d | exact CvB_o rfl | refine CvE_app ?_ ?_ | refine CvE_cons rfl ?_ ?_ | refine CvH_cons ?_ ?_ | refine CvB_c rfl ?_ | fail) <;> first | exact au_v | (skip)
  · (try dsimp only); omega
  rintro k hk
  refine VC.reg tab_ok [] rfl ?_
  refine VX.next rfl rfl (fun hz1 => ?_) (fun i1 k1 t1 hk1 ht1 => ?_)
  · skip
    refine VX.meek rfl ?_
    refine VX.nil ?_
    refine VC.seq ?_
    refine VC.condF rfl ?_
    refine VC.exit ?_
    exact ⟨trivial, _, rfl, rfl, _, rfl, rfl⟩
  · exact absurd hk1 (by simp)
theorem copyW_t (F : List (Int × Wt)) (hn : (F.map Prod.fst).Nodup) : CallT Tryd.prog 59 [.om 0, .mp (kF F) (tW F)] [.o (mapP [] [])] (fun t H' => t = .tup [] ∧ ∃ p : OP, p.pi = true ∧ H' = [.o (mapP (kF F) (tW F)), .o p]) := by
  have hpi0 : (iterP none (kF F) (tW F)).pi = true := by show (T.pureL (tW F) && true) = true; rw [pW]; rfl
  have hpu := pW F
  have hpD0 := piW []
  refine CallT.intro tab_ok Tryd.func59 rfl (by kernel_rfl) (Nat.le_of_ble_eq_true rfl) ?_
  refine VC.reg tab_ok [] rfl ?_
  refine VX.meek rfl ?_
  refine VX.range tab_ok rfl rfl rfl (.inl rfl) ?_
  refine VX.nil ?_
  refine VC.block ?_
  refine VC.loopS3 (σ1 := List (Int × Wt)) (σ2 := List (Int × Wt)) (σ3 := Option (Value × T)) (fun R _ _ => R.length) (fun R D c => (D ++ R).Perm F ∧ (iterP c (kF R) (tW R)).pi = true) (fun _ _ _ => [(7, .ptr 1 0), (0, .om 0)]) (fun R D c => [.o (mapP (kF D) (tW D)), .o (iterP c (kF R) (tW R))]) [] rfl (F) ([]) (none) ?_ ?_ ?_
  · refine ⟨[some 0, some 1], rfl, by first | trivial | decide, by first | rfl | (simp only [noO, Bool.and_true, Bool.and_eq_true]; first | assumption | (refine ⟨?_, ?_⟩ <;> assumption)) | (simp only [noO, *, Bool.and_true, Bool.true_and, Bool.and_self]; done), ?_, ?_⟩ <;> (repeat' first | exact trivial | exact CvB_n | exact CvB_d | exact CvB_o rfl | refine CvE_app ?_ ?_ | refine CvE_cons rfl ?_ ?_ | refine CvH_cons ?_ ?_ | refine CvB_c rfl ?_ | fail) <;> first | exact au_v | (skip)
  · exact ⟨.refl _, hpi0⟩
  rintro R D c ⟨hp, hpi⟩
  refine VC.reg tab_ok [] rfl ?_
  refine VX.next rfl rfl (fun hz1 => ?_) (fun i1 k1 t1 hk1 ht1 => ?_)
  · have hRn : R = [] := (by simpa using hz1)
    refine VX.meek rfl ?_
    refine VX.nil ?_
    refine VC.seq ?_
    refine VC.condF rfl ?_
    refine VC.exit ?_
    subst hRn; exact ⟨trivial, _, rfl, rfl, _, hpi, by rw [List.append_nil] at hp; exact congrArg (fun p => ([.o p, _] : Hp)) (permW hp)⟩
  · obtain ⟨e, he, rfl⟩ := kF_at hk1; obtain rfl := tW_at he ht1; rw [show (kF R).eraseIdx i1 = kF (R.eraseIdx i1) from (erase_map _ _ _).symm, show (tW R).eraseIdx i1 = tW (R.eraseIdx i1) from (erase_map _ _ _).symm]
    have hlen : (R.eraseIdx i1).length < R.length := (by have := (List.getElem?_eq_some_iff.1 he).1; rw [List.length_eraseIdx_of_lt this]; omega)
    have hpi1 : (iterP (some (Value.int .i64 e.1, wtT e.2)) (kF (R.eraseIdx i1)) (tW (R.eraseIdx i1))).pi = true := (by show (T.pureL (tW _) && true) = true; rw [pW]; rfl)
    have hpD1 := piW (D ++ [e])
    refine VX.meek rfl ?_
    refine VX.nil ?_
    refine VC.seq ?_
    refine VC.condT rfl ?_
    refine VC.skip ?_
    refine VC.block ?_
    refine VC.reg tab_ok [] rfl ?_
    refine VX.entry rfl rfl ?_
    iterate 2 refine VX.meek rfl ?_
    refine VX.new rfl rfl ?_
    refine VX.meek rfl ?_
    refine VX.store rfl rfl rfl rfl rfl au_s rfl ?_
    refine VX.nil ?_
    refine VC.regN tab_ok [] rfl ?_
    iterate 2 refine VX.meek rfl ?_
    first | refine VX.meek rfl ?_ | refine VX.loadI rfl rfl au_l ?_ | refine VX.loadP rfl rfl rfl au_l ?_
    refine VX.updNew tab_ok rfl rfl rfl rfl rfl rfl rfl (show _ = some (wtT e.2) from rfl) (by exact likeF _ _) (keyNew (perm_new he hp hn)) ?_; rw [addW D e.1 e.2]
    refine VX.nil ?_
    refine ⟨R.eraseIdx i1, D ++ [e], some (Value.int .i64 e.1, wtT e.2), by (try dsimp only); omega, ?_, (by refine ⟨[some 0, some 1], rfl, by first | trivial | decide, by first | rfl | (simp only [noO, Bool.and_true, Bool.and_eq_true]; first | assumption | (refine ⟨?_, ?_⟩ <;> assumption)) | (simp only [noO, *, Bool.and_true, Bool.true_and, Bool.and_self]; done), ?_, ?_⟩ <;> (repeat' first | exact trivial | exact CvB_n | exact CvB_d | exact CvB_o rfl | refine CvE_app ?_ ?_ | refine CvE_cons rfl ?_ ?_ | refine CvH_cons ?_ ?_ | refine CvB_c rfl ?_ | fail) <;> first | exact au_v | (fail))⟩
    exact ⟨perm_step he hp, hpi1⟩
theorem copyW0_t : CallT Tryd.prog 59 [.om 0, .v (.map none)] [.o (mapP [] [])] (fun t H' => t = .tup [] ∧ ∃ p : OP, p.pi = true ∧ H' = [.o (mapP [] []), .o p]) := by
  refine CallT.intro tab_ok Tryd.func59 rfl (by kernel_rfl) (Nat.le_of_ble_eq_true rfl) ?_
  refine VC.reg tab_ok [] rfl ?_
  refine VX.meek rfl ?_
  refine VX.range tab_ok rfl rfl rfl (.inr ⟨rfl, rfl, rfl⟩) ?_
  refine VX.nil ?_
  refine VC.block ?_
  refine VC.loopS (σ := Nat) (fun k => 1 - k) (fun k => k ≤ 0) (fun _ => [(7, .ptr 1 0), (0, .om 0)]) (fun _ => [.o (mapP [] []), .o (iterP none [] [])]) [] rfl (0) ?_ ?_ ?_
  · refine ⟨[some 0, some 1], rfl, by first | trivial | decide, by first | rfl | (simp only [noO, Bool.and_true, Bool.and_eq_true]; first | assumption | (refine ⟨?_, ?_⟩ <;> assumption)) | (simp only [noO, *, Bool.and_true, Bool.true_and, Bool.and_self]; done), ?_, ?_⟩ <;> (repeat' first | exact trivial | exact CvB_n | exact CvB_d | exact CvB_o rfl | refine CvE_app ?_ ?_ | refine CvE_cons rfl ?_ ?_ | refine CvH_cons ?_ ?_ | refine CvB_c rfl ?_ | fail) <;> first | exact au_v | (skip)
  · (try dsimp only); omega
  rintro k hk
  refine VC.reg tab_ok [] rfl ?_
  refine VX.next rfl rfl (fun hz1 => ?_) (fun i1 k1 t1 hk1 ht1 => ?_)
  · skip
    refine VX.meek rfl ?_
    refine VX.nil ?_
    refine VC.seq ?_
    refine VC.condF rfl ?_
    refine VC.exit ?_
    exact ⟨trivial, _, rfl, rfl, _, rfl, rfl⟩
  · exact absurd hk1 (by simp)
end
section
open Go.RowKit
set_option maxRecDepth 10000
set_option maxHeartbeats 2000000
abbrev NILM : T := .v (.map none)
def mpF (m : Mg) : T := if m.fresh then NILM else .mp (kF m.F) (tF m.F)
def mpW (m : Mg) : T := if m.fresh then NILM else .mp (kF m.W) (tW m.W)
theorem mpF_pure (m : Mg) : (mpF m).pure = true := by unfold mpF; split; rfl; exact pF m.F
theorem mpW_pure (m : Mg) : (mpW m).pure = true := by unfold mpW; split; rfl; exact pW m.W
abbrev mgC (m : Mg) : List T := [.v (.int .u32 m.base), I64 m.cnt, I64 m.made, I64 m.w, I64 m.h, mpF m, mpW m, BL m.on, I64 m.df, I64 m.dx, I64 m.dy]
abbrev mgT (m : Mg) : T := .agg (mgC m)
theorem mg_pure (m : Mg) : T.pureL (mgC m) = true := by
  have h1 := mpF_pure m
  have h2 := mpW_pure m
  show (true && (true && (true && (true && (true && ((mpF m).pure && ((mpW m).pure && (true && (true && (true && (true && true))))))))))) = true
  rw [h1, h2]; rfl
/- a new manager's turn: without maps -/
abbrev tn0C (m : Mg) (a : T) : List T := [.v (.int .u32 m.base), I64 m.cnt, I64 m.made, I64 m.w, I64 m.h, NILM, NILM, BL m.on, I64 m.df, I64 m.dx, I64 m.dy, a]
theorem text0_t (m : Mg) (b : List UInt8) (code r : Int) (n : List Int) (c : Option Nat) (l : List Rq) (hn : n.length ≤ 100) (hl : l.length ≤ 100) (hc : 0 ≤ m.cnt ∧ m.cnt ≤ 2000000) :
    CallT Tryd.prog 55 [.ptr 0 0, strT b, I64 code, cLn (r :: n) c] [.c (tn0C m (askT 1 l)), .c (encL cRn l)]
      (fun t H' => t = .tup [] ∧ H' = [.c (tn0C { m with cnt := m.cnt + 1 } (askT 2 (l ++ [⟨code, r :: n, b, []⟩]))), .d, .c (encL cRn (l ++ [⟨code, r :: n, b, []⟩]))]) := by
  have hcl := cloneI_p r n c (by omega)
  refine CallT.intro tab_ok Tryd.func55 rfl (by kernel_rfl) (Nat.le_of_ble_eq_true rfl) ?_
  refine VC.drwC tab_ok [18] [_, _, _, _, _, _, _, _, _, _, _, _] ([.c (tn0C m (askT 1 l)), .d]) [false, false, false, false, false, false, false, false, false, false, false, true] rfl (by kernel_rfl) (by kernel_rfl) (by kernel_rfl) (by repeat' first | exact seen_nil | refine seen_dead ?_ | refine seen_same ?_) ?_
  refine VD.meek rfl ?_
  refine VD.meek rfl ?_
  refine VD.meek rfl ?_
  refine VD.meek rfl ?_
  first | refine VD.meek rfl ?_ | refine VD.loadI rfl rfl au_l ?_
  refine VD.meek rfl ?_
  refine VD.meek rfl ?_
  refine VD.callP rfl rfl (hcl) ?_
  refine VD.meek rfl ?_
  refine VD.meek rfl ?_
  refine VD.newI rfl ?_
  refine' VD.appT rfl rfl rfl rfl rfl rfl rfl rfl ?h1 ?h2 ?h3 ?h4 ?h5 (seen_same (seen_dead seen_nil)) ?_
  case h1 => rw [encL_len, cRn_sz]; omega
  case h2 => exact Nat.le_trans (Nat.mul_le_mul_right _ (show l.length + 1 ≤ 1000 by omega)) (by decide)
  case h3 => show l.length + 1 ≤ _; omega
  case h4 => rfl
  case h5 => rfl
  refine VD.nil ?_
  iterate 2 refine VX.meek rfl ?_
  refine VX.store rfl rfl rfl rfl rfl au_s rfl ?_
  refine VX.nil ?_
  refine VC.regN tab_ok [] rfl ?_
  iterate 5 refine VX.meek rfl ?_
  first | refine VX.meek rfl ?_ | refine VX.loadI rfl rfl au_l ?_ | refine VX.loadP rfl rfl rfl au_l ?_
  first | refine VX.add rfl rfl (by omega) ?_ | refine VX.meek rfl ?_
  iterate 4 refine VX.meek rfl ?_
  refine VX.store rfl rfl rfl rfl rfl au_s rfl ?_
  refine VX.nil ?_
  refine ⟨trivial, _, rfl, rfl, ?_⟩; simp only [askT, setH, encL_append, List.length_append, List.length_singleton, List.drop_zero, List.cons_append, List.nil_append]; rw [List.take_of_length_le (by rw [encL_len, cRn_sz]; exact Nat.le_refl _)]; rfl
abbrev tn0H (m : Mg) (l : List Rq) : Hp := [.c (tn0C m (askT 1 l)), .c (encL cRn l)]
abbrev tn0H1 (m : Mg) (l : List Rq) : Hp := [.c (tn0C m (askT 2 l)), .d, .c (encL cRn l)]
theorem ask0_t (m : Mg) (code r : Int) (n : List Int) (c : Option Nat) (l : List Rq) (hn : n.length ≤ 100) (hl : l.length ≤ 100) (hc : 0 ≤ m.cnt ∧ m.cnt ≤ 2000000) :
    CallT Tryd.prog 54 [.ptr 0 0, I64 code, cLn (r :: n) c] (tn0H m l) (fun t H' => t = .tup [] ∧ H' = tn0H1 (m.up 1) (l ++ [rq code (r :: n)])) := by
  have ht := text0_t m [] code r n c l hn hl hc
  refine CallT.intro tab_ok Tryd.func54 rfl (by kernel_rfl) (Nat.le_of_ble_eq_true rfl) ?_
  refine VC.regN tab_ok [] rfl ?_
  iterate 3 refine VX.meek rfl ?_
  refine VX.callT rfl rfl (CallT.frame (ht) [0, 1] rfl au_ci au_ci ?_)
  rintro _ _ ⟨rfl, rfl⟩
  refine frK au_co au_co ?_
  refine VX.nil ?_
  exact ⟨trivial, _, rfl, rfl, rfl⟩
def newL (b : Int) : List Rq := [rq 7 [1, 32, 0, 0, 0, 0, 0, 3072], ⟨23, [b + 2], [116, 105, 110, 121], []⟩, rq 19 [b + 1], rq 20 [b + 1, 28, 0, 0, 1, 200, b + 2]]
theorem mnew_p (c w h : Nat) (h1 : 1 ≤ c) (h2 : c ≤ 8) (h3 : 1 ≤ w) (h4 : w ≤ 128) (h5 : 1 ≤ h) (h6 : h ≤ 128) : CallP Tryd.prog 30 [I64 c, I64 w, I64 h] (.tup [mgT (newMg c w h), .islc (encL cRn (newL ((c * 1048576 : Nat) : Int))) 4 none, I64 0]) := by
  have hbp := base_p c h1 h2
  obtain ⟨B, hB⟩ : ∃ B, B = ((c * 1048576 : Nat) : Int) := ⟨_, rfl⟩
  have hbB : 1048576 ≤ B ∧ B ≤ 8388608 := by omega
  have hmg : mgT (newMg c w h) = .agg [.v (.int .u32 B), I64 4, I64 0, I64 w, I64 h, NILM, NILM, BL false, I64 0, I64 0, I64 0] := by rw [hB]; rfl
  rw [← hB] at hbp
  rw [← hB, hmg]
  obtain ⟨M, hM⟩ : ∃ M : Mg, M = ⟨B, 0, 0, w, h, true, [], [], false, 0, 0, 0⟩ := ⟨_, rfl⟩
  have hb : 1048576 ≤ M.base ∧ M.base ≤ 8388608 := by rw [hM]; exact hbB
  have hp := pen_p (M.up 2) hb
  have hf := font_p (M.up 1) hb
  have hp3 := pen_p (M.up 3) hb
  have hf3 := font_p (M.up 3) hb
  have hc0 : M.cnt = 0 := by rw [hM]
  have hMb : M.base = B := by rw [hM]
  obtain ⟨R0, hR0⟩ : ∃ R, R = rq 7 [1, 32, 0, 0, 0, 0, 0, 3072] := ⟨_, rfl⟩
  obtain ⟨R1, hR1⟩ : ∃ R : Rq, R = ⟨23, [B + 2], [116, 105, 110, 121], []⟩ := ⟨_, rfl⟩
  obtain ⟨R2, hR2⟩ : ∃ R, R = rq 19 [B + 1] := ⟨_, rfl⟩
  obtain ⟨R3, hR3⟩ : ∃ R, R = rq 20 [B + 1, 28, 0, 0, 1, 200, B + 2] := ⟨_, rfl⟩
  have hres : newL B = [R0, R1, R2, R3] := by rw [hR0, hR1, hR2, hR3]; rfl
  rw [hres]
  have a0 : CallT Tryd.prog 54 [.ptr 0 0, I64 7, .islc [I64 1, I64 32, I64 0, I64 0, I64 0, I64 0, I64 0, I64 3072] 8 (some 8)] (tn0H M []) (fun t H' => t = .tup [] ∧ H' = tn0H1 (M.up 1) [R0]) := by
    have := ask0_t M 7 1 [32, 0, 0, 0, 0, 0, 3072] (some 8) [] (by simp) (by simp) (by omega)
    rw [← hR0] at this
    exact this
  have a1 : CallT Tryd.prog 55 [.ptr 0 0, strT [116, 105, 110, 121], I64 23, .islc [I64 (B + 2)] 1 (some 1)] (tn0H (M.up 1) [R0]) (fun t H' => t = .tup [] ∧ H' = tn0H1 (M.up 2) [R0, R1]) := by
    have := text0_t (M.up 1) [116, 105, 110, 121] 23 (B + 2) [] (some 1) [R0] (by simp) (by simp) (by show 0 ≤ M.cnt + 1 ∧ M.cnt + 1 ≤ 2000000; omega)
    rw [← hR1, show ({ M.up 1 with cnt := (M.up 1).cnt + 1 } : Mg) = (M.up 1).up 1 from rfl, up_add M 1 1 2 (by decide)] at this
    exact this
  have a2 : CallT Tryd.prog 54 [.ptr 0 0, I64 19, .islc [I64 (B + 1)] 1 (some 1)] (tn0H (M.up 2) [R0, R1]) (fun t H' => t = .tup [] ∧ H' = tn0H1 (M.up 3) [R0, R1, R2]) := by
    have := ask0_t (M.up 2) 19 (B + 1) [] (some 1) [R0, R1] (by simp) (by simp) (by show 0 ≤ M.cnt + 2 ∧ M.cnt + 2 ≤ 2000000; omega)
    rw [← hR2, up_add M 2 1 3 (by decide)] at this
    exact this
  have a3 : CallT Tryd.prog 54 [.ptr 0 0, I64 20, .islc [I64 (B + 1), I64 28, I64 0, I64 0, I64 1, I64 200, I64 (B + 2)] 7 (some 7)] (tn0H (M.up 3) [R0, R1, R2]) (fun t H' => t = .tup [] ∧ H' = tn0H1 (M.up 4) [R0, R1, R2, R3]) := by
    have := ask0_t (M.up 3) 20 (B + 1) [28, 0, 0, 1, 200, B + 2] (some 7) [R0, R1, R2] (by simp) (by simp) (by show 0 ≤ M.cnt + 3 ∧ M.cnt + 3 ≤ 2000000; omega)
    rw [← hR3, up_add M 3 1 4 (by decide)] at this
    exact this
  have hMi : ∀ a : T, tn0C M a = [.v (.int .u32 B), I64 0, I64 0, I64 w, I64 h, NILM, NILM, BL false, I64 0, I64 0, I64 0, a] := fun a => by rw [hM]
  have hM4 : ∀ a : T, tn0C (M.up 4) a = [.v (.int .u32 B), I64 4, I64 0, I64 w, I64 h, NILM, NILM, BL false, I64 0, I64 0, I64 0, a] := fun a => by rw [hM]; rfl
  rw [hMb] at hp hf hp3 hf3
  refine CallP.intro2 au_pu au_pu ?_
  refine CallT.intro tab_ok Tryd.func30 rfl (by kernel_rfl) (Nat.le_of_ble_eq_true rfl) ?_
  refine VC.reg tab_ok [] rfl ?_
  refine VX.new rfl rfl ?_
  iterate 2 refine VX.meek rfl ?_
  refine VX.nil ?_
  refine VC.reg tab_ok [] rfl ?_
  refine VX.meek rfl ?_
  refine VX.callP0 rfl rfl rfl (hbp) ?_
  iterate 5 refine VX.meek rfl ?_
  refine VX.nil ?_
  refine VC.seq ?_
  refine VC.reg tab_ok [] rfl ?_
  iterate 2 refine VX.meek rfl ?_
  refine VX.nil ?_
  refine VC.cond rfl (fun hc0 => ?_) (fun hc0 => ?_)
  · exact absurd hc0 (by decide)
  · (try simp only [au_std] at hc0)
    refine VC.skip ?_
    refine VC.seq ?_
    refine VC.reg tab_ok [] rfl ?_
    iterate 3 refine VX.meek rfl ?_
    refine' VX.merge (d := 25) [_, _, _] rfl ?_ rfl ?_
    rotate_left
    · refine VX.guard rfl rfl (fun hb4_2 => ?_) (fun hb4_2 => ?_)
      · have ghb4_2 := hb4_2
        try simp only [au_std, Bool.not_true, Bool.not_false] at ghb4_2
        refine VX.meek rfl ?_
        refine VX.guardT rfl rfl hb4_2 ?_
        refine VX.meek rfl ?_
        refine VX.pickO rfl (fun _ => rfl) ?_
        exact VX.nil ⟨rfl, rfl⟩
      · refine VX.guardF rfl rfl hb4_2 ?_
        exact VX.pickO rfl (fun h => absurd (h.symm.trans hb4_2) (by decide)) (VX.nil ⟨rfl, rfl⟩)
    refine VX.meek rfl ?_
    refine' VX.merge (d := 29) [_, _, _] rfl ?_ rfl ?_
    rotate_left
    · refine VX.guard rfl rfl (fun hb4_6 => ?_) (fun hb4_6 => ?_)
      · have ghb4_6 := hb4_6
        try simp only [au_std, Bool.not_true, Bool.not_false] at ghb4_6
        refine VX.meek rfl ?_
        refine VX.guardT rfl rfl hb4_6 ?_
        refine VX.meek rfl ?_
        refine VX.pickO rfl (fun _ => rfl) ?_
        exact VX.nil ⟨rfl, rfl⟩
      · refine VX.guardF rfl rfl hb4_6 ?_
        exact VX.pickO rfl (fun h => absurd (h.symm.trans hb4_6) (by decide)) (VX.nil ⟨rfl, rfl⟩)
    refine VX.meek rfl ?_
    refine' VX.merge (d := 33) [_, _, _] rfl ?_ rfl ?_
    rotate_left
    · refine VX.guard rfl rfl (fun hb4_10 => ?_) (fun hb4_10 => ?_)
      · have ghb4_10 := hb4_10
        try simp only [au_std, Bool.not_true, Bool.not_false] at ghb4_10
        refine VX.meek rfl ?_
        refine VX.guardT rfl rfl hb4_10 ?_
        refine VX.meek rfl ?_
        refine VX.pickO rfl (fun _ => rfl) ?_
        exact VX.nil ⟨rfl, rfl⟩
      · refine VX.guardF rfl rfl hb4_10 ?_
        exact VX.pickO rfl (fun h => absurd (h.symm.trans hb4_10) (by decide)) (VX.nil ⟨rfl, rfl⟩)
    refine VX.nil ?_
    refine VC.cond rfl (fun hc1 => ?_) (fun hc1 => ?_)
    · exact absurd hc1 (by simp; omega)
    · (try simp only [au_std] at hc1)
      refine VC.skip ?_
      refine VC.reg tab_ok [] rfl ?_
      iterate 6 refine VX.meek rfl ?_
      refine VX.new rfl rfl ?_
      refine VX.store rfl rfl rfl rfl rfl au_s rfl ?_
      refine VX.nil ?_
      refine VC.view ([(6, .ptr 2 0), (11, .ptr 0 0)]) (tn0H M [] ++ [.c [.v (.int .u32 0), I64 0, I64 0, I64 0, I64 0, NILM, NILM, BL false, I64 0, I64 0, I64 0]]) [] rfl (by refine ⟨[some 1, none, some 0], rfl, by first | trivial | decide, by first | rfl | (simp only [noO, Bool.and_true, Bool.and_eq_true]; first | assumption | (refine ⟨?_, ?_⟩ <;> assumption)) | (simp only [noO, *, Bool.and_true, Bool.true_and, Bool.and_self]; done), ?_, ?_⟩ <;> (repeat' first | exact trivial | exact CvB_n | exact CvB_d | exact CvB_o rfl | refine CvE_app ?_ ?_ | refine CvE_cons rfl ?_ ?_ | refine CvH_cons ?_ ?_ | refine CvB_c rfl ?_ | fail) <;> first | exact au_v | (first | exact CvL.pure rfl | (rw [hMi]; exact CvL.cons (Cv.pure rfl) (CvL.cons (Cv.pure rfl) (CvL.cons (Cv.pure rfl) (CvL.cons (Cv.pure rfl) (CvL.cons (Cv.pure rfl) (CvL.cons (Cv.pure rfl) (CvL.cons (Cv.pure rfl) (CvL.cons (Cv.pure rfl) (CvL.cons (Cv.pure rfl) (CvL.cons (Cv.pure rfl) (CvL.cons (Cv.pure rfl) (CvL.cons (Cv.nilv rfl) CvL.nil)))))))))))))) ?_
      refine VC.reg tab_ok [41] rfl ?_
      refine VX.newI rfl rfl ?_
      refine VX.callT rfl rfl (CallT.frame (a0) [0, 1] rfl au_ci au_ci ?_)
      rintro _ _ ⟨rfl, rfl⟩
      refine frK au_co au_co ?_
      refine VX.nil ?_
      refine VC.reg tab_ok [47] rfl ?_
      iterate 2 refine VX.meek rfl ?_
      first | refine VX.meek rfl ?_ | refine VX.loadI rfl rfl au_l ?_ | refine VX.loadP rfl rfl rfl au_l ?_
      refine VX.callP0 rfl rfl rfl (hf) ?_
      refine VX.newI rfl rfl ?_
      refine VX.callT rfl rfl (CallT.frame (a1) [0, 3] rfl au_ci au_ci ?_)
      rintro _ _ ⟨rfl, rfl⟩
      refine frK au_co au_co ?_
      refine VX.nil ?_
      refine VC.reg tab_ok [53] rfl ?_
      iterate 2 refine VX.meek rfl ?_
      first | refine VX.meek rfl ?_ | refine VX.loadI rfl rfl au_l ?_ | refine VX.loadP rfl rfl rfl au_l ?_
      refine VX.callP0 rfl rfl rfl (hp) ?_
      refine VX.newI rfl rfl ?_
      refine VX.callT rfl rfl (CallT.frame (a2) [0, 4] rfl au_ci au_ci ?_)
      rintro _ _ ⟨rfl, rfl⟩
      refine frK au_co au_co ?_
      refine VX.nil ?_
      refine VC.drw tab_ok [63] [_, _, _, _, _, _, _, _, _] rfl (by kernel_rfl) (by kernel_rfl) ?_
      iterate 2 refine VX.meek rfl ?_
      first | refine VX.meek rfl ?_ | refine VX.loadI rfl rfl au_l ?_ | refine VX.loadP rfl rfl rfl au_l ?_
      refine VX.callP0 rfl rfl rfl (hp3) ?_
      iterate 2 refine VX.meek rfl ?_
      first | refine VX.meek rfl ?_ | refine VX.loadI rfl rfl au_l ?_ | refine VX.loadP rfl rfl rfl au_l ?_
      refine VX.callP0 rfl rfl rfl (hf3) ?_
      refine VX.newI rfl rfl ?_
      refine VX.nil ?_
      refine VX.callT rfl rfl (CallT.frame (a3) [0, 5] rfl au_ci au_ci ?_)
      rintro _ _ ⟨rfl, rfl⟩
      refine frK au_co au_co ?_
      refine VX.nil ?_
      refine VC.view ([(6, .ptr 1 0), (11, .ptr 0 0)]) ([.c [.v (.int .u32 B), I64 4, I64 0, I64 w, I64 h, NILM, NILM, BL false, I64 0, I64 0, I64 0, askT 2 [R0, R1, R2, R3]], .c [.v (.int .u32 0), I64 0, I64 0, I64 0, I64 0, NILM, NILM, BL false, I64 0, I64 0, I64 0], .c (encL cRn [R0, R1, R2, R3])]) [] rfl (by refine ⟨[some 0, some 2, some 6], rfl, by first | trivial | decide, by first | rfl | (simp only [noO, Bool.and_true, Bool.and_eq_true]; first | assumption | (refine ⟨?_, ?_⟩ <;> assumption)) | (simp only [noO, *, Bool.and_true, Bool.true_and, Bool.and_self]; done), ?_, ?_⟩ <;> (repeat' first | exact trivial | exact CvB_n | exact CvB_d | exact CvB_o rfl | refine CvE_app ?_ ?_ | refine CvE_cons rfl ?_ ?_ | refine CvH_cons ?_ ?_ | refine CvB_c rfl ?_ | fail) <;> first | exact au_v | (first | exact CvL.pure rfl | exact CvL.pure (encL_pure _ _) | (rw [← hM4]; exact CvL.cons (Cv.pure rfl) (CvL.cons (Cv.pure rfl) (CvL.cons (Cv.pure rfl) (CvL.cons (Cv.pure rfl) (CvL.cons (Cv.pure rfl) (CvL.cons (Cv.pure rfl) (CvL.cons (Cv.pure rfl) (CvL.cons (Cv.pure rfl) (CvL.cons (Cv.pure rfl) (CvL.cons (Cv.pure rfl) (CvL.cons (Cv.pure rfl) (CvL.cons (Cv.slc rfl (.inr rfl)) CvL.nil)))))))))))))) ?_
      refine VC.drwS tab_ok [] [_, _, _, _, _] (_) rfl (by kernel_rfl) (by kernel_rfl) (by kernel_rfl) (seen_kill (b := 1) (seen_refl _) (Nat.le_of_ble_eq_true rfl)) ?_
      refine VS.seg (l1 := [_, _, _, _]) rfl ?_
      refine VX.meek rfl ?_
      first | refine VX.meek rfl ?_ | refine VX.loadI rfl rfl au_l ?_ | refine VX.loadP rfl rfl rfl au_l ?_
      refine VX.meek rfl ?_
      first | refine VX.meek rfl ?_ | refine VX.loadI rfl rfl au_l ?_ | refine VX.loadP rfl rfl rfl au_l ?_
      refine VX.nil ?_
      refine VS.sto rfl rfl rfl rfl ?_
      refine VS.nil (⟨rfl, Nat.le_of_ble_eq_true rfl, rfl, trivial⟩) ?_
      iterate 2 refine VX.meek rfl ?_
      refine VX.nil ?_
      refine VC.ret ?_
      exact ⟨trivial, _, rfl, Cv.tup (CvL.cons (Cv.agg (CvL.pure rfl)) (CvL.cons (Cv.fslc0 ⟨rfl, (by simp)⟩ (CvL.pure (encL_pure _ _))) (CvL.cons (Cv.pure rfl) CvL.nil)))⟩
end
section
open Go.RowKit
set_option maxRecDepth 10000
set_option maxHeartbeats 2000000
theorem copyF_any (m : Mg) (top : Int) (ok : m.Ok top) : CallT Tryd.prog 58 [.om 0, mpF m] [.o (mapP [] [])] (fun t H' => t = .tup [] ∧ ∃ p : OP, p.pi = true ∧ H' = [.o (mF m), .o p]) := by
  cases hf : m.fresh with
  | true =>
    have := (ok.fresh hf).1
    rw [show mpF m = NILM from if_pos hf, show mF m = mapP [] [] from by rw [mF, this]; rfl]
    exact copyF0_t
  | false =>
    rw [show mpF m = .mp (kF m.F) (tF m.F) from if_neg (by rw [hf]; simp)]
    exact copyF_t m.F ok.fk
theorem copyW_any (m : Mg) (top : Int) (ok : m.Ok top) : CallT Tryd.prog 59 [.om 0, mpW m] [.o (mapP [] [])] (fun t H' => t = .tup [] ∧ ∃ p : OP, p.pi = true ∧ H' = [.o (mW m), .o p]) := by
  cases hf : m.fresh with
  | true =>
    have := (ok.fresh hf).2
    rw [show mpW m = NILM from if_pos hf, show mW m = mapP [] [] from by rw [mW, this]; rfl]
    exact copyW0_t
  | false =>
    rw [show mpW m = .mp (kF m.W) (tW m.W) from if_neg (by rw [hf]; simp)]
    exact copyW_t m.W ok.wk
abbrev evsK : List Value := [.int .i64 17, .int .i64 19, .int .i64 16, .int .i64 14, .int .i64 20, .int .i64 10, .int .i64 3, .int .i64 4, .int .i64 5]
abbrev evsT : List T := [.clo 89 [] [], .clo 90 [] [], .clo 91 [] [], .clo 92 [] [], .clo 93 [] [], .clo 94 [] [], .clo 95 [] [], .clo 96 [] [], .clo 97 [] []]
theorem events_m : CallP Tryd.prog 64 [] (.mp evsK evsT) := by
  refine CallP.intro2 au_pu au_pu ?_
  refine CallT.intro tab_ok Tryd.func64 rfl (by kernel_rfl) (Nat.le_of_ble_eq_true rfl) ?_
  refine VC.reg tab_ok [] rfl ?_
  refine VX.meek rfl ?_
  refine VX.nil ?_
  refine VC.reg tab_ok [] rfl ?_
  refine VX.makeMap ?_
  refine VX.insNew tab_ok rfl rfl rfl rfl rfl rfl rfl rfl (by first | rfl | assumption | decide) (by first | assumption | (simp; done)) ?_
  refine VX.insNew tab_ok rfl rfl rfl rfl rfl rfl rfl rfl (by first | rfl | assumption | decide) (by first | assumption | (simp; done)) ?_
  refine VX.insNew tab_ok rfl rfl rfl rfl rfl rfl rfl rfl (by first | rfl | assumption | decide) (by first | assumption | (simp; done)) ?_
  refine VX.insNew tab_ok rfl rfl rfl rfl rfl rfl rfl rfl (by first | rfl | assumption | decide) (by first | assumption | (simp; done)) ?_
  refine VX.insNew tab_ok rfl rfl rfl rfl rfl rfl rfl rfl (by first | rfl | assumption | decide) (by first | assumption | (simp; done)) ?_
  refine VX.insNew tab_ok rfl rfl rfl rfl rfl rfl rfl rfl (by first | rfl | assumption | decide) (by first | assumption | (simp; done)) ?_
  refine VX.insNew tab_ok rfl rfl rfl rfl rfl rfl rfl rfl (by first | rfl | assumption | decide) (by first | assumption | (simp; done)) ?_
  refine VX.insNew tab_ok rfl rfl rfl rfl rfl rfl rfl rfl (by first | rfl | assumption | decide) (by first | assumption | (simp; done)) ?_
  refine VX.insNew tab_ok rfl rfl rfl rfl rfl rfl rfl rfl (by first | rfl | assumption | decide) (by first | assumption | (simp; done)) ?_
  iterate 2 refine VX.meek rfl ?_
  refine VX.nil ?_
  refine VC.ret ?_
  exact ⟨trivial, _, rfl, Cv.fom ⟨rfl, by simp⟩ (CvL.pure rfl)⟩
abbrev rqN (l : List Rq) : T := .islc (encL cRn l) l.length none
abbrev zMg : List T := [.v (.int .u32 0), I64 0, I64 0, I64 0, I64 0, NILM, NILM, BL false, I64 0, I64 0, I64 0]
theorem cv_mg {v : Vw} {m : Mg} (hf : m.fresh = false) (h1 : Cv v (.om 1) (.mp (kF m.F) (tF m.F))) (h2 : Cv v (.om 2) (.mp (kF m.W) (tW m.W))) : CvL v [.v (.int .u32 m.base), I64 m.cnt, I64 m.made, I64 m.w, I64 m.h, .om 1, .om 2, BL m.on, I64 m.df, I64 m.dx, I64 m.dy] (mgC m) := by
  have e1 : mpF m = .mp (kF m.F) (tF m.F) := if_neg (by rw [hf]; simp)
  have e2 : mpW m = .mp (kF m.W) (tW m.W) := if_neg (by rw [hf]; simp)
  rw [mgC, e1, e2]
  exact CvL.cons (Cv.pure rfl) (CvL.cons (Cv.pure rfl) (CvL.cons (Cv.pure rfl) (CvL.cons (Cv.pure rfl) (CvL.cons (Cv.pure rfl) (CvL.cons h1 (CvL.cons h2 (CvL.cons (Cv.pure rfl) (CvL.cons (Cv.pure rfl) (CvL.cons (Cv.pure rfl) (CvL.cons (Cv.pure rfl) CvL.nil))))))))))
theorem step0_t (m : Mg) (o : Ot) (m2 : Mg) (top : Int) (ok : m.Ok top) (hf2 : m2.fresh = false) (hk : o.kind = 0) (X Y : T) (hpX : X.pure = true) (hpY : Y.pure = true) (hcX : cellB X = true) (hcY : cellB Y = true)
    (hcF : CallT Tryd.prog 58 [.om 0, X] [.o (mapP [] [])] (fun t H' => t = .tup [] ∧ ∃ p : OP, p.pi = true ∧ H' = [.o (mF m), .o p]))
    (hcW : CallT Tryd.prog 59 [.om 0, Y] [.o (mapP [] [])] (fun t H' => t = .tup [] ∧ ∃ p : OP, p.pi = true ∧ H' = [.o (mW m), .o p]))
    (hact : CallT Tryd.prog 60 [.ptr 0 0, I64 o.seq] (tnH m (mF m) (mW m) []) (fun t H' => t = .tup [] ∧ H' = tnH m2 (mF m2) (mW m2) [])) :
    CallP Tryd.prog 31 [.agg [.v (.int .u32 m.base), I64 m.cnt, I64 m.made, I64 m.w, I64 m.h, X, Y, BL m.on, I64 m.df, I64 m.dx, I64 m.dy], otT o] (.tup [mgT m2, rqN []]) := by
  have hot := ot_pure o
  have hpF := piF m.F
  have hpW := piW m.W
  have hpF2 := piF m2.F
  have hpW2 := piW m2.W
  have hp3 := mpF_pure m2
  have hp4 := mpW_pure m2
  refine CallP.intro2 au_pu au_pu ?_
  refine CallT.intro tab_ok Tryd.func31 rfl (by kernel_rfl) (Nat.le_of_ble_eq_true rfl) ?_
  refine VC.reg tab_ok [2, 3] rfl ?_
  refine VX.newI rfl rfl ?_
  refine VX.newI rfl rfl ?_
  refine VX.new rfl rfl ?_
  refine VX.meek rfl ?_
  refine VX.nil ?_
  refine VC.reg tab_ok [] rfl ?_
  first | refine VX.meek rfl ?_ | refine VX.loadI rfl rfl au_l ?_ | refine VX.loadP rfl rfl rfl au_l ?_
  refine VX.meek rfl ?_
  refine VX.new rfl rfl ?_
  refine VX.store rfl rfl rfl rfl rfl (Nat.le_of_ble_eq_true rfl) (by show (true && (true && (true && (true && (true && (cellB X && (cellB Y && (true && (true && (true && (true && (true && true)))))))))))) = true; rw [hcX, hcY]; rfl) ?_
  refine VX.nil ?_
  refine VC.reg tab_ok [] rfl ?_
  refine VX.makeMap ?_
  refine VX.makeMap ?_
  iterate 2 refine VX.meek rfl ?_
  refine VX.store rfl rfl rfl rfl rfl au_s rfl ?_
  iterate 2 refine VX.meek rfl ?_
  refine VX.store rfl rfl rfl rfl rfl au_s rfl ?_
  refine VX.nil ?_
  refine VC.reg tab_ok [] rfl ?_
  iterate 2 refine VX.meek rfl ?_
  first | refine VX.meek rfl ?_ | refine VX.loadI rfl rfl au_l ?_ | refine VX.loadP rfl rfl rfl au_l ?_
  refine VX.meek rfl ?_
  first | refine VX.meek rfl ?_ | refine VX.loadI rfl rfl au_l ?_ | refine VX.loadP rfl rfl rfl au_l ?_
  refine VX.callT rfl rfl (CallT.frame (hcF) [2] rfl au_ci au_ci ?_)
  rintro _ _ ⟨rfl, p1, hp1, rfl⟩
  refine frK au_co au_co ?_
  refine VX.nil ?_
  refine VC.reg tab_ok [] rfl ?_
  iterate 2 refine VX.meek rfl ?_
  first | refine VX.meek rfl ?_ | refine VX.loadI rfl rfl au_l ?_ | refine VX.loadP rfl rfl rfl au_l ?_
  refine VX.meek rfl ?_
  first | refine VX.meek rfl ?_ | refine VX.loadI rfl rfl au_l ?_ | refine VX.loadP rfl rfl rfl au_l ?_
  refine VX.callT rfl rfl (CallT.frame (hcW) [3] rfl au_ci au_ci ?_)
  rintro _ _ ⟨rfl, p2, hp2, rfl⟩
  refine frK au_co au_co ?_
  refine VX.nil ?_
  refine VC.view ([(6, .ptr 0 0), (4, .ptr 4 0)]) ([.c (tnC m (askT 3 [])), .o (mF m), .o (mW m), .c (encL cRn []), .c zMg]) [3] rfl (by refine ⟨[some 1, some 2, some 3, none, some 0], rfl, by first | trivial | decide, by first | rfl | (simp only [noO, Bool.and_true, Bool.and_eq_true]; first | assumption | (refine ⟨?_, ?_⟩ <;> assumption)) | (simp only [noO, *, Bool.and_true, Bool.true_and, Bool.and_self]; done), ?_, ?_⟩ <;> (repeat' first | exact trivial | exact CvB_n | exact CvB_d | exact CvB_o rfl | refine CvE_app ?_ ?_ | refine CvE_cons rfl ?_ ?_ | refine CvH_cons ?_ ?_ | refine CvB_c rfl ?_ | fail) <;> first | exact au_v | (first | exact CvL.pure rfl | exact Cv.ptr rfl | exact CvL.cons (Cv.pure rfl) (CvL.cons (Cv.pure rfl) (CvL.cons (Cv.pure rfl) (CvL.cons (Cv.pure rfl) (CvL.cons (Cv.pure rfl) (CvL.cons (Cv.om rfl) (CvL.cons (Cv.om rfl) (CvL.cons (Cv.pure rfl) (CvL.cons (Cv.pure rfl) (CvL.cons (Cv.pure rfl) (CvL.cons (Cv.pure rfl) (CvL.cons (Cv.nilv rfl) CvL.nil))))))))))))) ?_
  refine VC.seq ?_
  refine VC.reg tab_ok [] rfl ?_
  refine VX.meek rfl ?_
  first | refine VX.meek rfl ?_ | refine VX.loadI rfl rfl au_l ?_ | refine VX.loadP rfl rfl rfl au_l ?_
  refine VX.nil ?_
  refine VC.block ?_
  refine VC.reg tab_ok [] rfl ?_
  iterate 2 refine VX.meek rfl ?_
  refine VX.nil ?_
  refine VC.cond rfl (fun hc0 => ?_) (fun hc0 => ?_)
  · (try simp only [au_std] at hc0)
    refine VC.regN tab_ok [] rfl ?_
    refine VX.meek rfl ?_
    first | refine VX.meek rfl ?_ | refine VX.loadI rfl rfl au_l ?_ | refine VX.loadP rfl rfl rfl au_l ?_
    refine VX.callT rfl rfl (CallT.frame (hact) [0, 1, 2, 3] rfl au_ci au_ci ?_)
    rintro _ _ ⟨rfl, rfl⟩
    refine frK au_co au_co ?_
    refine VX.nil ?_
    refine VC.drwS tab_ok [] [_, _, _, _, _] (_) rfl (by kernel_rfl) (by kernel_rfl) (by kernel_rfl) (seen_kill (b := 4) (seen_refl _) (Nat.le_of_ble_eq_true rfl)) ?_
    refine VS.seg (l1 := [_, _, _, _]) rfl ?_
    refine VX.meek rfl ?_
    first | refine VX.meek rfl ?_ | refine VX.loadI rfl rfl au_l ?_ | refine VX.loadP rfl rfl rfl au_l ?_
    refine VX.meek rfl ?_
    first | refine VX.meek rfl ?_ | refine VX.loadI rfl rfl au_l ?_ | refine VX.loadP rfl rfl rfl au_l ?_
    refine VX.nil ?_
    refine VS.sto rfl rfl rfl rfl ?_
    refine VS.nil (⟨rfl, Nat.le_of_ble_eq_true rfl, rfl, trivial⟩) ?_
    refine VX.meek rfl ?_
    refine VX.nil ?_
    refine VC.ret ?_
    exact ⟨trivial, _, rfl, Cv.tup (CvL.cons (Cv.agg (cv_mg hf2 (Cv.fom ⟨rfl, (by simp)⟩ (CvL.pure (pF m2.F))) (Cv.fom ⟨rfl, (by simp)⟩ (CvL.pure (pW m2.W))))) (CvL.cons (Cv.fslc0 ⟨rfl, (by simp)⟩ (CvL.pure (encL_pure _ _))) CvL.nil))⟩
  · exact absurd hc0 (by simp [hk])
end
section
open Go.RowKit
set_option maxRecDepth 10000
set_option maxHeartbeats 2000000
theorem step1a0_t (m : Mg) (o : Ot) (m2 : Mg) (f : Fm) (hf2 : m2.fresh = false) (hk : o.kind = 1) (hrep : CallP Tryd.prog 61 [I64 o.code] (.tup [fmT f, BL true])) (hle : f.fx.length ≤ o.n.length) (hact : CallT Tryd.prog 62 [.ptr 0 0, otT o] (tnH m (mF m) (mW m) []) (fun t H' => t = .tup [] ∧ H' = tnH m2 (mF m2) (mW m2) []))
    (X Y : T) (hpX : X.pure = true) (hpY : Y.pure = true) (hcX : cellB X = true) (hcY : cellB Y = true)
    (hcF : CallT Tryd.prog 58 [.om 0, X] [.o (mapP [] [])] (fun t H' => t = .tup [] ∧ ∃ p : OP, p.pi = true ∧ H' = [.o (mF m), .o p]))
    (hcW : CallT Tryd.prog 59 [.om 0, Y] [.o (mapP [] [])] (fun t H' => t = .tup [] ∧ ∃ p : OP, p.pi = true ∧ H' = [.o (mW m), .o p])) :
    CallP Tryd.prog 31 [.agg [.v (.int .u32 m.base), I64 m.cnt, I64 m.made, I64 m.w, I64 m.h, X, Y, BL m.on, I64 m.df, I64 m.dx, I64 m.dy], otT o] (.tup [mgT m2, rqN []]) := by
  have hot := ot_pure o
  have hpF := piF m.F
  have hpW := piW m.W
  have hpF2 := piF m2.F
  have hpW2 := piW m2.W
  have hp3 := mpF_pure m2
  have hp4 := mpW_pure m2
  refine CallP.intro2 au_pu au_pu ?_
  refine CallT.intro tab_ok Tryd.func31 rfl (by kernel_rfl) (Nat.le_of_ble_eq_true rfl) ?_
  refine VC.reg tab_ok [2, 3] rfl ?_
  refine VX.newI rfl rfl ?_
  refine VX.newI rfl rfl ?_
  refine VX.new rfl rfl ?_
  refine VX.meek rfl ?_
  refine VX.nil ?_
  refine VC.reg tab_ok [] rfl ?_
  first | refine VX.meek rfl ?_ | refine VX.loadI rfl rfl au_l ?_ | refine VX.loadP rfl rfl rfl au_l ?_
  refine VX.meek rfl ?_
  refine VX.new rfl rfl ?_
  refine VX.store rfl rfl rfl rfl rfl (Nat.le_of_ble_eq_true rfl) (by show (true && (true && (true && (true && (true && (cellB X && (cellB Y && (true && (true && (true && (true && (true && true)))))))))))) = true; rw [hcX, hcY]; rfl) ?_
  refine VX.nil ?_
  refine VC.reg tab_ok [] rfl ?_
  refine VX.makeMap ?_
  refine VX.makeMap ?_
  iterate 2 refine VX.meek rfl ?_
  refine VX.store rfl rfl rfl rfl rfl au_s rfl ?_
  iterate 2 refine VX.meek rfl ?_
  refine VX.store rfl rfl rfl rfl rfl au_s rfl ?_
  refine VX.nil ?_
  refine VC.reg tab_ok [] rfl ?_
  iterate 2 refine VX.meek rfl ?_
  first | refine VX.meek rfl ?_ | refine VX.loadI rfl rfl au_l ?_ | refine VX.loadP rfl rfl rfl au_l ?_
  refine VX.meek rfl ?_
  first | refine VX.meek rfl ?_ | refine VX.loadI rfl rfl au_l ?_ | refine VX.loadP rfl rfl rfl au_l ?_
  refine VX.callT rfl rfl (CallT.frame (hcF) [2] rfl au_ci au_ci ?_)
  rintro _ _ ⟨rfl, p1, hp1, rfl⟩
  refine frK au_co au_co ?_
  refine VX.nil ?_
  refine VC.reg tab_ok [] rfl ?_
  iterate 2 refine VX.meek rfl ?_
  first | refine VX.meek rfl ?_ | refine VX.loadI rfl rfl au_l ?_ | refine VX.loadP rfl rfl rfl au_l ?_
  refine VX.meek rfl ?_
  first | refine VX.meek rfl ?_ | refine VX.loadI rfl rfl au_l ?_ | refine VX.loadP rfl rfl rfl au_l ?_
  refine VX.callT rfl rfl (CallT.frame (hcW) [3] rfl au_ci au_ci ?_)
  rintro _ _ ⟨rfl, p2, hp2, rfl⟩
  refine frK au_co au_co ?_
  refine VX.nil ?_
  refine VC.view ([(6, .ptr 0 0), (4, .ptr 4 0)]) ([.c (tnC m (askT 3 [])), .o (mF m), .o (mW m), .c (encL cRn []), .c zMg]) [3] rfl (by refine ⟨[some 1, some 2, some 3, none, some 0], rfl, by first | trivial | decide, by first | rfl | (simp only [noO, Bool.and_true, Bool.and_eq_true]; first | assumption | (refine ⟨?_, ?_⟩ <;> assumption)) | (simp only [noO, *, Bool.and_true, Bool.true_and, Bool.and_self]; done), ?_, ?_⟩ <;> (repeat' first | exact trivial | exact CvB_n | exact CvB_d | exact CvB_o rfl | refine CvE_app ?_ ?_ | refine CvE_cons rfl ?_ ?_ | refine CvH_cons ?_ ?_ | refine CvB_c rfl ?_ | fail) <;> first | exact au_v | (first | exact CvL.pure rfl | exact Cv.ptr rfl | exact CvL.cons (Cv.pure rfl) (CvL.cons (Cv.pure rfl) (CvL.cons (Cv.pure rfl) (CvL.cons (Cv.pure rfl) (CvL.cons (Cv.pure rfl) (CvL.cons (Cv.om rfl) (CvL.cons (Cv.om rfl) (CvL.cons (Cv.pure rfl) (CvL.cons (Cv.pure rfl) (CvL.cons (Cv.pure rfl) (CvL.cons (Cv.pure rfl) (CvL.cons (Cv.nilv rfl) CvL.nil))))))))))))) ?_
  refine VC.seq ?_
  refine VC.reg tab_ok [] rfl ?_
  refine VX.meek rfl ?_
  first | refine VX.meek rfl ?_ | refine VX.loadI rfl rfl au_l ?_ | refine VX.loadP rfl rfl rfl au_l ?_
  refine VX.nil ?_
  refine VC.block ?_
  refine VC.reg tab_ok [] rfl ?_
  iterate 2 refine VX.meek rfl ?_
  refine VX.nil ?_
  refine VC.cond rfl (fun hc0 => ?_) (fun hc0 => ?_)
  · exact absurd hc0 (by simp [hk])
  · (try simp only [au_std] at hc0)
    refine VC.reg tab_ok [] rfl ?_
    iterate 2 refine VX.meek rfl ?_
    refine VX.nil ?_
    refine VC.cond rfl (fun hc1 => ?_) (fun hc1 => ?_)
    · (try simp only [au_std] at hc1)
      refine VC.reg tab_ok [] rfl ?_
      refine VX.meek rfl ?_
      first | refine VX.meek rfl ?_ | refine VX.loadI rfl rfl au_l ?_ | refine VX.loadP rfl rfl rfl au_l ?_
      refine VX.callP0 rfl rfl rfl (hrep) ?_
      iterate 3 refine VX.meek rfl ?_
      refine VX.new rfl rfl ?_
      refine VX.store rfl rfl rfl rfl rfl au_s rfl ?_
      refine VX.meek rfl ?_
      refine VX.nil ?_
      refine VC.reg tab_ok [] rfl ?_
      iterate 2 refine VX.meek rfl ?_
      refine' VX.merge (d := 56) [_, _, _, _, _, _, _, _] rfl ?_ rfl ?_
      rotate_left
      · refine VX.guard rfl rfl (fun hb10_1 => ?_) (fun hb10_1 => ?_)
        · have ghb10_1 := hb10_1
          try simp only [au_std, Bool.not_true, Bool.not_false] at ghb10_1
          refine VX.meek rfl ?_
          refine VX.guardT rfl rfl hb10_1 ?_
          first | refine VX.meek rfl ?_ | refine VX.loadI rfl rfl au_l ?_ | refine VX.loadP rfl rfl rfl au_l ?_
          refine VX.guardT rfl rfl hb10_1 ?_
          refine VX.meek rfl ?_
          refine VX.guardT rfl rfl hb10_1 ?_
          refine VX.meek rfl ?_
          refine VX.guardT rfl rfl hb10_1 ?_
          first | refine VX.meek rfl ?_ | refine VX.loadI rfl rfl au_l ?_ | refine VX.loadP rfl rfl rfl au_l ?_
          refine VX.guardT rfl rfl hb10_1 ?_
          refine VX.meek rfl ?_
          refine VX.guardT rfl rfl hb10_1 ?_
          refine VX.meek rfl ?_
          refine VX.pickA rfl (fun _ => rfl) ?_
          exact VX.nil ⟨rfl, rfl⟩
        · refine VX.guardF rfl rfl hb10_1 ?_
          refine VX.guardF rfl rfl hb10_1 ?_
          refine VX.guardF rfl rfl hb10_1 ?_
          refine VX.guardF rfl rfl hb10_1 ?_
          refine VX.guardF rfl rfl hb10_1 ?_
          refine VX.guardF rfl rfl hb10_1 ?_
          exact VX.pickA rfl (fun h => absurd (h.symm.trans hb10_1) (by decide)) (VX.nil ⟨rfl, rfl⟩)
      refine VX.nil ?_
      refine VC.cond rfl (fun hc2 => ?_) (fun hc2 => ?_)
      · (try simp only [au_std] at hc2)
        refine VC.regN tab_ok [] rfl ?_
        first | refine VX.meek rfl ?_ | refine VX.loadI rfl rfl au_l ?_ | refine VX.loadP rfl rfl rfl au_l ?_
        refine VX.callT rfl rfl (CallT.frame (hact) [0, 1, 2, 3] rfl au_ci au_ci ?_)
        rintro _ _ ⟨rfl, rfl⟩
        refine frK au_co au_co ?_
        refine VX.nil ?_
        refine VC.drwS tab_ok [] [_, _, _, _, _] (_) rfl (by kernel_rfl) (by kernel_rfl) (by kernel_rfl) (seen_kill (b := 4) (seen_refl _) (Nat.le_of_ble_eq_true rfl)) ?_
        refine VS.seg (l1 := [_, _, _, _]) rfl ?_
        refine VX.meek rfl ?_
        first | refine VX.meek rfl ?_ | refine VX.loadI rfl rfl au_l ?_ | refine VX.loadP rfl rfl rfl au_l ?_
        refine VX.meek rfl ?_
        first | refine VX.meek rfl ?_ | refine VX.loadI rfl rfl au_l ?_ | refine VX.loadP rfl rfl rfl au_l ?_
        refine VX.nil ?_
        refine VS.sto rfl rfl rfl rfl ?_
        refine VS.nil (⟨rfl, Nat.le_of_ble_eq_true rfl, rfl, trivial⟩) ?_
        refine VX.meek rfl ?_
        refine VX.nil ?_
        refine VC.ret ?_
        exact ⟨trivial, _, rfl, Cv.tup (CvL.cons (Cv.agg (cv_mg hf2 (Cv.fom ⟨rfl, (by simp)⟩ (CvL.pure (pF m2.F))) (Cv.fom ⟨rfl, (by simp)⟩ (CvL.pure (pW m2.W))))) (CvL.cons (Cv.fslc0 ⟨rfl, (by simp)⟩ (CvL.pure (encL_pure _ _))) CvL.nil))⟩
      · exact absurd hc2 (by simp; omega)
    · exact absurd hc1 (by simp [hk])
theorem step1a1_t (m : Mg) (o : Ot) (m2 : Mg) (f : Fm) (r1 : Rq) (hf2 : m2.fresh = false) (hk : o.kind = 1) (hrep : CallP Tryd.prog 61 [I64 o.code] (.tup [fmT f, BL true])) (hle : f.fx.length ≤ o.n.length) (hact : CallT Tryd.prog 62 [.ptr 0 0, otT o] (tnH m (mF m) (mW m) []) (fun t H' => t = .tup [] ∧ H' = tnH1 m2 (mF m2) (mW m2) [r1]))
    (X Y : T) (hpX : X.pure = true) (hpY : Y.pure = true) (hcX : cellB X = true) (hcY : cellB Y = true)
    (hcF : CallT Tryd.prog 58 [.om 0, X] [.o (mapP [] [])] (fun t H' => t = .tup [] ∧ ∃ p : OP, p.pi = true ∧ H' = [.o (mF m), .o p]))
    (hcW : CallT Tryd.prog 59 [.om 0, Y] [.o (mapP [] [])] (fun t H' => t = .tup [] ∧ ∃ p : OP, p.pi = true ∧ H' = [.o (mW m), .o p])) :
    CallP Tryd.prog 31 [.agg [.v (.int .u32 m.base), I64 m.cnt, I64 m.made, I64 m.w, I64 m.h, X, Y, BL m.on, I64 m.df, I64 m.dx, I64 m.dy], otT o] (.tup [mgT m2, rqN [r1]]) := by
  have hot := ot_pure o
  have hpF := piF m.F
  have hpW := piW m.W
  have hpF2 := piF m2.F
  have hpW2 := piW m2.W
  have hp3 := mpF_pure m2
  have hp4 := mpW_pure m2
  refine CallP.intro2 au_pu au_pu ?_
  refine CallT.intro tab_ok Tryd.func31 rfl (by kernel_rfl) (Nat.le_of_ble_eq_true rfl) ?_
  refine VC.reg tab_ok [2, 3] rfl ?_
  refine VX.newI rfl rfl ?_
  refine VX.newI rfl rfl ?_
  refine VX.new rfl rfl ?_
  refine VX.meek rfl ?_
  refine VX.nil ?_
  refine VC.reg tab_ok [] rfl ?_
  first | refine VX.meek rfl ?_ | refine VX.loadI rfl rfl au_l ?_ | refine VX.loadP rfl rfl rfl au_l ?_
  refine VX.meek rfl ?_
  refine VX.new rfl rfl ?_
  refine VX.store rfl rfl rfl rfl rfl (Nat.le_of_ble_eq_true rfl) (by show (true && (true && (true && (true && (true && (cellB X && (cellB Y && (true && (true && (true && (true && (true && true)))))))))))) = true; rw [hcX, hcY]; rfl) ?_
  refine VX.nil ?_
  refine VC.reg tab_ok [] rfl ?_
  refine VX.makeMap ?_
  refine VX.makeMap ?_
  iterate 2 refine VX.meek rfl ?_
  refine VX.store rfl rfl rfl rfl rfl au_s rfl ?_
  iterate 2 refine VX.meek rfl ?_
  refine VX.store rfl rfl rfl rfl rfl au_s rfl ?_
  refine VX.nil ?_
  refine VC.reg tab_ok [] rfl ?_
  iterate 2 refine VX.meek rfl ?_
  first | refine VX.meek rfl ?_ | refine VX.loadI rfl rfl au_l ?_ | refine VX.loadP rfl rfl rfl au_l ?_
  refine VX.meek rfl ?_
  first | refine VX.meek rfl ?_ | refine VX.loadI rfl rfl au_l ?_ | refine VX.loadP rfl rfl rfl au_l ?_
  refine VX.callT rfl rfl (CallT.frame (hcF) [2] rfl au_ci au_ci ?_)
  rintro _ _ ⟨rfl, p1, hp1, rfl⟩
  refine frK au_co au_co ?_
  refine VX.nil ?_
  refine VC.reg tab_ok [] rfl ?_
  iterate 2 refine VX.meek rfl ?_
  first | refine VX.meek rfl ?_ | refine VX.loadI rfl rfl au_l ?_ | refine VX.loadP rfl rfl rfl au_l ?_
  refine VX.meek rfl ?_
  first | refine VX.meek rfl ?_ | refine VX.loadI rfl rfl au_l ?_ | refine VX.loadP rfl rfl rfl au_l ?_
  refine VX.callT rfl rfl (CallT.frame (hcW) [3] rfl au_ci au_ci ?_)
  rintro _ _ ⟨rfl, p2, hp2, rfl⟩
  refine frK au_co au_co ?_
  refine VX.nil ?_
  refine VC.view ([(6, .ptr 0 0), (4, .ptr 4 0)]) ([.c (tnC m (askT 3 [])), .o (mF m), .o (mW m), .c (encL cRn []), .c zMg]) [3] rfl (by refine ⟨[some 1, some 2, some 3, none, some 0], rfl, by first | trivial | decide, by first | rfl | (simp only [noO, Bool.and_true, Bool.and_eq_true]; first | assumption | (refine ⟨?_, ?_⟩ <;> assumption)) | (simp only [noO, *, Bool.and_true, Bool.true_and, Bool.and_self]; done), ?_, ?_⟩ <;> (repeat' first | exact trivial | exact CvB_n | exact CvB_d | exact CvB_o rfl | refine CvE_app ?_ ?_ | refine CvE_cons rfl ?_ ?_ | refine CvH_cons ?_ ?_ | refine CvB_c rfl ?_ | fail) <;> first | exact au_v | (first | exact CvL.pure rfl | exact Cv.ptr rfl | exact CvL.cons (Cv.pure rfl) (CvL.cons (Cv.pure rfl) (CvL.cons (Cv.pure rfl) (CvL.cons (Cv.pure rfl) (CvL.cons (Cv.pure rfl) (CvL.cons (Cv.om rfl) (CvL.cons (Cv.om rfl) (CvL.cons (Cv.pure rfl) (CvL.cons (Cv.pure rfl) (CvL.cons (Cv.pure rfl) (CvL.cons (Cv.pure rfl) (CvL.cons (Cv.nilv rfl) CvL.nil))))))))))))) ?_
  refine VC.seq ?_
  refine VC.reg tab_ok [] rfl ?_
  refine VX.meek rfl ?_
  first | refine VX.meek rfl ?_ | refine VX.loadI rfl rfl au_l ?_ | refine VX.loadP rfl rfl rfl au_l ?_
  refine VX.nil ?_
  refine VC.block ?_
  refine VC.reg tab_ok [] rfl ?_
  iterate 2 refine VX.meek rfl ?_
  refine VX.nil ?_
  refine VC.cond rfl (fun hc0 => ?_) (fun hc0 => ?_)
  · exact absurd hc0 (by simp [hk])
  · (try simp only [au_std] at hc0)
    refine VC.reg tab_ok [] rfl ?_
    iterate 2 refine VX.meek rfl ?_
    refine VX.nil ?_
    refine VC.cond rfl (fun hc1 => ?_) (fun hc1 => ?_)
    · (try simp only [au_std] at hc1)
      refine VC.reg tab_ok [] rfl ?_
      refine VX.meek rfl ?_
      first | refine VX.meek rfl ?_ | refine VX.loadI rfl rfl au_l ?_ | refine VX.loadP rfl rfl rfl au_l ?_
      refine VX.callP0 rfl rfl rfl (hrep) ?_
      iterate 3 refine VX.meek rfl ?_
      refine VX.new rfl rfl ?_
      refine VX.store rfl rfl rfl rfl rfl au_s rfl ?_
      refine VX.meek rfl ?_
      refine VX.nil ?_
      refine VC.reg tab_ok [] rfl ?_
      iterate 2 refine VX.meek rfl ?_
      refine' VX.merge (d := 56) [_, _, _, _, _, _, _, _] rfl ?_ rfl ?_
      rotate_left
      · refine VX.guard rfl rfl (fun hb10_1 => ?_) (fun hb10_1 => ?_)
        · have ghb10_1 := hb10_1
          try simp only [au_std, Bool.not_true, Bool.not_false] at ghb10_1
          refine VX.meek rfl ?_
          refine VX.guardT rfl rfl hb10_1 ?_
          first | refine VX.meek rfl ?_ | refine VX.loadI rfl rfl au_l ?_ | refine VX.loadP rfl rfl rfl au_l ?_
          refine VX.guardT rfl rfl hb10_1 ?_
          refine VX.meek rfl ?_
          refine VX.guardT rfl rfl hb10_1 ?_
          refine VX.meek rfl ?_
          refine VX.guardT rfl rfl hb10_1 ?_
          first | refine VX.meek rfl ?_ | refine VX.loadI rfl rfl au_l ?_ | refine VX.loadP rfl rfl rfl au_l ?_
          refine VX.guardT rfl rfl hb10_1 ?_
          refine VX.meek rfl ?_
          refine VX.guardT rfl rfl hb10_1 ?_
          refine VX.meek rfl ?_
          refine VX.pickA rfl (fun _ => rfl) ?_
          exact VX.nil ⟨rfl, rfl⟩
        · refine VX.guardF rfl rfl hb10_1 ?_
          refine VX.guardF rfl rfl hb10_1 ?_
          refine VX.guardF rfl rfl hb10_1 ?_
          refine VX.guardF rfl rfl hb10_1 ?_
          refine VX.guardF rfl rfl hb10_1 ?_
          refine VX.guardF rfl rfl hb10_1 ?_
          exact VX.pickA rfl (fun h => absurd (h.symm.trans hb10_1) (by decide)) (VX.nil ⟨rfl, rfl⟩)
      refine VX.nil ?_
      refine VC.cond rfl (fun hc2 => ?_) (fun hc2 => ?_)
      · (try simp only [au_std] at hc2)
        refine VC.regN tab_ok [] rfl ?_
        first | refine VX.meek rfl ?_ | refine VX.loadI rfl rfl au_l ?_ | refine VX.loadP rfl rfl rfl au_l ?_
        refine VX.callT rfl rfl (CallT.frame (hact) [0, 1, 2, 3] rfl au_ci au_ci ?_)
        rintro _ _ ⟨rfl, rfl⟩
        refine frK au_co au_co ?_
        refine VX.nil ?_
        refine VC.drwS tab_ok [] [_, _, _, _, _] (_) rfl (by kernel_rfl) (by kernel_rfl) (by kernel_rfl) (seen_kill (b := 4) (seen_refl _) (Nat.le_of_ble_eq_true rfl)) ?_
        refine VS.seg (l1 := [_, _, _, _]) rfl ?_
        refine VX.meek rfl ?_
        first | refine VX.meek rfl ?_ | refine VX.loadI rfl rfl au_l ?_ | refine VX.loadP rfl rfl rfl au_l ?_
        refine VX.meek rfl ?_
        first | refine VX.meek rfl ?_ | refine VX.loadI rfl rfl au_l ?_ | refine VX.loadP rfl rfl rfl au_l ?_
        refine VX.nil ?_
        refine VS.sto rfl rfl rfl rfl ?_
        refine VS.nil (⟨rfl, Nat.le_of_ble_eq_true rfl, rfl, trivial⟩) ?_
        refine VX.meek rfl ?_
        refine VX.nil ?_
        refine VC.ret ?_
        exact ⟨trivial, _, rfl, Cv.tup (CvL.cons (Cv.agg (cv_mg hf2 (Cv.fom ⟨rfl, (by simp)⟩ (CvL.pure (pF m2.F))) (Cv.fom ⟨rfl, (by simp)⟩ (CvL.pure (pW m2.W))))) (CvL.cons (Cv.fslc0 ⟨rfl, (by simp)⟩ (CvL.pure (encL_pure _ _))) CvL.nil))⟩
      · exact absurd hc2 (by simp; omega)
    · exact absurd hc1 (by simp [hk])
theorem step1a2_t (m : Mg) (o : Ot) (m2 : Mg) (f : Fm) (r1 r2 : Rq) (rs : List Rq) (hf2 : m2.fresh = false) (hk : o.kind = 1) (hrep : CallP Tryd.prog 61 [I64 o.code] (.tup [fmT f, BL true])) (hle : f.fx.length ≤ o.n.length) (hact : CallT Tryd.prog 62 [.ptr 0 0, otT o] (tnH m (mF m) (mW m) []) (fun t H' => t = .tup [] ∧ H' = tnH2 m2 (mF m2) (mW m2) (r1 :: r2 :: rs)))
    (X Y : T) (hpX : X.pure = true) (hpY : Y.pure = true) (hcX : cellB X = true) (hcY : cellB Y = true)
    (hcF : CallT Tryd.prog 58 [.om 0, X] [.o (mapP [] [])] (fun t H' => t = .tup [] ∧ ∃ p : OP, p.pi = true ∧ H' = [.o (mF m), .o p]))
    (hcW : CallT Tryd.prog 59 [.om 0, Y] [.o (mapP [] [])] (fun t H' => t = .tup [] ∧ ∃ p : OP, p.pi = true ∧ H' = [.o (mW m), .o p])) :
    CallP Tryd.prog 31 [.agg [.v (.int .u32 m.base), I64 m.cnt, I64 m.made, I64 m.w, I64 m.h, X, Y, BL m.on, I64 m.df, I64 m.dx, I64 m.dy], otT o] (.tup [mgT m2, rqN (r1 :: r2 :: rs)]) := by
  have hot := ot_pure o
  have hpF := piF m.F
  have hpW := piW m.W
  have hpF2 := piF m2.F
  have hpW2 := piW m2.W
  have hp3 := mpF_pure m2
  have hp4 := mpW_pure m2
  refine CallP.intro2 au_pu au_pu ?_
  refine CallT.intro tab_ok Tryd.func31 rfl (by kernel_rfl) (Nat.le_of_ble_eq_true rfl) ?_
  refine VC.reg tab_ok [2, 3] rfl ?_
  refine VX.newI rfl rfl ?_
  refine VX.newI rfl rfl ?_
  refine VX.new rfl rfl ?_
  refine VX.meek rfl ?_
  refine VX.nil ?_
  refine VC.reg tab_ok [] rfl ?_
  first | refine VX.meek rfl ?_ | refine VX.loadI rfl rfl au_l ?_ | refine VX.loadP rfl rfl rfl au_l ?_
  refine VX.meek rfl ?_
  refine VX.new rfl rfl ?_
  refine VX.store rfl rfl rfl rfl rfl (Nat.le_of_ble_eq_true rfl) (by show (true && (true && (true && (true && (true && (cellB X && (cellB Y && (true && (true && (true && (true && (true && true)))))))))))) = true; rw [hcX, hcY]; rfl) ?_
  refine VX.nil ?_
  refine VC.reg tab_ok [] rfl ?_
  refine VX.makeMap ?_
  refine VX.makeMap ?_
  iterate 2 refine VX.meek rfl ?_
  refine VX.store rfl rfl rfl rfl rfl au_s rfl ?_
  iterate 2 refine VX.meek rfl ?_
  refine VX.store rfl rfl rfl rfl rfl au_s rfl ?_
  refine VX.nil ?_
  refine VC.reg tab_ok [] rfl ?_
  iterate 2 refine VX.meek rfl ?_
  first | refine VX.meek rfl ?_ | refine VX.loadI rfl rfl au_l ?_ | refine VX.loadP rfl rfl rfl au_l ?_
  refine VX.meek rfl ?_
  first | refine VX.meek rfl ?_ | refine VX.loadI rfl rfl au_l ?_ | refine VX.loadP rfl rfl rfl au_l ?_
  refine VX.callT rfl rfl (CallT.frame (hcF) [2] rfl au_ci au_ci ?_)
  rintro _ _ ⟨rfl, p1, hp1, rfl⟩
  refine frK au_co au_co ?_
  refine VX.nil ?_
  refine VC.reg tab_ok [] rfl ?_
  iterate 2 refine VX.meek rfl ?_
  first | refine VX.meek rfl ?_ | refine VX.loadI rfl rfl au_l ?_ | refine VX.loadP rfl rfl rfl au_l ?_
  refine VX.meek rfl ?_
  first | refine VX.meek rfl ?_ | refine VX.loadI rfl rfl au_l ?_ | refine VX.loadP rfl rfl rfl au_l ?_
  refine VX.callT rfl rfl (CallT.frame (hcW) [3] rfl au_ci au_ci ?_)
  rintro _ _ ⟨rfl, p2, hp2, rfl⟩
  refine frK au_co au_co ?_
  refine VX.nil ?_
  refine VC.view ([(6, .ptr 0 0), (4, .ptr 4 0)]) ([.c (tnC m (askT 3 [])), .o (mF m), .o (mW m), .c (encL cRn []), .c zMg]) [3] rfl (by refine ⟨[some 1, some 2, some 3, none, some 0], rfl, by first | trivial | decide, by first | rfl | (simp only [noO, Bool.and_true, Bool.and_eq_true]; first | assumption | (refine ⟨?_, ?_⟩ <;> assumption)) | (simp only [noO, *, Bool.and_true, Bool.true_and, Bool.and_self]; done), ?_, ?_⟩ <;> (repeat' first | exact trivial | exact CvB_n | exact CvB_d | exact CvB_o rfl | refine CvE_app ?_ ?_ | refine CvE_cons rfl ?_ ?_ | refine CvH_cons ?_ ?_ | refine CvB_c rfl ?_ | fail) <;> first | exact au_v | (first | exact CvL.pure rfl | exact Cv.ptr rfl | exact CvL.cons (Cv.pure rfl) (CvL.cons (Cv.pure rfl) (CvL.cons (Cv.pure rfl) (CvL.cons (Cv.pure rfl) (CvL.cons (Cv.pure rfl) (CvL.cons (Cv.om rfl) (CvL.cons (Cv.om rfl) (CvL.cons (Cv.pure rfl) (CvL.cons (Cv.pure rfl) (CvL.cons (Cv.pure rfl) (CvL.cons (Cv.pure rfl) (CvL.cons (Cv.nilv rfl) CvL.nil))))))))))))) ?_
  refine VC.seq ?_
  refine VC.reg tab_ok [] rfl ?_
  refine VX.meek rfl ?_
  first | refine VX.meek rfl ?_ | refine VX.loadI rfl rfl au_l ?_ | refine VX.loadP rfl rfl rfl au_l ?_
  refine VX.nil ?_
  refine VC.block ?_
  refine VC.reg tab_ok [] rfl ?_
  iterate 2 refine VX.meek rfl ?_
  refine VX.nil ?_
  refine VC.cond rfl (fun hc0 => ?_) (fun hc0 => ?_)
  · exact absurd hc0 (by simp [hk])
  · (try simp only [au_std] at hc0)
    refine VC.reg tab_ok [] rfl ?_
    iterate 2 refine VX.meek rfl ?_
    refine VX.nil ?_
    refine VC.cond rfl (fun hc1 => ?_) (fun hc1 => ?_)
    · (try simp only [au_std] at hc1)
      refine VC.reg tab_ok [] rfl ?_
      refine VX.meek rfl ?_
      first | refine VX.meek rfl ?_ | refine VX.loadI rfl rfl au_l ?_ | refine VX.loadP rfl rfl rfl au_l ?_
      refine VX.callP0 rfl rfl rfl (hrep) ?_
      iterate 3 refine VX.meek rfl ?_
      refine VX.new rfl rfl ?_
      refine VX.store rfl rfl rfl rfl rfl au_s rfl ?_
      refine VX.meek rfl ?_
      refine VX.nil ?_
      refine VC.reg tab_ok [] rfl ?_
      iterate 2 refine VX.meek rfl ?_
      refine' VX.merge (d := 56) [_, _, _, _, _, _, _, _] rfl ?_ rfl ?_
      rotate_left
      · refine VX.guard rfl rfl (fun hb10_1 => ?_) (fun hb10_1 => ?_)
        · have ghb10_1 := hb10_1
          try simp only [au_std, Bool.not_true, Bool.not_false] at ghb10_1
          refine VX.meek rfl ?_
          refine VX.guardT rfl rfl hb10_1 ?_
          first | refine VX.meek rfl ?_ | refine VX.loadI rfl rfl au_l ?_ | refine VX.loadP rfl rfl rfl au_l ?_
          refine VX.guardT rfl rfl hb10_1 ?_
          refine VX.meek rfl ?_
          refine VX.guardT rfl rfl hb10_1 ?_
          refine VX.meek rfl ?_
          refine VX.guardT rfl rfl hb10_1 ?_
          first | refine VX.meek rfl ?_ | refine VX.loadI rfl rfl au_l ?_ | refine VX.loadP rfl rfl rfl au_l ?_
          refine VX.guardT rfl rfl hb10_1 ?_
          refine VX.meek rfl ?_
          refine VX.guardT rfl rfl hb10_1 ?_
          refine VX.meek rfl ?_
          refine VX.pickA rfl (fun _ => rfl) ?_
          exact VX.nil ⟨rfl, rfl⟩
        · refine VX.guardF rfl rfl hb10_1 ?_
          refine VX.guardF rfl rfl hb10_1 ?_
          refine VX.guardF rfl rfl hb10_1 ?_
          refine VX.guardF rfl rfl hb10_1 ?_
          refine VX.guardF rfl rfl hb10_1 ?_
          refine VX.guardF rfl rfl hb10_1 ?_
          exact VX.pickA rfl (fun h => absurd (h.symm.trans hb10_1) (by decide)) (VX.nil ⟨rfl, rfl⟩)
      refine VX.nil ?_
      refine VC.cond rfl (fun hc2 => ?_) (fun hc2 => ?_)
      · (try simp only [au_std] at hc2)
        refine VC.regN tab_ok [] rfl ?_
        first | refine VX.meek rfl ?_ | refine VX.loadI rfl rfl au_l ?_ | refine VX.loadP rfl rfl rfl au_l ?_
        refine VX.callT rfl rfl (CallT.frame (hact) [0, 1, 2, 3] rfl au_ci au_ci ?_)
        rintro _ _ ⟨rfl, rfl⟩
        refine frK au_co au_co ?_
        refine VX.nil ?_
        refine VC.drwS tab_ok [] [_, _, _, _, _] (_) rfl (by kernel_rfl) (by kernel_rfl) (by kernel_rfl) (seen_kill (b := 4) (seen_refl _) (Nat.le_of_ble_eq_true rfl)) ?_
        refine VS.seg (l1 := [_, _, _, _]) rfl ?_
        refine VX.meek rfl ?_
        first | refine VX.meek rfl ?_ | refine VX.loadI rfl rfl au_l ?_ | refine VX.loadP rfl rfl rfl au_l ?_
        refine VX.meek rfl ?_
        first | refine VX.meek rfl ?_ | refine VX.loadI rfl rfl au_l ?_ | refine VX.loadP rfl rfl rfl au_l ?_
        refine VX.nil ?_
        refine VS.sto rfl rfl rfl rfl ?_
        refine VS.nil (⟨rfl, Nat.le_of_ble_eq_true rfl, rfl, trivial⟩) ?_
        refine VX.meek rfl ?_
        refine VX.nil ?_
        refine VC.ret ?_
        exact ⟨trivial, _, rfl, Cv.tup (CvL.cons (Cv.agg (cv_mg hf2 (Cv.fom ⟨rfl, (by simp)⟩ (CvL.pure (pF m2.F))) (Cv.fom ⟨rfl, (by simp)⟩ (CvL.pure (pW m2.W))))) (CvL.cons (Cv.fslc0 ⟨rfl, (by simp)⟩ (CvL.pure (encL_pure _ _))) CvL.nil))⟩
      · exact absurd hc2 (by simp; omega)
    · exact absurd hc1 (by simp [hk])
theorem step1b_t (m : Mg) (o : Ot) (f : Fm) (ok : Bool) (hf2 : m.fresh = false) (hk : o.kind = 1) (hrep : CallP Tryd.prog 61 [I64 o.code] (.tup [fmT f, BL ok])) (hle : ¬ (ok = true ∧ f.fx.length ≤ o.n.length))
    (X Y : T) (hpX : X.pure = true) (hpY : Y.pure = true) (hcX : cellB X = true) (hcY : cellB Y = true)
    (hcF : CallT Tryd.prog 58 [.om 0, X] [.o (mapP [] [])] (fun t H' => t = .tup [] ∧ ∃ p : OP, p.pi = true ∧ H' = [.o (mF m), .o p]))
    (hcW : CallT Tryd.prog 59 [.om 0, Y] [.o (mapP [] [])] (fun t H' => t = .tup [] ∧ ∃ p : OP, p.pi = true ∧ H' = [.o (mW m), .o p])) :
    CallP Tryd.prog 31 [.agg [.v (.int .u32 m.base), I64 m.cnt, I64 m.made, I64 m.w, I64 m.h, X, Y, BL m.on, I64 m.df, I64 m.dx, I64 m.dy], otT o] (.tup [mgT m, rqN []]) := by
  have hot := ot_pure o
  have hpF2 := piF m.F
  have hpW2 := piW m.W
  have hp3 := mpF_pure m
  have hp4 := mpW_pure m
  refine CallP.intro2 au_pu au_pu ?_
  refine CallT.intro tab_ok Tryd.func31 rfl (by kernel_rfl) (Nat.le_of_ble_eq_true rfl) ?_
  refine VC.reg tab_ok [2, 3] rfl ?_
  refine VX.newI rfl rfl ?_
  refine VX.newI rfl rfl ?_
  refine VX.new rfl rfl ?_
  refine VX.meek rfl ?_
  refine VX.nil ?_
  refine VC.reg tab_ok [] rfl ?_
  first | refine VX.meek rfl ?_ | refine VX.loadI rfl rfl au_l ?_ | refine VX.loadP rfl rfl rfl au_l ?_
  refine VX.meek rfl ?_
  refine VX.new rfl rfl ?_
  refine VX.store rfl rfl rfl rfl rfl (Nat.le_of_ble_eq_true rfl) (by show (true && (true && (true && (true && (true && (cellB X && (cellB Y && (true && (true && (true && (true && (true && true)))))))))))) = true; rw [hcX, hcY]; rfl) ?_
  refine VX.nil ?_
  refine VC.reg tab_ok [] rfl ?_
  refine VX.makeMap ?_
  refine VX.makeMap ?_
  iterate 2 refine VX.meek rfl ?_
  refine VX.store rfl rfl rfl rfl rfl au_s rfl ?_
  iterate 2 refine VX.meek rfl ?_
  refine VX.store rfl rfl rfl rfl rfl au_s rfl ?_
  refine VX.nil ?_
  refine VC.reg tab_ok [] rfl ?_
  iterate 2 refine VX.meek rfl ?_
  first | refine VX.meek rfl ?_ | refine VX.loadI rfl rfl au_l ?_ | refine VX.loadP rfl rfl rfl au_l ?_
  refine VX.meek rfl ?_
  first | refine VX.meek rfl ?_ | refine VX.loadI rfl rfl au_l ?_ | refine VX.loadP rfl rfl rfl au_l ?_
  refine VX.callT rfl rfl (CallT.frame (hcF) [2] rfl au_ci au_ci ?_)
  rintro _ _ ⟨rfl, p1, hp1, rfl⟩
  refine frK au_co au_co ?_
  refine VX.nil ?_
  refine VC.reg tab_ok [] rfl ?_
  iterate 2 refine VX.meek rfl ?_
  first | refine VX.meek rfl ?_ | refine VX.loadI rfl rfl au_l ?_ | refine VX.loadP rfl rfl rfl au_l ?_
  refine VX.meek rfl ?_
  first | refine VX.meek rfl ?_ | refine VX.loadI rfl rfl au_l ?_ | refine VX.loadP rfl rfl rfl au_l ?_
  refine VX.callT rfl rfl (CallT.frame (hcW) [3] rfl au_ci au_ci ?_)
  rintro _ _ ⟨rfl, p2, hp2, rfl⟩
  refine frK au_co au_co ?_
  refine VX.nil ?_
  refine VC.view ([(6, .ptr 0 0), (4, .ptr 4 0)]) ([.c (tnC m (askT 3 [])), .o (mF m), .o (mW m), .c (encL cRn []), .c zMg]) [3] rfl (by refine ⟨[some 1, some 2, some 3, none, some 0], rfl, by first | trivial | decide, by first | rfl | (simp only [noO, Bool.and_true, Bool.and_eq_true]; first | assumption | (refine ⟨?_, ?_⟩ <;> assumption)) | (simp only [noO, *, Bool.and_true, Bool.true_and, Bool.and_self]; done), ?_, ?_⟩ <;> (repeat' first | exact trivial | exact CvB_n | exact CvB_d | exact CvB_o rfl | refine CvE_app ?_ ?_ | refine CvE_cons rfl ?_ ?_ | refine CvH_cons ?_ ?_ | refine CvB_c rfl ?_ | fail) <;> first | exact au_v | (first | exact CvL.pure rfl | exact Cv.ptr rfl | exact CvL.cons (Cv.pure rfl) (CvL.cons (Cv.pure rfl) (CvL.cons (Cv.pure rfl) (CvL.cons (Cv.pure rfl) (CvL.cons (Cv.pure rfl) (CvL.cons (Cv.om rfl) (CvL.cons (Cv.om rfl) (CvL.cons (Cv.pure rfl) (CvL.cons (Cv.pure rfl) (CvL.cons (Cv.pure rfl) (CvL.cons (Cv.pure rfl) (CvL.cons (Cv.nilv rfl) CvL.nil))))))))))))) ?_
  refine VC.seq ?_
  refine VC.reg tab_ok [] rfl ?_
  refine VX.meek rfl ?_
  first | refine VX.meek rfl ?_ | refine VX.loadI rfl rfl au_l ?_ | refine VX.loadP rfl rfl rfl au_l ?_
  refine VX.nil ?_
  refine VC.block ?_
  refine VC.reg tab_ok [] rfl ?_
  iterate 2 refine VX.meek rfl ?_
  refine VX.nil ?_
  refine VC.cond rfl (fun hc0 => ?_) (fun hc0 => ?_)
  · exact absurd hc0 (by simp [hk])
  · (try simp only [au_std] at hc0)
    refine VC.reg tab_ok [] rfl ?_
    iterate 2 refine VX.meek rfl ?_
    refine VX.nil ?_
    refine VC.cond rfl (fun hc1 => ?_) (fun hc1 => ?_)
    · (try simp only [au_std] at hc1)
      refine VC.reg tab_ok [] rfl ?_
      refine VX.meek rfl ?_
      first | refine VX.meek rfl ?_ | refine VX.loadI rfl rfl au_l ?_ | refine VX.loadP rfl rfl rfl au_l ?_
      refine VX.callP0 rfl rfl rfl (hrep) ?_
      iterate 3 refine VX.meek rfl ?_
      refine VX.new rfl rfl ?_
      refine VX.store rfl rfl rfl rfl rfl au_s rfl ?_
      refine VX.meek rfl ?_
      refine VX.nil ?_
      refine VC.reg tab_ok [] rfl ?_
      iterate 2 refine VX.meek rfl ?_
      refine' VX.merge (d := 56) [_, _, _, _, _, _, _, _] rfl ?_ rfl ?_
      rotate_left
      · refine VX.guard rfl rfl (fun hb10_1 => ?_) (fun hb10_1 => ?_)
        · have ghb10_1 := hb10_1
          try simp only [au_std, Bool.not_true, Bool.not_false] at ghb10_1
          refine VX.meek rfl ?_
          refine VX.guardT rfl rfl hb10_1 ?_
          first | refine VX.meek rfl ?_ | refine VX.loadI rfl rfl au_l ?_ | refine VX.loadP rfl rfl rfl au_l ?_
          refine VX.guardT rfl rfl hb10_1 ?_
          refine VX.meek rfl ?_
          refine VX.guardT rfl rfl hb10_1 ?_
          refine VX.meek rfl ?_
          refine VX.guardT rfl rfl hb10_1 ?_
          first | refine VX.meek rfl ?_ | refine VX.loadI rfl rfl au_l ?_ | refine VX.loadP rfl rfl rfl au_l ?_
          refine VX.guardT rfl rfl hb10_1 ?_
          refine VX.meek rfl ?_
          refine VX.guardT rfl rfl hb10_1 ?_
          refine VX.meek rfl ?_
          refine VX.pickA rfl (fun _ => rfl) ?_
          exact VX.nil ⟨rfl, rfl⟩
        · refine VX.guardF rfl rfl hb10_1 ?_
          refine VX.guardF rfl rfl hb10_1 ?_
          refine VX.guardF rfl rfl hb10_1 ?_
          refine VX.guardF rfl rfl hb10_1 ?_
          refine VX.guardF rfl rfl hb10_1 ?_
          refine VX.guardF rfl rfl hb10_1 ?_
          exact VX.pickA rfl (fun h => absurd (h.symm.trans hb10_1) (by decide)) (VX.nil ⟨rfl, rfl⟩)
      refine VX.nil ?_
      refine VC.cond rfl (fun hc2 => ?_) (fun hc2 => ?_)
      · exact absurd hc2 (by rintro k; apply hle; revert k; cases ok <;> simp)
      · (try simp only [au_std] at hc2)
        refine VC.skip ?_
        refine VC.drwS tab_ok [] [_, _, _, _, _] (_) rfl (by kernel_rfl) (by kernel_rfl) (by kernel_rfl) (seen_kill (b := 4) (seen_refl _) (Nat.le_of_ble_eq_true rfl)) ?_
        refine VS.seg (l1 := [_, _, _, _]) rfl ?_
        refine VX.meek rfl ?_
        first | refine VX.meek rfl ?_ | refine VX.loadI rfl rfl au_l ?_ | refine VX.loadP rfl rfl rfl au_l ?_
        refine VX.meek rfl ?_
        first | refine VX.meek rfl ?_ | refine VX.loadI rfl rfl au_l ?_ | refine VX.loadP rfl rfl rfl au_l ?_
        refine VX.nil ?_
        refine VS.sto rfl rfl rfl rfl ?_
        refine VS.nil (⟨rfl, Nat.le_of_ble_eq_true rfl, rfl, trivial⟩) ?_
        refine VX.meek rfl ?_
        refine VX.nil ?_
        refine VC.ret ?_
        exact ⟨trivial, _, rfl, Cv.tup (CvL.cons (Cv.agg (cv_mg hf2 (Cv.fom ⟨rfl, (by simp)⟩ (CvL.pure (pF m.F))) (Cv.fom ⟨rfl, (by simp)⟩ (CvL.pure (pW m.W))))) (CvL.cons (Cv.fslc0 ⟨rfl, (by simp)⟩ (CvL.pure (encL_pure _ _))) CvL.nil))⟩
    · exact absurd hc1 (by simp [hk])
theorem step2a0_t (m : Mg) (o : Ot) (m2 : Mg) (f : Fm) (g : FuncId) (hf2 : m2.fresh = false) (hk : o.kind = 2) (hev : CallP Tryd.prog 63 [I64 o.code] (.tup [fmT f, BL true])) (hle : f.fx.length ≤ o.n.length) (hlk : mLook2 tab 138 evsK evsT (.int .i64 o.code) false = some (.clo g [] [])) (hact : CallT Tryd.prog g ([] ++ [.ptr 0 0, cIf o.n] ++ []) (tnH m (mF m) (mW m) []) (fun t H' => t = .tup [] ∧ H' = tnH m2 (mF m2) (mW m2) []))
    (X Y : T) (hpX : X.pure = true) (hpY : Y.pure = true) (hcX : cellB X = true) (hcY : cellB Y = true)
    (hcF : CallT Tryd.prog 58 [.om 0, X] [.o (mapP [] [])] (fun t H' => t = .tup [] ∧ ∃ p : OP, p.pi = true ∧ H' = [.o (mF m), .o p]))
    (hcW : CallT Tryd.prog 59 [.om 0, Y] [.o (mapP [] [])] (fun t H' => t = .tup [] ∧ ∃ p : OP, p.pi = true ∧ H' = [.o (mW m), .o p])) :
    CallP Tryd.prog 31 [.agg [.v (.int .u32 m.base), I64 m.cnt, I64 m.made, I64 m.w, I64 m.h, X, Y, BL m.on, I64 m.df, I64 m.dx, I64 m.dy], otT o] (.tup [mgT m2, rqN []]) := by
  have hot := ot_pure o
  have hpF := piF m.F
  have hpW := piW m.W
  have hpF2 := piF m2.F
  have hpW2 := piW m2.W
  have hp3 := mpF_pure m2
  have hp4 := mpW_pure m2
  refine CallP.intro2 au_pu au_pu ?_
  refine CallT.intro tab_ok Tryd.func31 rfl (by kernel_rfl) (Nat.le_of_ble_eq_true rfl) ?_
  refine VC.reg tab_ok [2, 3] rfl ?_
  refine VX.newI rfl rfl ?_
  refine VX.newI rfl rfl ?_
  refine VX.new rfl rfl ?_
  refine VX.meek rfl ?_
  refine VX.nil ?_
  refine VC.reg tab_ok [] rfl ?_
  first | refine VX.meek rfl ?_ | refine VX.loadI rfl rfl au_l ?_ | refine VX.loadP rfl rfl rfl au_l ?_
  refine VX.meek rfl ?_
  refine VX.new rfl rfl ?_
  refine VX.store rfl rfl rfl rfl rfl (Nat.le_of_ble_eq_true rfl) (by show (true && (true && (true && (true && (true && (cellB X && (cellB Y && (true && (true && (true && (true && (true && true)))))))))))) = true; rw [hcX, hcY]; rfl) ?_
  refine VX.nil ?_
  refine VC.reg tab_ok [] rfl ?_
  refine VX.makeMap ?_
  refine VX.makeMap ?_
  iterate 2 refine VX.meek rfl ?_
  refine VX.store rfl rfl rfl rfl rfl au_s rfl ?_
  iterate 2 refine VX.meek rfl ?_
  refine VX.store rfl rfl rfl rfl rfl au_s rfl ?_
  refine VX.nil ?_
  refine VC.reg tab_ok [] rfl ?_
  iterate 2 refine VX.meek rfl ?_
  first | refine VX.meek rfl ?_ | refine VX.loadI rfl rfl au_l ?_ | refine VX.loadP rfl rfl rfl au_l ?_
  refine VX.meek rfl ?_
  first | refine VX.meek rfl ?_ | refine VX.loadI rfl rfl au_l ?_ | refine VX.loadP rfl rfl rfl au_l ?_
  refine VX.callT rfl rfl (CallT.frame (hcF) [2] rfl au_ci au_ci ?_)
  rintro _ _ ⟨rfl, p1, hp1, rfl⟩
  refine frK au_co au_co ?_
  refine VX.nil ?_
  refine VC.reg tab_ok [] rfl ?_
  iterate 2 refine VX.meek rfl ?_
  first | refine VX.meek rfl ?_ | refine VX.loadI rfl rfl au_l ?_ | refine VX.loadP rfl rfl rfl au_l ?_
  refine VX.meek rfl ?_
  first | refine VX.meek rfl ?_ | refine VX.loadI rfl rfl au_l ?_ | refine VX.loadP rfl rfl rfl au_l ?_
  refine VX.callT rfl rfl (CallT.frame (hcW) [3] rfl au_ci au_ci ?_)
  rintro _ _ ⟨rfl, p2, hp2, rfl⟩
  refine frK au_co au_co ?_
  refine VX.nil ?_
  refine VC.view ([(6, .ptr 0 0), (4, .ptr 4 0)]) ([.c (tnC m (askT 3 [])), .o (mF m), .o (mW m), .c (encL cRn []), .c zMg]) [3] rfl (by refine ⟨[some 1, some 2, some 3, none, some 0], rfl, by first | trivial | decide, by first | rfl | (simp only [noO, Bool.and_true, Bool.and_eq_true]; first | assumption | (refine ⟨?_, ?_⟩ <;> assumption)) | (simp only [noO, *, Bool.and_true, Bool.true_and, Bool.and_self]; done), ?_, ?_⟩ <;> (repeat' first | exact trivial | exact CvB_n | exact CvB_d | exact CvB_o rfl | refine CvE_app ?_ ?_ | refine CvE_cons rfl ?_ ?_ | refine CvH_cons ?_ ?_ | refine CvB_c rfl ?_ | fail) <;> first | exact au_v | (first | exact CvL.pure rfl | exact Cv.ptr rfl | exact CvL.cons (Cv.pure rfl) (CvL.cons (Cv.pure rfl) (CvL.cons (Cv.pure rfl) (CvL.cons (Cv.pure rfl) (CvL.cons (Cv.pure rfl) (CvL.cons (Cv.om rfl) (CvL.cons (Cv.om rfl) (CvL.cons (Cv.pure rfl) (CvL.cons (Cv.pure rfl) (CvL.cons (Cv.pure rfl) (CvL.cons (Cv.pure rfl) (CvL.cons (Cv.nilv rfl) CvL.nil))))))))))))) ?_
  refine VC.seq ?_
  refine VC.reg tab_ok [] rfl ?_
  refine VX.meek rfl ?_
  first | refine VX.meek rfl ?_ | refine VX.loadI rfl rfl au_l ?_ | refine VX.loadP rfl rfl rfl au_l ?_
  refine VX.nil ?_
  refine VC.block ?_
  refine VC.reg tab_ok [] rfl ?_
  iterate 2 refine VX.meek rfl ?_
  refine VX.nil ?_
  refine VC.cond rfl (fun hc0 => ?_) (fun hc0 => ?_)
  · exact absurd hc0 (by simp [hk])
  · (try simp only [au_std] at hc0)
    refine VC.reg tab_ok [] rfl ?_
    iterate 2 refine VX.meek rfl ?_
    refine VX.nil ?_
    refine VC.cond rfl (fun hc1 => ?_) (fun hc1 => ?_)
    · exact absurd hc1 (by simp [hk])
    · (try simp only [au_std] at hc1)
      refine VC.reg tab_ok [] rfl ?_
      iterate 2 refine VX.meek rfl ?_
      refine VX.nil ?_
      refine VC.cond rfl (fun hc3 => ?_) (fun hc3 => ?_)
      · (try simp only [au_std] at hc3)
        refine VC.reg tab_ok [] rfl ?_
        refine VX.meek rfl ?_
        first | refine VX.meek rfl ?_ | refine VX.loadI rfl rfl au_l ?_ | refine VX.loadP rfl rfl rfl au_l ?_
        refine VX.callP0 rfl rfl rfl (hev) ?_
        iterate 3 refine VX.meek rfl ?_
        refine VX.new rfl rfl ?_
        refine VX.store rfl rfl rfl rfl rfl au_s rfl ?_
        refine VX.meek rfl ?_
        refine VX.nil ?_
        refine VC.drw tab_ok [] [_, _, _, _, _] rfl (by kernel_rfl) (by kernel_rfl) ?_
        refine VX.callP0 rfl rfl rfl (events_m) ?_
        refine VX.meek rfl ?_
        first | refine VX.meek rfl ?_ | refine VX.loadI rfl rfl au_l ?_ | refine VX.loadP rfl rfl rfl au_l ?_
        refine VX.meek (t := .clo g [] []) (opM_look rfl rfl hlk) ?_
        refine VX.meek rfl ?_
        refine VX.nil ?_
        refine VX.nil ?_
        refine VC.reg tab_ok [] rfl ?_
        iterate 2 refine VX.meek rfl ?_
        refine' VX.merge (d := 75) [_, _, _] rfl ?_ rfl ?_
        rotate_left
        · refine VX.guard rfl rfl (fun hb15_1 => ?_) (fun hb15_1 => ?_)
          · have ghb15_1 := hb15_1
            try simp only [au_std, Bool.not_true, Bool.not_false] at ghb15_1
            refine VX.meek rfl ?_
            refine VX.guardT rfl rfl hb15_1 ?_
            refine VX.meek rfl ?_
            refine VX.pickA rfl (fun _ => rfl) ?_
            exact VX.nil ⟨rfl, rfl⟩
          · refine VX.guardF rfl rfl hb15_1 ?_
            exact VX.pickA rfl (fun h => absurd (h.symm.trans hb15_1) (by decide)) (VX.nil ⟨rfl, rfl⟩)
        refine VX.meek rfl ?_
        refine' VX.merge (d := 84) [_, _, _, _, _, _, _, _] rfl ?_ rfl ?_
        rotate_left
        · refine VX.guard rfl rfl (fun hb15_5 => ?_) (fun hb15_5 => ?_)
          · have ghb15_5 := hb15_5
            try simp only [au_std, Bool.not_true, Bool.not_false] at ghb15_5
            refine VX.meek rfl ?_
            refine VX.guardT rfl rfl hb15_5 ?_
            first | refine VX.meek rfl ?_ | refine VX.loadI rfl rfl au_l ?_ | refine VX.loadP rfl rfl rfl au_l ?_
            refine VX.guardT rfl rfl hb15_5 ?_
            refine VX.meek rfl ?_
            refine VX.guardT rfl rfl hb15_5 ?_
            refine VX.meek rfl ?_
            refine VX.guardT rfl rfl hb15_5 ?_
            first | refine VX.meek rfl ?_ | refine VX.loadI rfl rfl au_l ?_ | refine VX.loadP rfl rfl rfl au_l ?_
            refine VX.guardT rfl rfl hb15_5 ?_
            refine VX.meek rfl ?_
            refine VX.guardT rfl rfl hb15_5 ?_
            refine VX.meek rfl ?_
            refine VX.pickA rfl (fun _ => rfl) ?_
            exact VX.nil ⟨rfl, rfl⟩
          · refine VX.guardF rfl rfl hb15_5 ?_
            refine VX.guardF rfl rfl hb15_5 ?_
            refine VX.guardF rfl rfl hb15_5 ?_
            refine VX.guardF rfl rfl hb15_5 ?_
            refine VX.guardF rfl rfl hb15_5 ?_
            refine VX.guardF rfl rfl hb15_5 ?_
            exact VX.pickA rfl (fun h => absurd (h.symm.trans hb15_5) (by decide)) (VX.nil ⟨rfl, rfl⟩)
        refine VX.nil ?_
        refine VC.cond rfl (fun hc4 => ?_) (fun hc4 => ?_)
        · (try simp only [au_std] at hc4)
          refine VC.regN tab_ok [] rfl ?_
          iterate 2 refine VX.meek rfl ?_
          first | refine VX.meek rfl ?_ | refine VX.loadI rfl rfl au_l ?_ | refine VX.loadP rfl rfl rfl au_l ?_
          refine VX.callT rfl rfl (CallT.frame (hact) [0, 1, 2, 3] rfl au_ci au_ci ?_)
          rintro _ _ ⟨rfl, rfl⟩
          refine frK au_co au_co ?_
          refine VX.nil ?_
          refine VC.drwS tab_ok [] [_, _, _, _, _] (_) rfl (by kernel_rfl) (by kernel_rfl) (by kernel_rfl) (seen_kill (b := 4) (seen_refl _) (Nat.le_of_ble_eq_true rfl)) ?_
          refine VS.seg (l1 := [_, _, _, _]) rfl ?_
          refine VX.meek rfl ?_
          first | refine VX.meek rfl ?_ | refine VX.loadI rfl rfl au_l ?_ | refine VX.loadP rfl rfl rfl au_l ?_
          refine VX.meek rfl ?_
          first | refine VX.meek rfl ?_ | refine VX.loadI rfl rfl au_l ?_ | refine VX.loadP rfl rfl rfl au_l ?_
          refine VX.nil ?_
          refine VS.sto rfl rfl rfl rfl ?_
          refine VS.nil (⟨rfl, Nat.le_of_ble_eq_true rfl, rfl, trivial⟩) ?_
          refine VX.meek rfl ?_
          refine VX.nil ?_
          refine VC.ret ?_
          exact ⟨trivial, _, rfl, Cv.tup (CvL.cons (Cv.agg (cv_mg hf2 (Cv.fom ⟨rfl, (by simp)⟩ (CvL.pure (pF m2.F))) (Cv.fom ⟨rfl, (by simp)⟩ (CvL.pure (pW m2.W))))) (CvL.cons (Cv.fslc0 ⟨rfl, (by simp)⟩ (CvL.pure (encL_pure _ _))) CvL.nil))⟩
        · exact absurd hc4 (by simp; omega)
      · exact absurd hc3 (by simp [hk])
theorem step2a1_t (m : Mg) (o : Ot) (m2 : Mg) (f : Fm) (g : FuncId) (r1 : Rq) (hf2 : m2.fresh = false) (hk : o.kind = 2) (hev : CallP Tryd.prog 63 [I64 o.code] (.tup [fmT f, BL true])) (hle : f.fx.length ≤ o.n.length) (hlk : mLook2 tab 138 evsK evsT (.int .i64 o.code) false = some (.clo g [] [])) (hact : CallT Tryd.prog g ([] ++ [.ptr 0 0, cIf o.n] ++ []) (tnH m (mF m) (mW m) []) (fun t H' => t = .tup [] ∧ H' = tnH1 m2 (mF m2) (mW m2) [r1]))
    (X Y : T) (hpX : X.pure = true) (hpY : Y.pure = true) (hcX : cellB X = true) (hcY : cellB Y = true)
    (hcF : CallT Tryd.prog 58 [.om 0, X] [.o (mapP [] [])] (fun t H' => t = .tup [] ∧ ∃ p : OP, p.pi = true ∧ H' = [.o (mF m), .o p]))
    (hcW : CallT Tryd.prog 59 [.om 0, Y] [.o (mapP [] [])] (fun t H' => t = .tup [] ∧ ∃ p : OP, p.pi = true ∧ H' = [.o (mW m), .o p])) :
    CallP Tryd.prog 31 [.agg [.v (.int .u32 m.base), I64 m.cnt, I64 m.made, I64 m.w, I64 m.h, X, Y, BL m.on, I64 m.df, I64 m.dx, I64 m.dy], otT o] (.tup [mgT m2, rqN [r1]]) := by
  have hot := ot_pure o
  have hpF := piF m.F
  have hpW := piW m.W
  have hpF2 := piF m2.F
  have hpW2 := piW m2.W
  have hp3 := mpF_pure m2
  have hp4 := mpW_pure m2
  refine CallP.intro2 au_pu au_pu ?_
  refine CallT.intro tab_ok Tryd.func31 rfl (by kernel_rfl) (Nat.le_of_ble_eq_true rfl) ?_
  refine VC.reg tab_ok [2, 3] rfl ?_
  refine VX.newI rfl rfl ?_
  refine VX.newI rfl rfl ?_
  refine VX.new rfl rfl ?_
  refine VX.meek rfl ?_
  refine VX.nil ?_
  refine VC.reg tab_ok [] rfl ?_
  first | refine VX.meek rfl ?_ | refine VX.loadI rfl rfl au_l ?_ | refine VX.loadP rfl rfl rfl au_l ?_
  refine VX.meek rfl ?_
  refine VX.new rfl rfl ?_
  refine VX.store rfl rfl rfl rfl rfl (Nat.le_of_ble_eq_true rfl) (by show (true && (true && (true && (true && (true && (cellB X && (cellB Y && (true && (true && (true && (true && (true && true)))))))))))) = true; rw [hcX, hcY]; rfl) ?_
  refine VX.nil ?_
  refine VC.reg tab_ok [] rfl ?_
  refine VX.makeMap ?_
  refine VX.makeMap ?_
  iterate 2 refine VX.meek rfl ?_
  refine VX.store rfl rfl rfl rfl rfl au_s rfl ?_
  iterate 2 refine VX.meek rfl ?_
  refine VX.store rfl rfl rfl rfl rfl au_s rfl ?_
  refine VX.nil ?_
  refine VC.reg tab_ok [] rfl ?_
  iterate 2 refine VX.meek rfl ?_
  first | refine VX.meek rfl ?_ | refine VX.loadI rfl rfl au_l ?_ | refine VX.loadP rfl rfl rfl au_l ?_
  refine VX.meek rfl ?_
  first | refine VX.meek rfl ?_ | refine VX.loadI rfl rfl au_l ?_ | refine VX.loadP rfl rfl rfl au_l ?_
  refine VX.callT rfl rfl (CallT.frame (hcF) [2] rfl au_ci au_ci ?_)
  rintro _ _ ⟨rfl, p1, hp1, rfl⟩
  refine frK au_co au_co ?_
  refine VX.nil ?_
  refine VC.reg tab_ok [] rfl ?_
  iterate 2 refine VX.meek rfl ?_
  first | refine VX.meek rfl ?_ | refine VX.loadI rfl rfl au_l ?_ | refine VX.loadP rfl rfl rfl au_l ?_
  refine VX.meek rfl ?_
  first | refine VX.meek rfl ?_ | refine VX.loadI rfl rfl au_l ?_ | refine VX.loadP rfl rfl rfl au_l ?_
  refine VX.callT rfl rfl (CallT.frame (hcW) [3] rfl au_ci au_ci ?_)
  rintro _ _ ⟨rfl, p2, hp2, rfl⟩
  refine frK au_co au_co ?_
  refine VX.nil ?_
  refine VC.view ([(6, .ptr 0 0), (4, .ptr 4 0)]) ([.c (tnC m (askT 3 [])), .o (mF m), .o (mW m), .c (encL cRn []), .c zMg]) [3] rfl (by refine ⟨[some 1, some 2, some 3, none, some 0], rfl, by first | trivial | decide, by first | rfl | (simp only [noO, Bool.and_true, Bool.and_eq_true]; first | assumption | (refine ⟨?_, ?_⟩ <;> assumption)) | (simp only [noO, *, Bool.and_true, Bool.true_and, Bool.and_self]; done), ?_, ?_⟩ <;> (repeat' first | exact trivial | exact CvB_n | exact CvB_d | exact CvB_o rfl | refine CvE_app ?_ ?_ | refine CvE_cons rfl ?_ ?_ | refine CvH_cons ?_ ?_ | refine CvB_c rfl ?_ | fail) <;> first | exact au_v | (first | exact CvL.pure rfl | exact Cv.ptr rfl | exact CvL.cons (Cv.pure rfl) (CvL.cons (Cv.pure rfl) (CvL.cons (Cv.pure rfl) (CvL.cons (Cv.pure rfl) (CvL.cons (Cv.pure rfl) (CvL.cons (Cv.om rfl) (CvL.cons (Cv.om rfl) (CvL.cons (Cv.pure rfl) (CvL.cons (Cv.pure rfl) (CvL.cons (Cv.pure rfl) (CvL.cons (Cv.pure rfl) (CvL.cons (Cv.nilv rfl) CvL.nil))))))))))))) ?_
  refine VC.seq ?_
  refine VC.reg tab_ok [] rfl ?_
  refine VX.meek rfl ?_
  first | refine VX.meek rfl ?_ | refine VX.loadI rfl rfl au_l ?_ | refine VX.loadP rfl rfl rfl au_l ?_
  refine VX.nil ?_
  refine VC.block ?_
  refine VC.reg tab_ok [] rfl ?_
  iterate 2 refine VX.meek rfl ?_
  refine VX.nil ?_
  refine VC.cond rfl (fun hc0 => ?_) (fun hc0 => ?_)
  · exact absurd hc0 (by simp [hk])
  · (try simp only [au_std] at hc0)
    refine VC.reg tab_ok [] rfl ?_
    iterate 2 refine VX.meek rfl ?_
    refine VX.nil ?_
    refine VC.cond rfl (fun hc1 => ?_) (fun hc1 => ?_)
    · exact absurd hc1 (by simp [hk])
    · (try simp only [au_std] at hc1)
      refine VC.reg tab_ok [] rfl ?_
      iterate 2 refine VX.meek rfl ?_
      refine VX.nil ?_
      refine VC.cond rfl (fun hc3 => ?_) (fun hc3 => ?_)
      · (try simp only [au_std] at hc3)
        refine VC.reg tab_ok [] rfl ?_
        refine VX.meek rfl ?_
        first | refine VX.meek rfl ?_ | refine VX.loadI rfl rfl au_l ?_ | refine VX.loadP rfl rfl rfl au_l ?_
        refine VX.callP0 rfl rfl rfl (hev) ?_
        iterate 3 refine VX.meek rfl ?_
        refine VX.new rfl rfl ?_
        refine VX.store rfl rfl rfl rfl rfl au_s rfl ?_
        refine VX.meek rfl ?_
        refine VX.nil ?_
        refine VC.drw tab_ok [] [_, _, _, _, _] rfl (by kernel_rfl) (by kernel_rfl) ?_
        refine VX.callP0 rfl rfl rfl (events_m) ?_
        refine VX.meek rfl ?_
        first | refine VX.meek rfl ?_ | refine VX.loadI rfl rfl au_l ?_ | refine VX.loadP rfl rfl rfl au_l ?_
        refine VX.meek (t := .clo g [] []) (opM_look rfl rfl hlk) ?_
        refine VX.meek rfl ?_
        refine VX.nil ?_
        refine VX.nil ?_
        refine VC.reg tab_ok [] rfl ?_
        iterate 2 refine VX.meek rfl ?_
        refine' VX.merge (d := 75) [_, _, _] rfl ?_ rfl ?_
        rotate_left
        · refine VX.guard rfl rfl (fun hb15_1 => ?_) (fun hb15_1 => ?_)
          · have ghb15_1 := hb15_1
            try simp only [au_std, Bool.not_true, Bool.not_false] at ghb15_1
            refine VX.meek rfl ?_
            refine VX.guardT rfl rfl hb15_1 ?_
            refine VX.meek rfl ?_
            refine VX.pickA rfl (fun _ => rfl) ?_
            exact VX.nil ⟨rfl, rfl⟩
          · refine VX.guardF rfl rfl hb15_1 ?_
            exact VX.pickA rfl (fun h => absurd (h.symm.trans hb15_1) (by decide)) (VX.nil ⟨rfl, rfl⟩)
        refine VX.meek rfl ?_
        refine' VX.merge (d := 84) [_, _, _, _, _, _, _, _] rfl ?_ rfl ?_
        rotate_left
        · refine VX.guard rfl rfl (fun hb15_5 => ?_) (fun hb15_5 => ?_)
          · have ghb15_5 := hb15_5
            try simp only [au_std, Bool.not_true, Bool.not_false] at ghb15_5
            refine VX.meek rfl ?_
            refine VX.guardT rfl rfl hb15_5 ?_
            first | refine VX.meek rfl ?_ | refine VX.loadI rfl rfl au_l ?_ | refine VX.loadP rfl rfl rfl au_l ?_
            refine VX.guardT rfl rfl hb15_5 ?_
            refine VX.meek rfl ?_
            refine VX.guardT rfl rfl hb15_5 ?_
            refine VX.meek rfl ?_
            refine VX.guardT rfl rfl hb15_5 ?_
            first | refine VX.meek rfl ?_ | refine VX.loadI rfl rfl au_l ?_ | refine VX.loadP rfl rfl rfl au_l ?_
            refine VX.guardT rfl rfl hb15_5 ?_
            refine VX.meek rfl ?_
            refine VX.guardT rfl rfl hb15_5 ?_
            refine VX.meek rfl ?_
            refine VX.pickA rfl (fun _ => rfl) ?_
            exact VX.nil ⟨rfl, rfl⟩
          · refine VX.guardF rfl rfl hb15_5 ?_
            refine VX.guardF rfl rfl hb15_5 ?_
            refine VX.guardF rfl rfl hb15_5 ?_
            refine VX.guardF rfl rfl hb15_5 ?_
            refine VX.guardF rfl rfl hb15_5 ?_
            refine VX.guardF rfl rfl hb15_5 ?_
            exact VX.pickA rfl (fun h => absurd (h.symm.trans hb15_5) (by decide)) (VX.nil ⟨rfl, rfl⟩)
        refine VX.nil ?_
        refine VC.cond rfl (fun hc4 => ?_) (fun hc4 => ?_)
        · (try simp only [au_std] at hc4)
          refine VC.regN tab_ok [] rfl ?_
          iterate 2 refine VX.meek rfl ?_
          first | refine VX.meek rfl ?_ | refine VX.loadI rfl rfl au_l ?_ | refine VX.loadP rfl rfl rfl au_l ?_
          refine VX.callT rfl rfl (CallT.frame (hact) [0, 1, 2, 3] rfl au_ci au_ci ?_)
          rintro _ _ ⟨rfl, rfl⟩
          refine frK au_co au_co ?_
          refine VX.nil ?_
          refine VC.drwS tab_ok [] [_, _, _, _, _] (_) rfl (by kernel_rfl) (by kernel_rfl) (by kernel_rfl) (seen_kill (b := 4) (seen_refl _) (Nat.le_of_ble_eq_true rfl)) ?_
          refine VS.seg (l1 := [_, _, _, _]) rfl ?_
          refine VX.meek rfl ?_
          first | refine VX.meek rfl ?_ | refine VX.loadI rfl rfl au_l ?_ | refine VX.loadP rfl rfl rfl au_l ?_
          refine VX.meek rfl ?_
          first | refine VX.meek rfl ?_ | refine VX.loadI rfl rfl au_l ?_ | refine VX.loadP rfl rfl rfl au_l ?_
          refine VX.nil ?_
          refine VS.sto rfl rfl rfl rfl ?_
          refine VS.nil (⟨rfl, Nat.le_of_ble_eq_true rfl, rfl, trivial⟩) ?_
          refine VX.meek rfl ?_
          refine VX.nil ?_
          refine VC.ret ?_
          exact ⟨trivial, _, rfl, Cv.tup (CvL.cons (Cv.agg (cv_mg hf2 (Cv.fom ⟨rfl, (by simp)⟩ (CvL.pure (pF m2.F))) (Cv.fom ⟨rfl, (by simp)⟩ (CvL.pure (pW m2.W))))) (CvL.cons (Cv.fslc0 ⟨rfl, (by simp)⟩ (CvL.pure (encL_pure _ _))) CvL.nil))⟩
        · exact absurd hc4 (by simp; omega)
      · exact absurd hc3 (by simp [hk])
theorem step2a2_t (m : Mg) (o : Ot) (m2 : Mg) (f : Fm) (g : FuncId) (r1 r2 : Rq) (rs : List Rq) (hf2 : m2.fresh = false) (hk : o.kind = 2) (hev : CallP Tryd.prog 63 [I64 o.code] (.tup [fmT f, BL true])) (hle : f.fx.length ≤ o.n.length) (hlk : mLook2 tab 138 evsK evsT (.int .i64 o.code) false = some (.clo g [] [])) (hact : CallT Tryd.prog g ([] ++ [.ptr 0 0, cIf o.n] ++ []) (tnH m (mF m) (mW m) []) (fun t H' => t = .tup [] ∧ H' = tnH2 m2 (mF m2) (mW m2) (r1 :: r2 :: rs)))
    (X Y : T) (hpX : X.pure = true) (hpY : Y.pure = true) (hcX : cellB X = true) (hcY : cellB Y = true)
    (hcF : CallT Tryd.prog 58 [.om 0, X] [.o (mapP [] [])] (fun t H' => t = .tup [] ∧ ∃ p : OP, p.pi = true ∧ H' = [.o (mF m), .o p]))
    (hcW : CallT Tryd.prog 59 [.om 0, Y] [.o (mapP [] [])] (fun t H' => t = .tup [] ∧ ∃ p : OP, p.pi = true ∧ H' = [.o (mW m), .o p])) :
    CallP Tryd.prog 31 [.agg [.v (.int .u32 m.base), I64 m.cnt, I64 m.made, I64 m.w, I64 m.h, X, Y, BL m.on, I64 m.df, I64 m.dx, I64 m.dy], otT o] (.tup [mgT m2, rqN (r1 :: r2 :: rs)]) := by
  have hot := ot_pure o
  have hpF := piF m.F
  have hpW := piW m.W
  have hpF2 := piF m2.F
  have hpW2 := piW m2.W
  have hp3 := mpF_pure m2
  have hp4 := mpW_pure m2
  refine CallP.intro2 au_pu au_pu ?_
  refine CallT.intro tab_ok Tryd.func31 rfl (by kernel_rfl) (Nat.le_of_ble_eq_true rfl) ?_
  refine VC.reg tab_ok [2, 3] rfl ?_
  refine VX.newI rfl rfl ?_
  refine VX.newI rfl rfl ?_
  refine VX.new rfl rfl ?_
  refine VX.meek rfl ?_
  refine VX.nil ?_
  refine VC.reg tab_ok [] rfl ?_
  first | refine VX.meek rfl ?_ | refine VX.loadI rfl rfl au_l ?_ | refine VX.loadP rfl rfl rfl au_l ?_
  refine VX.meek rfl ?_
  refine VX.new rfl rfl ?_
  refine VX.store rfl rfl rfl rfl rfl (Nat.le_of_ble_eq_true rfl) (by show (true && (true && (true && (true && (true && (cellB X && (cellB Y && (true && (true && (true && (true && (true && true)))))))))))) = true; rw [hcX, hcY]; rfl) ?_
  refine VX.nil ?_
  refine VC.reg tab_ok [] rfl ?_
  refine VX.makeMap ?_
  refine VX.makeMap ?_
  iterate 2 refine VX.meek rfl ?_
  refine VX.store rfl rfl rfl rfl rfl au_s rfl ?_
  iterate 2 refine VX.meek rfl ?_
  refine VX.store rfl rfl rfl rfl rfl au_s rfl ?_
  refine VX.nil ?_
  refine VC.reg tab_ok [] rfl ?_
  iterate 2 refine VX.meek rfl ?_
  first | refine VX.meek rfl ?_ | refine VX.loadI rfl rfl au_l ?_ | refine VX.loadP rfl rfl rfl au_l ?_
  refine VX.meek rfl ?_
  first | refine VX.meek rfl ?_ | refine VX.loadI rfl rfl au_l ?_ | refine VX.loadP rfl rfl rfl au_l ?_
  refine VX.callT rfl rfl (CallT.frame (hcF) [2] rfl au_ci au_ci ?_)
  rintro _ _ ⟨rfl, p1, hp1, rfl⟩
  refine frK au_co au_co ?_
  refine VX.nil ?_
  refine VC.reg tab_ok [] rfl ?_
  iterate 2 refine VX.meek rfl ?_
  first | refine VX.meek rfl ?_ | refine VX.loadI rfl rfl au_l ?_ | refine VX.loadP rfl rfl rfl au_l ?_
  refine VX.meek rfl ?_
  first | refine VX.meek rfl ?_ | refine VX.loadI rfl rfl au_l ?_ | refine VX.loadP rfl rfl rfl au_l ?_
  refine VX.callT rfl rfl (CallT.frame (hcW) [3] rfl au_ci au_ci ?_)
  rintro _ _ ⟨rfl, p2, hp2, rfl⟩
  refine frK au_co au_co ?_
  refine VX.nil ?_
  refine VC.view ([(6, .ptr 0 0), (4, .ptr 4 0)]) ([.c (tnC m (askT 3 [])), .o (mF m), .o (mW m), .c (encL cRn []), .c zMg]) [3] rfl (by refine ⟨[some 1, some 2, some 3, none, some 0], rfl, by first | trivial | decide, by first | rfl | (simp only [noO, Bool.and_true, Bool.and_eq_true]; first | assumption | (refine ⟨?_, ?_⟩ <;> assumption)) | (simp only [noO, *, Bool.and_true, Bool.true_and, Bool.and_self]; done), ?_, ?_⟩ <;> (repeat' first | exact trivial | exact CvB_n | exact CvB_d | exact CvB_o rfl | refine CvE_app ?_ ?_ | refine CvE_cons rfl ?_ ?_ | refine CvH_cons ?_ ?_ | refine CvB_c rfl ?_ | fail) <;> first | exact au_v | (first | exact CvL.pure rfl | exact Cv.ptr rfl | exact CvL.cons (Cv.pure rfl) (CvL.cons (Cv.pure rfl) (CvL.cons (Cv.pure rfl) (CvL.cons (Cv.pure rfl) (CvL.cons (Cv.pure rfl) (CvL.cons (Cv.om rfl) (CvL.cons (Cv.om rfl) (CvL.cons (Cv.pure rfl) (CvL.cons (Cv.pure rfl) (CvL.cons (Cv.pure rfl) (CvL.cons (Cv.pure rfl) (CvL.cons (Cv.nilv rfl) CvL.nil))))))))))))) ?_
  refine VC.seq ?_
  refine VC.reg tab_ok [] rfl ?_
  refine VX.meek rfl ?_
  first | refine VX.meek rfl ?_ | refine VX.loadI rfl rfl au_l ?_ | refine VX.loadP rfl rfl rfl au_l ?_
  refine VX.nil ?_
  refine VC.block ?_
  refine VC.reg tab_ok [] rfl ?_
  iterate 2 refine VX.meek rfl ?_
  refine VX.nil ?_
  refine VC.cond rfl (fun hc0 => ?_) (fun hc0 => ?_)
  · exact absurd hc0 (by simp [hk])
  · (try simp only [au_std] at hc0)
    refine VC.reg tab_ok [] rfl ?_
    iterate 2 refine VX.meek rfl ?_
    refine VX.nil ?_
    refine VC.cond rfl (fun hc1 => ?_) (fun hc1 => ?_)
    · exact absurd hc1 (by simp [hk])
    · (try simp only [au_std] at hc1)
      refine VC.reg tab_ok [] rfl ?_
      iterate 2 refine VX.meek rfl ?_
      refine VX.nil ?_
      refine VC.cond rfl (fun hc3 => ?_) (fun hc3 => ?_)
      · (try simp only [au_std] at hc3)
        refine VC.reg tab_ok [] rfl ?_
        refine VX.meek rfl ?_
        first | refine VX.meek rfl ?_ | refine VX.loadI rfl rfl au_l ?_ | refine VX.loadP rfl rfl rfl au_l ?_
        refine VX.callP0 rfl rfl rfl (hev) ?_
        iterate 3 refine VX.meek rfl ?_
        refine VX.new rfl rfl ?_
        refine VX.store rfl rfl rfl rfl rfl au_s rfl ?_
        refine VX.meek rfl ?_
        refine VX.nil ?_
        refine VC.drw tab_ok [] [_, _, _, _, _] rfl (by kernel_rfl) (by kernel_rfl) ?_
        refine VX.callP0 rfl rfl rfl (events_m) ?_
        refine VX.meek rfl ?_
        first | refine VX.meek rfl ?_ | refine VX.loadI rfl rfl au_l ?_ | refine VX.loadP rfl rfl rfl au_l ?_
        refine VX.meek (t := .clo g [] []) (opM_look rfl rfl hlk) ?_
        refine VX.meek rfl ?_
        refine VX.nil ?_
        refine VX.nil ?_
        refine VC.reg tab_ok [] rfl ?_
        iterate 2 refine VX.meek rfl ?_
        refine' VX.merge (d := 75) [_, _, _] rfl ?_ rfl ?_
        rotate_left
        · refine VX.guard rfl rfl (fun hb15_1 => ?_) (fun hb15_1 => ?_)
          · have ghb15_1 := hb15_1
            try simp only [au_std, Bool.not_true, Bool.not_false] at ghb15_1
            refine VX.meek rfl ?_
            refine VX.guardT rfl rfl hb15_1 ?_
            refine VX.meek rfl ?_
            refine VX.pickA rfl (fun _ => rfl) ?_
            exact VX.nil ⟨rfl, rfl⟩
          · refine VX.guardF rfl rfl hb15_1 ?_
            exact VX.pickA rfl (fun h => absurd (h.symm.trans hb15_1) (by decide)) (VX.nil ⟨rfl, rfl⟩)
        refine VX.meek rfl ?_
        refine' VX.merge (d := 84) [_, _, _, _, _, _, _, _] rfl ?_ rfl ?_
        rotate_left
        · refine VX.guard rfl rfl (fun hb15_5 => ?_) (fun hb15_5 => ?_)
          · have ghb15_5 := hb15_5
            try simp only [au_std, Bool.not_true, Bool.not_false] at ghb15_5
            refine VX.meek rfl ?_
            refine VX.guardT rfl rfl hb15_5 ?_
            first | refine VX.meek rfl ?_ | refine VX.loadI rfl rfl au_l ?_ | refine VX.loadP rfl rfl rfl au_l ?_
            refine VX.guardT rfl rfl hb15_5 ?_
            refine VX.meek rfl ?_
            refine VX.guardT rfl rfl hb15_5 ?_
            refine VX.meek rfl ?_
            refine VX.guardT rfl rfl hb15_5 ?_
            first | refine VX.meek rfl ?_ | refine VX.loadI rfl rfl au_l ?_ | refine VX.loadP rfl rfl rfl au_l ?_
            refine VX.guardT rfl rfl hb15_5 ?_
            refine VX.meek rfl ?_
            refine VX.guardT rfl rfl hb15_5 ?_
            refine VX.meek rfl ?_
            refine VX.pickA rfl (fun _ => rfl) ?_
            exact VX.nil ⟨rfl, rfl⟩
          · refine VX.guardF rfl rfl hb15_5 ?_
            refine VX.guardF rfl rfl hb15_5 ?_
            refine VX.guardF rfl rfl hb15_5 ?_
            refine VX.guardF rfl rfl hb15_5 ?_
            refine VX.guardF rfl rfl hb15_5 ?_
            refine VX.guardF rfl rfl hb15_5 ?_
            exact VX.pickA rfl (fun h => absurd (h.symm.trans hb15_5) (by decide)) (VX.nil ⟨rfl, rfl⟩)
        refine VX.nil ?_
        refine VC.cond rfl (fun hc4 => ?_) (fun hc4 => ?_)
        · (try simp only [au_std] at hc4)
          refine VC.regN tab_ok [] rfl ?_
          iterate 2 refine VX.meek rfl ?_
          first | refine VX.meek rfl ?_ | refine VX.loadI rfl rfl au_l ?_ | refine VX.loadP rfl rfl rfl au_l ?_
          refine VX.callT rfl rfl (CallT.frame (hact) [0, 1, 2, 3] rfl au_ci au_ci ?_)
          rintro _ _ ⟨rfl, rfl⟩
          refine frK au_co au_co ?_
          refine VX.nil ?_
          refine VC.drwS tab_ok [] [_, _, _, _, _] (_) rfl (by kernel_rfl) (by kernel_rfl) (by kernel_rfl) (seen_kill (b := 4) (seen_refl _) (Nat.le_of_ble_eq_true rfl)) ?_
          refine VS.seg (l1 := [_, _, _, _]) rfl ?_
          refine VX.meek rfl ?_
          first | refine VX.meek rfl ?_ | refine VX.loadI rfl rfl au_l ?_ | refine VX.loadP rfl rfl rfl au_l ?_
          refine VX.meek rfl ?_
          first | refine VX.meek rfl ?_ | refine VX.loadI rfl rfl au_l ?_ | refine VX.loadP rfl rfl rfl au_l ?_
          refine VX.nil ?_
          refine VS.sto rfl rfl rfl rfl ?_
          refine VS.nil (⟨rfl, Nat.le_of_ble_eq_true rfl, rfl, trivial⟩) ?_
          refine VX.meek rfl ?_
          refine VX.nil ?_
          refine VC.ret ?_
          exact ⟨trivial, _, rfl, Cv.tup (CvL.cons (Cv.agg (cv_mg hf2 (Cv.fom ⟨rfl, (by simp)⟩ (CvL.pure (pF m2.F))) (Cv.fom ⟨rfl, (by simp)⟩ (CvL.pure (pW m2.W))))) (CvL.cons (Cv.fslc0 ⟨rfl, (by simp)⟩ (CvL.pure (encL_pure _ _))) CvL.nil))⟩
        · exact absurd hc4 (by simp; omega)
      · exact absurd hc3 (by simp [hk])
theorem step2b_t (m : Mg) (o : Ot) (f : Fm) (ok : Bool) (hf2 : m.fresh = false) (hk : o.kind = 2) (hev : CallP Tryd.prog 63 [I64 o.code] (.tup [fmT f, BL ok])) (hlk : mLook2 tab 138 evsK evsT (.int .i64 o.code) false = some (.v .nilFunc))
    (X Y : T) (hpX : X.pure = true) (hpY : Y.pure = true) (hcX : cellB X = true) (hcY : cellB Y = true)
    (hcF : CallT Tryd.prog 58 [.om 0, X] [.o (mapP [] [])] (fun t H' => t = .tup [] ∧ ∃ p : OP, p.pi = true ∧ H' = [.o (mF m), .o p]))
    (hcW : CallT Tryd.prog 59 [.om 0, Y] [.o (mapP [] [])] (fun t H' => t = .tup [] ∧ ∃ p : OP, p.pi = true ∧ H' = [.o (mW m), .o p])) :
    CallP Tryd.prog 31 [.agg [.v (.int .u32 m.base), I64 m.cnt, I64 m.made, I64 m.w, I64 m.h, X, Y, BL m.on, I64 m.df, I64 m.dx, I64 m.dy], otT o] (.tup [mgT m, rqN []]) := by
  have hot := ot_pure o
  have hpF2 := piF m.F
  have hpW2 := piW m.W
  have hp3 := mpF_pure m
  have hp4 := mpW_pure m
  refine CallP.intro2 au_pu au_pu ?_
  refine CallT.intro tab_ok Tryd.func31 rfl (by kernel_rfl) (Nat.le_of_ble_eq_true rfl) ?_
  refine VC.reg tab_ok [2, 3] rfl ?_
  refine VX.newI rfl rfl ?_
  refine VX.newI rfl rfl ?_
  refine VX.new rfl rfl ?_
  refine VX.meek rfl ?_
  refine VX.nil ?_
  refine VC.reg tab_ok [] rfl ?_
  first | refine VX.meek rfl ?_ | refine VX.loadI rfl rfl au_l ?_ | refine VX.loadP rfl rfl rfl au_l ?_
  refine VX.meek rfl ?_
  refine VX.new rfl rfl ?_
  refine VX.store rfl rfl rfl rfl rfl (Nat.le_of_ble_eq_true rfl) (by show (true && (true && (true && (true && (true && (cellB X && (cellB Y && (true && (true && (true && (true && (true && true)))))))))))) = true; rw [hcX, hcY]; rfl) ?_
  refine VX.nil ?_
  refine VC.reg tab_ok [] rfl ?_
  refine VX.makeMap ?_
  refine VX.makeMap ?_
  iterate 2 refine VX.meek rfl ?_
  refine VX.store rfl rfl rfl rfl rfl au_s rfl ?_
  iterate 2 refine VX.meek rfl ?_
  refine VX.store rfl rfl rfl rfl rfl au_s rfl ?_
  refine VX.nil ?_
  refine VC.reg tab_ok [] rfl ?_
  iterate 2 refine VX.meek rfl ?_
  first | refine VX.meek rfl ?_ | refine VX.loadI rfl rfl au_l ?_ | refine VX.loadP rfl rfl rfl au_l ?_
  refine VX.meek rfl ?_
  first | refine VX.meek rfl ?_ | refine VX.loadI rfl rfl au_l ?_ | refine VX.loadP rfl rfl rfl au_l ?_
  refine VX.callT rfl rfl (CallT.frame (hcF) [2] rfl au_ci au_ci ?_)
  rintro _ _ ⟨rfl, p1, hp1, rfl⟩
  refine frK au_co au_co ?_
  refine VX.nil ?_
  refine VC.reg tab_ok [] rfl ?_
  iterate 2 refine VX.meek rfl ?_
  first | refine VX.meek rfl ?_ | refine VX.loadI rfl rfl au_l ?_ | refine VX.loadP rfl rfl rfl au_l ?_
  refine VX.meek rfl ?_
  first | refine VX.meek rfl ?_ | refine VX.loadI rfl rfl au_l ?_ | refine VX.loadP rfl rfl rfl au_l ?_
  refine VX.callT rfl rfl (CallT.frame (hcW) [3] rfl au_ci au_ci ?_)
  rintro _ _ ⟨rfl, p2, hp2, rfl⟩
  refine frK au_co au_co ?_
  refine VX.nil ?_
  refine VC.view ([(6, .ptr 0 0), (4, .ptr 4 0)]) ([.c (tnC m (askT 3 [])), .o (mF m), .o (mW m), .c (encL cRn []), .c zMg]) [3] rfl (by refine ⟨[some 1, some 2, some 3, none, some 0], rfl, by first | trivial | decide, by first | rfl | (simp only [noO, Bool.and_true, Bool.and_eq_true]; first | assumption | (refine ⟨?_, ?_⟩ <;> assumption)) | (simp only [noO, *, Bool.and_true, Bool.true_and, Bool.and_self]; done), ?_, ?_⟩ <;> (repeat' first | exact trivial | exact CvB_n | exact CvB_d | exact CvB_o rfl | refine CvE_app ?_ ?_ | refine CvE_cons rfl ?_ ?_ | refine CvH_cons ?_ ?_ | refine CvB_c rfl ?_ | fail) <;> first | exact au_v | (first | exact CvL.pure rfl | exact Cv.ptr rfl | exact CvL.cons (Cv.pure rfl) (CvL.cons (Cv.pure rfl) (CvL.cons (Cv.pure rfl) (CvL.cons (Cv.pure rfl) (CvL.cons (Cv.pure rfl) (CvL.cons (Cv.om rfl) (CvL.cons (Cv.om rfl) (CvL.cons (Cv.pure rfl) (CvL.cons (Cv.pure rfl) (CvL.cons (Cv.pure rfl) (CvL.cons (Cv.pure rfl) (CvL.cons (Cv.nilv rfl) CvL.nil))))))))))))) ?_
  refine VC.seq ?_
  refine VC.reg tab_ok [] rfl ?_
  refine VX.meek rfl ?_
  first | refine VX.meek rfl ?_ | refine VX.loadI rfl rfl au_l ?_ | refine VX.loadP rfl rfl rfl au_l ?_
  refine VX.nil ?_
  refine VC.block ?_
  refine VC.reg tab_ok [] rfl ?_
  iterate 2 refine VX.meek rfl ?_
  refine VX.nil ?_
  refine VC.cond rfl (fun hc0 => ?_) (fun hc0 => ?_)
  · exact absurd hc0 (by simp [hk])
  · (try simp only [au_std] at hc0)
    refine VC.reg tab_ok [] rfl ?_
    iterate 2 refine VX.meek rfl ?_
    refine VX.nil ?_
    refine VC.cond rfl (fun hc1 => ?_) (fun hc1 => ?_)
    · exact absurd hc1 (by simp [hk])
    · (try simp only [au_std] at hc1)
      refine VC.reg tab_ok [] rfl ?_
      iterate 2 refine VX.meek rfl ?_
      refine VX.nil ?_
      refine VC.cond rfl (fun hc3 => ?_) (fun hc3 => ?_)
      · (try simp only [au_std] at hc3)
        refine VC.reg tab_ok [] rfl ?_
        refine VX.meek rfl ?_
        first | refine VX.meek rfl ?_ | refine VX.loadI rfl rfl au_l ?_ | refine VX.loadP rfl rfl rfl au_l ?_
        refine VX.callP0 rfl rfl rfl (hev) ?_
        iterate 3 refine VX.meek rfl ?_
        refine VX.new rfl rfl ?_
        refine VX.store rfl rfl rfl rfl rfl au_s rfl ?_
        refine VX.meek rfl ?_
        refine VX.nil ?_
        refine VC.drw tab_ok [] [_, _, _, _, _] rfl (by kernel_rfl) (by kernel_rfl) ?_
        refine VX.callP0 rfl rfl rfl (events_m) ?_
        refine VX.meek rfl ?_
        first | refine VX.meek rfl ?_ | refine VX.loadI rfl rfl au_l ?_ | refine VX.loadP rfl rfl rfl au_l ?_
        refine VX.meek (t := .v .nilFunc) (opM_look rfl rfl hlk) ?_
        refine VX.meek rfl ?_
        refine VX.nil ?_
        refine VX.nil ?_
        refine VC.reg tab_ok [] rfl ?_
        iterate 2 refine VX.meek rfl ?_
        refine' VX.merge (d := 75) [_, _, _] rfl ?_ rfl ?_
        rotate_left
        · refine VX.guard rfl rfl (fun hb15_1 => ?_) (fun hb15_1 => ?_)
          · have ghb15_1 := hb15_1
            try simp only [au_std, Bool.not_true, Bool.not_false] at ghb15_1
            refine VX.meek rfl ?_
            refine VX.guardT rfl rfl hb15_1 ?_
            refine VX.meek rfl ?_
            refine VX.pickA rfl (fun _ => rfl) ?_
            exact VX.nil ⟨rfl, rfl⟩
          · refine VX.guardF rfl rfl hb15_1 ?_
            exact VX.pickA rfl (fun h => absurd (h.symm.trans hb15_1) (by decide)) (VX.nil ⟨rfl, rfl⟩)
        refine VX.meek rfl ?_
        refine' VX.merge (d := 84) [_, _, _, _, _, _, _, _] rfl ?_ rfl ?_
        rotate_left
        · refine VX.guard rfl rfl (fun hb15_5 => ?_) (fun hb15_5 => ?_)
          · have ghb15_5 := hb15_5
            try simp only [au_std, Bool.not_true, Bool.not_false] at ghb15_5
            refine VX.meek rfl ?_
            refine VX.guardT rfl rfl hb15_5 ?_
            first | refine VX.meek rfl ?_ | refine VX.loadI rfl rfl au_l ?_ | refine VX.loadP rfl rfl rfl au_l ?_
            refine VX.guardT rfl rfl hb15_5 ?_
            refine VX.meek rfl ?_
            refine VX.guardT rfl rfl hb15_5 ?_
            refine VX.meek rfl ?_
            refine VX.guardT rfl rfl hb15_5 ?_
            first | refine VX.meek rfl ?_ | refine VX.loadI rfl rfl au_l ?_ | refine VX.loadP rfl rfl rfl au_l ?_
            refine VX.guardT rfl rfl hb15_5 ?_
            refine VX.meek rfl ?_
            refine VX.guardT rfl rfl hb15_5 ?_
            refine VX.meek rfl ?_
            refine VX.pickA rfl (fun _ => rfl) ?_
            exact VX.nil ⟨rfl, rfl⟩
          · refine VX.guardF rfl rfl hb15_5 ?_
            refine VX.guardF rfl rfl hb15_5 ?_
            refine VX.guardF rfl rfl hb15_5 ?_
            refine VX.guardF rfl rfl hb15_5 ?_
            refine VX.guardF rfl rfl hb15_5 ?_
            refine VX.guardF rfl rfl hb15_5 ?_
            exact VX.pickA rfl (fun h => absurd (h.symm.trans hb15_5) (by decide)) (VX.nil ⟨rfl, rfl⟩)
        refine VX.nil ?_
        refine VC.cond rfl (fun hc4 => ?_) (fun hc4 => ?_)
        · exact absurd hc4 (by cases ok <;> simp)
        · (try simp only [au_std] at hc4)
          refine VC.skip ?_
          refine VC.drwS tab_ok [] [_, _, _, _, _] (_) rfl (by kernel_rfl) (by kernel_rfl) (by kernel_rfl) (seen_kill (b := 4) (seen_refl _) (Nat.le_of_ble_eq_true rfl)) ?_
          refine VS.seg (l1 := [_, _, _, _]) rfl ?_
          refine VX.meek rfl ?_
          first | refine VX.meek rfl ?_ | refine VX.loadI rfl rfl au_l ?_ | refine VX.loadP rfl rfl rfl au_l ?_
          refine VX.meek rfl ?_
          first | refine VX.meek rfl ?_ | refine VX.loadI rfl rfl au_l ?_ | refine VX.loadP rfl rfl rfl au_l ?_
          refine VX.nil ?_
          refine VS.sto rfl rfl rfl rfl ?_
          refine VS.nil (⟨rfl, Nat.le_of_ble_eq_true rfl, rfl, trivial⟩) ?_
          refine VX.meek rfl ?_
          refine VX.nil ?_
          refine VC.ret ?_
          exact ⟨trivial, _, rfl, Cv.tup (CvL.cons (Cv.agg (cv_mg hf2 (Cv.fom ⟨rfl, (by simp)⟩ (CvL.pure (pF m.F))) (Cv.fom ⟨rfl, (by simp)⟩ (CvL.pure (pW m.W))))) (CvL.cons (Cv.fslc0 ⟨rfl, (by simp)⟩ (CvL.pure (encL_pure _ _))) CvL.nil))⟩
      · exact absurd hc3 (by simp [hk])
theorem step2c_t (m : Mg) (o : Ot) (f : Fm) (g : FuncId) (hf2 : m.fresh = false) (hk : o.kind = 2) (hev : CallP Tryd.prog 63 [I64 o.code] (.tup [fmT f, BL true])) (hle : ¬ f.fx.length ≤ o.n.length) (hlk : mLook2 tab 138 evsK evsT (.int .i64 o.code) false = some (.clo g [] []))
    (X Y : T) (hpX : X.pure = true) (hpY : Y.pure = true) (hcX : cellB X = true) (hcY : cellB Y = true)
    (hcF : CallT Tryd.prog 58 [.om 0, X] [.o (mapP [] [])] (fun t H' => t = .tup [] ∧ ∃ p : OP, p.pi = true ∧ H' = [.o (mF m), .o p]))
    (hcW : CallT Tryd.prog 59 [.om 0, Y] [.o (mapP [] [])] (fun t H' => t = .tup [] ∧ ∃ p : OP, p.pi = true ∧ H' = [.o (mW m), .o p])) :
    CallP Tryd.prog 31 [.agg [.v (.int .u32 m.base), I64 m.cnt, I64 m.made, I64 m.w, I64 m.h, X, Y, BL m.on, I64 m.df, I64 m.dx, I64 m.dy], otT o] (.tup [mgT m, rqN []]) := by
  have hot := ot_pure o
  have hpF2 := piF m.F
  have hpW2 := piW m.W
  have hp3 := mpF_pure m
  have hp4 := mpW_pure m
  refine CallP.intro2 au_pu au_pu ?_
  refine CallT.intro tab_ok Tryd.func31 rfl (by kernel_rfl) (Nat.le_of_ble_eq_true rfl) ?_
  refine VC.reg tab_ok [2, 3] rfl ?_
  refine VX.newI rfl rfl ?_
  refine VX.newI rfl rfl ?_
  refine VX.new rfl rfl ?_
  refine VX.meek rfl ?_
  refine VX.nil ?_
  refine VC.reg tab_ok [] rfl ?_
  first | refine VX.meek rfl ?_ | refine VX.loadI rfl rfl au_l ?_ | refine VX.loadP rfl rfl rfl au_l ?_
  refine VX.meek rfl ?_
  refine VX.new rfl rfl ?_
  refine VX.store rfl rfl rfl rfl rfl (Nat.le_of_ble_eq_true rfl) (by show (true && (true && (true && (true && (true && (cellB X && (cellB Y && (true && (true && (true && (true && (true && true)))))))))))) = true; rw [hcX, hcY]; rfl) ?_
  refine VX.nil ?_
  refine VC.reg tab_ok [] rfl ?_
  refine VX.makeMap ?_
  refine VX.makeMap ?_
  iterate 2 refine VX.meek rfl ?_
  refine VX.store rfl rfl rfl rfl rfl au_s rfl ?_
  iterate 2 refine VX.meek rfl ?_
  refine VX.store rfl rfl rfl rfl rfl au_s rfl ?_
  refine VX.nil ?_
  refine VC.reg tab_ok [] rfl ?_
  iterate 2 refine VX.meek rfl ?_
  first | refine VX.meek rfl ?_ | refine VX.loadI rfl rfl au_l ?_ | refine VX.loadP rfl rfl rfl au_l ?_
  refine VX.meek rfl ?_
  first | refine VX.meek rfl ?_ | refine VX.loadI rfl rfl au_l ?_ | refine VX.loadP rfl rfl rfl au_l ?_
  refine VX.callT rfl rfl (CallT.frame (hcF) [2] rfl au_ci au_ci ?_)
  rintro _ _ ⟨rfl, p1, hp1, rfl⟩
  refine frK au_co au_co ?_
  refine VX.nil ?_
  refine VC.reg tab_ok [] rfl ?_
  iterate 2 refine VX.meek rfl ?_
  first | refine VX.meek rfl ?_ | refine VX.loadI rfl rfl au_l ?_ | refine VX.loadP rfl rfl rfl au_l ?_
  refine VX.meek rfl ?_
  first | refine VX.meek rfl ?_ | refine VX.loadI rfl rfl au_l ?_ | refine VX.loadP rfl rfl rfl au_l ?_
  refine VX.callT rfl rfl (CallT.frame (hcW) [3] rfl au_ci au_ci ?_)
  rintro _ _ ⟨rfl, p2, hp2, rfl⟩
  refine frK au_co au_co ?_
  refine VX.nil ?_
  refine VC.view ([(6, .ptr 0 0), (4, .ptr 4 0)]) ([.c (tnC m (askT 3 [])), .o (mF m), .o (mW m), .c (encL cRn []), .c zMg]) [3] rfl (by refine ⟨[some 1, some 2, some 3, none, some 0], rfl, by first | trivial | decide, by first | rfl | (simp only [noO, Bool.and_true, Bool.and_eq_true]; first | assumption | (refine ⟨?_, ?_⟩ <;> assumption)) | (simp only [noO, *, Bool.and_true, Bool.true_and, Bool.and_self]; done), ?_, ?_⟩ <;> (repeat' first | exact trivial | exact CvB_n | exact CvB_d | exact CvB_o rfl | refine CvE_app ?_ ?_ | refine CvE_cons rfl ?_ ?_ | refine CvH_cons ?_ ?_ | refine CvB_c rfl ?_ | fail) <;> first | exact au_v | (first | exact CvL.pure rfl | exact Cv.ptr rfl | exact CvL.cons (Cv.pure rfl) (CvL.cons (Cv.pure rfl) (CvL.cons (Cv.pure rfl) (CvL.cons (Cv.pure rfl) (CvL.cons (Cv.pure rfl) (CvL.cons (Cv.om rfl) (CvL.cons (Cv.om rfl) (CvL.cons (Cv.pure rfl) (CvL.cons (Cv.pure rfl) (CvL.cons (Cv.pure rfl) (CvL.cons (Cv.pure rfl) (CvL.cons (Cv.nilv rfl) CvL.nil))))))))))))) ?_
  refine VC.seq ?_
  refine VC.reg tab_ok [] rfl ?_
  refine VX.meek rfl ?_
  first | refine VX.meek rfl ?_ | refine VX.loadI rfl rfl au_l ?_ | refine VX.loadP rfl rfl rfl au_l ?_
  refine VX.nil ?_
  refine VC.block ?_
  refine VC.reg tab_ok [] rfl ?_
  iterate 2 refine VX.meek rfl ?_
  refine VX.nil ?_
  refine VC.cond rfl (fun hc0 => ?_) (fun hc0 => ?_)
  · exact absurd hc0 (by simp [hk])
  · (try simp only [au_std] at hc0)
    refine VC.reg tab_ok [] rfl ?_
    iterate 2 refine VX.meek rfl ?_
    refine VX.nil ?_
    refine VC.cond rfl (fun hc1 => ?_) (fun hc1 => ?_)
    · exact absurd hc1 (by simp [hk])
    · (try simp only [au_std] at hc1)
      refine VC.reg tab_ok [] rfl ?_
      iterate 2 refine VX.meek rfl ?_
      refine VX.nil ?_
      refine VC.cond rfl (fun hc3 => ?_) (fun hc3 => ?_)
      · (try simp only [au_std] at hc3)
        refine VC.reg tab_ok [] rfl ?_
        refine VX.meek rfl ?_
        first | refine VX.meek rfl ?_ | refine VX.loadI rfl rfl au_l ?_ | refine VX.loadP rfl rfl rfl au_l ?_
        refine VX.callP0 rfl rfl rfl (hev) ?_
        iterate 3 refine VX.meek rfl ?_
        refine VX.new rfl rfl ?_
        refine VX.store rfl rfl rfl rfl rfl au_s rfl ?_
        refine VX.meek rfl ?_
        refine VX.nil ?_
        refine VC.drw tab_ok [] [_, _, _, _, _] rfl (by kernel_rfl) (by kernel_rfl) ?_
        refine VX.callP0 rfl rfl rfl (events_m) ?_
        refine VX.meek rfl ?_
        first | refine VX.meek rfl ?_ | refine VX.loadI rfl rfl au_l ?_ | refine VX.loadP rfl rfl rfl au_l ?_
        refine VX.meek (t := .clo g [] []) (opM_look rfl rfl hlk) ?_
        refine VX.meek rfl ?_
        refine VX.nil ?_
        refine VX.nil ?_
        refine VC.reg tab_ok [] rfl ?_
        iterate 2 refine VX.meek rfl ?_
        refine' VX.merge (d := 75) [_, _, _] rfl ?_ rfl ?_
        rotate_left
        · refine VX.guard rfl rfl (fun hb15_1 => ?_) (fun hb15_1 => ?_)
          · have ghb15_1 := hb15_1
            try simp only [au_std, Bool.not_true, Bool.not_false] at ghb15_1
            refine VX.meek rfl ?_
            refine VX.guardT rfl rfl hb15_1 ?_
            refine VX.meek rfl ?_
            refine VX.pickA rfl (fun _ => rfl) ?_
            exact VX.nil ⟨rfl, rfl⟩
          · refine VX.guardF rfl rfl hb15_1 ?_
            exact VX.pickA rfl (fun h => absurd (h.symm.trans hb15_1) (by decide)) (VX.nil ⟨rfl, rfl⟩)
        refine VX.meek rfl ?_
        refine' VX.merge (d := 84) [_, _, _, _, _, _, _, _] rfl ?_ rfl ?_
        rotate_left
        · refine VX.guard rfl rfl (fun hb15_5 => ?_) (fun hb15_5 => ?_)
          · have ghb15_5 := hb15_5
            try simp only [au_std, Bool.not_true, Bool.not_false] at ghb15_5
            refine VX.meek rfl ?_
            refine VX.guardT rfl rfl hb15_5 ?_
            first | refine VX.meek rfl ?_ | refine VX.loadI rfl rfl au_l ?_ | refine VX.loadP rfl rfl rfl au_l ?_
            refine VX.guardT rfl rfl hb15_5 ?_
            refine VX.meek rfl ?_
            refine VX.guardT rfl rfl hb15_5 ?_
            refine VX.meek rfl ?_
            refine VX.guardT rfl rfl hb15_5 ?_
            first | refine VX.meek rfl ?_ | refine VX.loadI rfl rfl au_l ?_ | refine VX.loadP rfl rfl rfl au_l ?_
            refine VX.guardT rfl rfl hb15_5 ?_
            refine VX.meek rfl ?_
            refine VX.guardT rfl rfl hb15_5 ?_
            refine VX.meek rfl ?_
            refine VX.pickA rfl (fun _ => rfl) ?_
            exact VX.nil ⟨rfl, rfl⟩
          · refine VX.guardF rfl rfl hb15_5 ?_
            refine VX.guardF rfl rfl hb15_5 ?_
            refine VX.guardF rfl rfl hb15_5 ?_
            refine VX.guardF rfl rfl hb15_5 ?_
            refine VX.guardF rfl rfl hb15_5 ?_
            refine VX.guardF rfl rfl hb15_5 ?_
            exact VX.pickA rfl (fun h => absurd (h.symm.trans hb15_5) (by decide)) (VX.nil ⟨rfl, rfl⟩)
        refine VX.nil ?_
        refine VC.cond rfl (fun hc4 => ?_) (fun hc4 => ?_)
        · exact absurd hc4 (by simp; omega)
        · (try simp only [au_std] at hc4)
          refine VC.skip ?_
          refine VC.drwS tab_ok [] [_, _, _, _, _] (_) rfl (by kernel_rfl) (by kernel_rfl) (by kernel_rfl) (seen_kill (b := 4) (seen_refl _) (Nat.le_of_ble_eq_true rfl)) ?_
          refine VS.seg (l1 := [_, _, _, _]) rfl ?_
          refine VX.meek rfl ?_
          first | refine VX.meek rfl ?_ | refine VX.loadI rfl rfl au_l ?_ | refine VX.loadP rfl rfl rfl au_l ?_
          refine VX.meek rfl ?_
          first | refine VX.meek rfl ?_ | refine VX.loadI rfl rfl au_l ?_ | refine VX.loadP rfl rfl rfl au_l ?_
          refine VX.nil ?_
          refine VS.sto rfl rfl rfl rfl ?_
          refine VS.nil (⟨rfl, Nat.le_of_ble_eq_true rfl, rfl, trivial⟩) ?_
          refine VX.meek rfl ?_
          refine VX.nil ?_
          refine VC.ret ?_
          exact ⟨trivial, _, rfl, Cv.tup (CvL.cons (Cv.agg (cv_mg hf2 (Cv.fom ⟨rfl, (by simp)⟩ (CvL.pure (pF m.F))) (Cv.fom ⟨rfl, (by simp)⟩ (CvL.pure (pW m.W))))) (CvL.cons (Cv.fslc0 ⟨rfl, (by simp)⟩ (CvL.pure (encL_pure _ _))) CvL.nil))⟩
      · exact absurd hc3 (by simp [hk])
theorem step3_t (m : Mg) (o : Ot) (hf2 : m.fresh = false) (h0 : o.kind ≠ 0) (h1 : o.kind ≠ 1) (h2 : o.kind ≠ 2)
    (X Y : T) (hpX : X.pure = true) (hpY : Y.pure = true) (hcX : cellB X = true) (hcY : cellB Y = true)
    (hcF : CallT Tryd.prog 58 [.om 0, X] [.o (mapP [] [])] (fun t H' => t = .tup [] ∧ ∃ p : OP, p.pi = true ∧ H' = [.o (mF m), .o p]))
    (hcW : CallT Tryd.prog 59 [.om 0, Y] [.o (mapP [] [])] (fun t H' => t = .tup [] ∧ ∃ p : OP, p.pi = true ∧ H' = [.o (mW m), .o p])) :
    CallP Tryd.prog 31 [.agg [.v (.int .u32 m.base), I64 m.cnt, I64 m.made, I64 m.w, I64 m.h, X, Y, BL m.on, I64 m.df, I64 m.dx, I64 m.dy], otT o] (.tup [mgT m, rqN []]) := by
  have hot := ot_pure o
  have hpF2 := piF m.F
  have hpW2 := piW m.W
  have hp3 := mpF_pure m
  have hp4 := mpW_pure m
  refine CallP.intro2 au_pu au_pu ?_
  refine CallT.intro tab_ok Tryd.func31 rfl (by kernel_rfl) (Nat.le_of_ble_eq_true rfl) ?_
  refine VC.reg tab_ok [2, 3] rfl ?_
  refine VX.newI rfl rfl ?_
  refine VX.newI rfl rfl ?_
  refine VX.new rfl rfl ?_
  refine VX.meek rfl ?_
  refine VX.nil ?_
  refine VC.reg tab_ok [] rfl ?_
  first | refine VX.meek rfl ?_ | refine VX.loadI rfl rfl au_l ?_ | refine VX.loadP rfl rfl rfl au_l ?_
  refine VX.meek rfl ?_
  refine VX.new rfl rfl ?_
  refine VX.store rfl rfl rfl rfl rfl (Nat.le_of_ble_eq_true rfl) (by show (true && (true && (true && (true && (true && (cellB X && (cellB Y && (true && (true && (true && (true && (true && true)))))))))))) = true; rw [hcX, hcY]; rfl) ?_
  refine VX.nil ?_
  refine VC.reg tab_ok [] rfl ?_
  refine VX.makeMap ?_
  refine VX.makeMap ?_
  iterate 2 refine VX.meek rfl ?_
  refine VX.store rfl rfl rfl rfl rfl au_s rfl ?_
  iterate 2 refine VX.meek rfl ?_
  refine VX.store rfl rfl rfl rfl rfl au_s rfl ?_
  refine VX.nil ?_
  refine VC.reg tab_ok [] rfl ?_
  iterate 2 refine VX.meek rfl ?_
  first | refine VX.meek rfl ?_ | refine VX.loadI rfl rfl au_l ?_ | refine VX.loadP rfl rfl rfl au_l ?_
  refine VX.meek rfl ?_
  first | refine VX.meek rfl ?_ | refine VX.loadI rfl rfl au_l ?_ | refine VX.loadP rfl rfl rfl au_l ?_
  refine VX.callT rfl rfl (CallT.frame (hcF) [2] rfl au_ci au_ci ?_)
  rintro _ _ ⟨rfl, p1, hp1, rfl⟩
  refine frK au_co au_co ?_
  refine VX.nil ?_
  refine VC.reg tab_ok [] rfl ?_
  iterate 2 refine VX.meek rfl ?_
  first | refine VX.meek rfl ?_ | refine VX.loadI rfl rfl au_l ?_ | refine VX.loadP rfl rfl rfl au_l ?_
  refine VX.meek rfl ?_
  first | refine VX.meek rfl ?_ | refine VX.loadI rfl rfl au_l ?_ | refine VX.loadP rfl rfl rfl au_l ?_
  refine VX.callT rfl rfl (CallT.frame (hcW) [3] rfl au_ci au_ci ?_)
  rintro _ _ ⟨rfl, p2, hp2, rfl⟩
  refine frK au_co au_co ?_
  refine VX.nil ?_
  refine VC.view ([(6, .ptr 0 0), (4, .ptr 4 0)]) ([.c (tnC m (askT 3 [])), .o (mF m), .o (mW m), .c (encL cRn []), .c zMg]) [3] rfl (by refine ⟨[some 1, some 2, some 3, none, some 0], rfl, by first | trivial | decide, by first | rfl | (simp only [noO, Bool.and_true, Bool.and_eq_true]; first | assumption | (refine ⟨?_, ?_⟩ <;> assumption)) | (simp only [noO, *, Bool.and_true, Bool.true_and, Bool.and_self]; done), ?_, ?_⟩ <;> (repeat' first | exact trivial | exact CvB_n | exact CvB_d | exact CvB_o rfl | refine CvE_app ?_ ?_ | refine CvE_cons rfl ?_ ?_ | refine CvH_cons ?_ ?_ | refine CvB_c rfl ?_ | fail) <;> first | exact au_v | (first | exact CvL.pure rfl | exact Cv.ptr rfl | exact CvL.cons (Cv.pure rfl) (CvL.cons (Cv.pure rfl) (CvL.cons (Cv.pure rfl) (CvL.cons (Cv.pure rfl) (CvL.cons (Cv.pure rfl) (CvL.cons (Cv.om rfl) (CvL.cons (Cv.om rfl) (CvL.cons (Cv.pure rfl) (CvL.cons (Cv.pure rfl) (CvL.cons (Cv.pure rfl) (CvL.cons (Cv.pure rfl) (CvL.cons (Cv.nilv rfl) CvL.nil))))))))))))) ?_
  refine VC.seq ?_
  refine VC.reg tab_ok [] rfl ?_
  refine VX.meek rfl ?_
  first | refine VX.meek rfl ?_ | refine VX.loadI rfl rfl au_l ?_ | refine VX.loadP rfl rfl rfl au_l ?_
  refine VX.nil ?_
  refine VC.block ?_
  refine VC.reg tab_ok [] rfl ?_
  iterate 2 refine VX.meek rfl ?_
  refine VX.nil ?_
  refine VC.cond rfl (fun hc0 => ?_) (fun hc0 => ?_)
  · exact absurd hc0 (by simp [h0])
  · (try simp only [au_std] at hc0)
    refine VC.reg tab_ok [] rfl ?_
    iterate 2 refine VX.meek rfl ?_
    refine VX.nil ?_
    refine VC.cond rfl (fun hc1 => ?_) (fun hc1 => ?_)
    · exact absurd hc1 (by simp [h1])
    · (try simp only [au_std] at hc1)
      refine VC.reg tab_ok [] rfl ?_
      iterate 2 refine VX.meek rfl ?_
      refine VX.nil ?_
      refine VC.cond rfl (fun hc3 => ?_) (fun hc3 => ?_)
      · exact absurd hc3 (by simp [h2])
      · (try simp only [au_std] at hc3)
        refine VC.skip ?_
        refine VC.drwS tab_ok [] [_, _, _, _, _] (_) rfl (by kernel_rfl) (by kernel_rfl) (by kernel_rfl) (seen_kill (b := 4) (seen_refl _) (Nat.le_of_ble_eq_true rfl)) ?_
        refine VS.seg (l1 := [_, _, _, _]) rfl ?_
        refine VX.meek rfl ?_
        first | refine VX.meek rfl ?_ | refine VX.loadI rfl rfl au_l ?_ | refine VX.loadP rfl rfl rfl au_l ?_
        refine VX.meek rfl ?_
        first | refine VX.meek rfl ?_ | refine VX.loadI rfl rfl au_l ?_ | refine VX.loadP rfl rfl rfl au_l ?_
        refine VX.nil ?_
        refine VS.sto rfl rfl rfl rfl ?_
        refine VS.nil (⟨rfl, Nat.le_of_ble_eq_true rfl, rfl, trivial⟩) ?_
        refine VX.meek rfl ?_
        refine VX.nil ?_
        refine VC.ret ?_
        exact ⟨trivial, _, rfl, Cv.tup (CvL.cons (Cv.agg (cv_mg hf2 (Cv.fom ⟨rfl, (by simp)⟩ (CvL.pure (pF m.F))) (Cv.fom ⟨rfl, (by simp)⟩ (CvL.pure (pW m.W))))) (CvL.cons (Cv.fslc0 ⟨rfl, (by simp)⟩ (CvL.pure (encL_pure _ _))) CvL.nil))⟩
end
section
open Go.RowKit
set_option maxRecDepth 10000
set_option maxHeartbeats 2000000
theorem answered_no (m : Mg) (o : Ot) (h9 : o.code ≠ 9) (h15 : o.code ≠ 15) :
    CallT Tryd.prog 62 [.ptr 0 0, otT o] (tnH m (mF m) (mW m) []) (fun t H' => t = .tup [] ∧ H' = tnH m (mF m) (mW m) []) := by
  have hpF := piF m.F
  have hpW := piW m.W
  have hpo := ot_pure o
  refine CallT.intro tab_ok Tryd.func62 rfl (by kernel_rfl) (Nat.le_of_ble_eq_true rfl) ?_
  refine VC.reg tab_ok [3] rfl ?_
  refine VX.newI rfl rfl ?_
  refine VX.nil ?_
  refine VC.reg tab_ok [] rfl ?_
  refine VX.meek rfl ?_
  first | refine VX.meek rfl ?_ | refine VX.loadI rfl rfl au_l ?_ | refine VX.loadP rfl rfl rfl au_l ?_
  refine VX.nil ?_
  refine VC.block ?_
  refine VC.reg tab_ok [] rfl ?_
  iterate 2 refine VX.meek rfl ?_
  refine VX.nil ?_
  refine VC.cond rfl (fun hc0 => ?_) (fun hc0 => ?_)
  · exact absurd hc0 (by simp [h9])
  · (try simp only [au_std] at hc0)
    refine VC.reg tab_ok [] rfl ?_
    iterate 2 refine VX.meek rfl ?_
    refine VX.nil ?_
    refine VC.cond rfl (fun hc2 => ?_) (fun hc2 => ?_)
    · exact absurd hc2 (by simp [h15])
    · (try simp only [au_std] at hc2)
      refine VC.skip ?_
      exact ⟨trivial, _, rfl, rfl, rfl⟩
/- what is done stays a manager that has maps -/
theorem fr_refused (m : Mg) (s : Int) : (m.refused s).fresh = m.fresh := by unfold Mg.refused; split <;> rfl
theorem fr_sized (m : Mg) (s w h : Int) : (m.sized s w h).fresh = m.fresh := by unfold Mg.sized; split <;> rfl
theorem fr_manage (m : Mg) (id : Int) (k : Wt) (row : List Int) : (m.manage id k row).1.fresh = m.fresh := by unfold Mg.manage; split; rfl; split <;> rfl
theorem fr_titled (m : Mg) (s : Int) (row : List Int) : (m.titled s row).1.fresh = m.fresh := by
  unfold Mg.titled
  split
  · rw [fr_manage]
  · rfl
theorem fr_ev (m : Mg) (c : Int) (n : List Int) : (m.ev c n).1.fresh = m.fresh := by
  unfold Mg.ev
  repeat' first
    | rfl
    | (unfold Mg.mapReq)
    | (unfold Mg.conf)
    | (unfold Mg.unmap)
    | (unfold Mg.destroy)
    | (unfold Mg.reparent)
    | (unfold Mg.expose)
    | (unfold Mg.press)
    | (unfold Mg.move)
    | split
theorem mp_cell (m : Mg) : cellB (mpF m) = true ∧ cellB (mpW m) = true := by
  unfold mpF mpW
  cases m.fresh <;> exact ⟨rfl, rfl⟩
theorem ev_look (c : Int) (h1 : c ≠ 17) (h2 : c ≠ 19) (h3 : c ≠ 16) (h4 : c ≠ 14) (h5 : c ≠ 20) (h6 : c ≠ 10) (h7 : c ≠ 3) (h8 : c ≠ 4) (h9 : c ≠ 5) : mLook2 tab 138 evsK evsT (.int .i64 c) false = some (.v .nilFunc) := by
  have e : mFind (.int .i64) (.int .i64 c) evsK evsT = none := by
    simp only [mFind, likeK, if_true, Option.some.injEq, beq_iff_eq]
    rw [if_neg (by omega), if_neg (by omega), if_neg (by omega), if_neg (by omega), if_neg (by omega), if_neg (by omega), if_neg (by omega), if_neg (by omega), if_neg (by omega)]
  have e2 : mLook2 tab 138 evsK evsT (.int .i64 c) false = (match mFind (.int .i64) (.int .i64 c) evsK evsT with | some r => some r | none => some (.v .nilFunc)) := rfl
  rw [e2, e]
theorem step_any (m : Mg) (o : Ot) (top : Int) (ok : m.Ok top) (htop : top ≤ 1000000) (few : o.Few) (hl : o.l.length ≤ 100000)
    (hcf : ∀ (M : Mg) (g : FuncId), M.Ok top → M.fresh = false → o.kind = 2 → o.code ≠ 17 → mLook2 tab 138 evsK evsT (.int .i64 o.code) false = some (.clo g [] []) → needsE o.code ≤ o.n.length →
      CallT Tryd.prog g ([] ++ [.ptr 0 0, cIf o.n] ++ []) (tnH M (mF M) (mW M) []) (fun t H' => t = .tup [] ∧ H' = ranH (M.ev o.code o.n).1 (M.ev o.code o.n).2 [])) :
    CallP Tryd.prog 31 [mgT m, otT o] (.tup [mgT (m.step o).1, rqN (m.step o).2]) := by
  obtain ⟨M, hM⟩ : ∃ M : Mg, M = { m with fresh := false } := ⟨_, rfl⟩
  have okM : M.Ok top := hM ▸ ok.stale
  have hfM : M.fresh = false := by rw [hM]
  have hX := mpF_pure m
  have hY := mpW_pure m
  have hc := mp_cell m
  have hcF := copyF_any m top ok
  have hcW := copyW_any m top ok
  rw [show mF m = mF M from by rw [hM]] at hcF
  rw [show mW m = mW M from by rw [hM]] at hcW
  have harg : mgT m = .agg [.v (.int .u32 M.base), I64 M.cnt, I64 M.made, I64 M.w, I64 M.h, mpF m, mpW m, BL M.on, I64 M.df, I64 M.dx, I64 M.dy] := by rw [hM]
  rw [harg]
  unfold Mg.step
  rw [← hM]
  dsimp only
  by_cases k0 : o.kind = 0
  · rw [if_pos k0]
    exact step0_t M o (M.refused o.seq) top okM ((fr_refused _ _).trans hfM) k0 _ _ hX hY hc.1 hc.2 hcF hcW (refused_t M o.seq top okM)
  rw [if_neg k0]
  by_cases k1 : o.kind = 1
  · rw [if_pos k1]
    obtain ⟨f, k, hrep, h9, h15⟩ := reply_any o.code
    by_cases hle : k = true ∧ f.fx.length ≤ o.n.length
    · obtain ⟨rfl, hle⟩ := hle
      by_cases c9 : o.code = 9
      · have hl9 := (h9 c9).2
        rw [if_pos ⟨c9, by omega⟩]
        exact step1a0_t M o (M.sized o.seq o.n[3]! o.n[4]!) f ((fr_sized _ _ _ _).trans hfM) k1 hrep hle (sized_t M o top okM c9 (by omega)) _ _ hX hY hc.1 hc.2 hcF hcW
      rw [if_neg (fun k => c9 k.1)]
      by_cases c15 : o.code = 15
      · have hl15 := (h15 c15).2
        rw [if_pos ⟨c15, by omega⟩]
        have ht := titled_t M o top okM hfM htop c15 hl
        have hfr := (fr_titled M o.seq o.l).trans hfM
        generalize M.titled o.seq o.l = r at *
        obtain ⟨m2, rs⟩ := r
        match rs, ht with
        | [], ht => exact step1a0_t M o m2 f hfr k1 hrep hle ht _ _ hX hY hc.1 hc.2 hcF hcW
        | [r1], ht => exact step1a1_t M o m2 f r1 hfr k1 hrep hle ht _ _ hX hY hc.1 hc.2 hcF hcW
        | r1 :: r2 :: rs, ht => exact step1a2_t M o m2 f r1 r2 rs hfr k1 hrep hle ht _ _ hX hY hc.1 hc.2 hcF hcW
      rw [if_neg (fun k => c15 k.1)]
      exact step1a0_t M o M f hfM k1 hrep hle (answered_no M o c9 c15) _ _ hX hY hc.1 hc.2 hcF hcW
    · have hr : (if o.code = 9 ∧ 7 ≤ o.n.length then (M.sized o.seq o.n[3]! o.n[4]!, []) else if o.code = 15 ∧ 3 ≤ o.n.length then M.titled o.seq o.l else (M, [])) = (M, ([] : List Rq)) := by
        rw [if_neg (fun k => hle ⟨(h9 k.1).1, by have := (h9 k.1).2; omega⟩), if_neg (fun k => hle ⟨(h15 k.1).1, by have := (h15 k.1).2; omega⟩)]
      rw [hr]
      exact step1b_t M o f k hfM k1 hrep hle _ _ hX hY hc.1 hc.2 hcF hcW
  rw [if_neg k1]
  by_cases k2 : o.kind = 2
  · rw [if_pos k2]
    obtain ⟨f, k, hev, hne⟩ := event_any o.code
    have fin : ∀ g : FuncId, needsE o.code ≠ 0 → mLook2 tab 138 evsK evsT (.int .i64 o.code) false = some (.clo g [] []) →
        (needsE o.code ≤ o.n.length → CallT Tryd.prog g ([] ++ [.ptr 0 0, cIf o.n] ++ []) (tnH M (mF M) (mW M) []) (fun t H' => t = .tup [] ∧ H' = ranH (M.ev o.code o.n).1 (M.ev o.code o.n).2 [])) →
        CallP Tryd.prog 31 [.agg [.v (.int .u32 M.base), I64 M.cnt, I64 M.made, I64 M.w, I64 M.h, mpF m, mpW m, BL M.on, I64 M.df, I64 M.dx, I64 M.dy], otT o]
          (.tup [mgT (if needsE o.code ≠ 0 ∧ needsE o.code ≤ o.n.length then M.ev o.code o.n else (M, [])).1, rqN (if needsE o.code ≠ 0 ∧ needsE o.code ≤ o.n.length then M.ev o.code o.n else (M, [])).2]) := by
      intro g hn0 hlk hact
      obtain ⟨rfl, hfl⟩ := hne hn0
      by_cases hle : needsE o.code ≤ o.n.length
      · rw [if_pos ⟨hn0, hle⟩]
        have ht := hact hle
        have hfr := (fr_ev M o.code o.n).trans hfM
        have hle' : f.fx.length ≤ o.n.length := by omega
        generalize M.ev o.code o.n = r at *
        obtain ⟨m2, rs⟩ := r
        match rs, ht with
        | [], ht => exact step2a0_t M o m2 f g hfr k2 hev hle' hlk ht _ _ hX hY hc.1 hc.2 hcF hcW
        | [r1], ht => exact step2a1_t M o m2 f g r1 hfr k2 hev hle' hlk ht _ _ hX hY hc.1 hc.2 hcF hcW
        | r1 :: r2 :: rs, ht => exact step2a2_t M o m2 f g r1 r2 rs hfr k2 hev hle' hlk ht _ _ hX hY hc.1 hc.2 hcF hcW
      · rw [if_neg (fun k => hle k.2)]
        exact step2c_t M o f g hfM k2 hev (by omega) hlk _ _ hX hY hc.1 hc.2 hcF hcW
    by_cases c1 : o.code = 17
    · refine fin _ (by rw [c1]; decide) (by rw [c1]; rfl) fun hle => ?_
      rw [c1] at hle ⊢
      exact mapReq_t M o.n top okM htop hle
    by_cases c2 : o.code = 19
    · have hlk : mLook2 tab 138 evsK evsT (.int .i64 o.code) false = some (.clo _ [] []) := (by rw [c2]; rfl)
      exact fin _ (by rw [c2]; decide) hlk fun hle => hcf M _ okM hfM k2 c1 hlk hle
    by_cases c3 : o.code = 16
    · have hlk : mLook2 tab 138 evsK evsT (.int .i64 o.code) false = some (.clo _ [] []) := (by rw [c3]; rfl)
      exact fin _ (by rw [c3]; decide) hlk fun hle => hcf M _ okM hfM k2 c1 hlk hle
    by_cases c4 : o.code = 14
    · have hlk : mLook2 tab 138 evsK evsT (.int .i64 o.code) false = some (.clo _ [] []) := (by rw [c4]; rfl)
      exact fin _ (by rw [c4]; decide) hlk fun hle => hcf M _ okM hfM k2 c1 hlk hle
    by_cases c5 : o.code = 20
    · have hlk : mLook2 tab 138 evsK evsT (.int .i64 o.code) false = some (.clo _ [] []) := (by rw [c5]; rfl)
      exact fin _ (by rw [c5]; decide) hlk fun hle => hcf M _ okM hfM k2 c1 hlk hle
    by_cases c6 : o.code = 10
    · have hlk : mLook2 tab 138 evsK evsT (.int .i64 o.code) false = some (.clo _ [] []) := (by rw [c6]; rfl)
      exact fin _ (by rw [c6]; decide) hlk fun hle => hcf M _ okM hfM k2 c1 hlk hle
    by_cases c7 : o.code = 3
    · have hlk : mLook2 tab 138 evsK evsT (.int .i64 o.code) false = some (.clo _ [] []) := (by rw [c7]; rfl)
      exact fin _ (by rw [c7]; decide) hlk fun hle => hcf M _ okM hfM k2 c1 hlk hle
    by_cases c8 : o.code = 4
    · have hlk : mLook2 tab 138 evsK evsT (.int .i64 o.code) false = some (.clo _ [] []) := (by rw [c8]; rfl)
      exact fin _ (by rw [c8]; decide) hlk fun hle => hcf M _ okM hfM k2 c1 hlk hle
    by_cases c9 : o.code = 5
    · have hlk : mLook2 tab 138 evsK evsT (.int .i64 o.code) false = some (.clo _ [] []) := (by rw [c9]; rfl)
      exact fin _ (by rw [c9]; decide) hlk fun hle => hcf M _ okM hfM k2 c1 hlk hle
    have hn0 : needsE o.code = 0 := by unfold needsE; rw [if_neg c1, if_neg c2, if_neg c3, if_neg c4, if_neg c5, if_neg c6, if_neg c7, if_neg c8, if_neg c9]
    rw [if_neg (fun k => k.1 hn0)]
    exact step2b_t M o f k hfM k2 hev (ev_look _ c1 c2 c3 c4 c5 c6 c7 c8 c9) _ _ hX hY hc.1 hc.2 hcF hcW
  rw [if_neg k2]
  exact step3_t M o hfM k0 k1 k2 _ _ hX hY hc.1 hc.2 hcF hcW
end
section
open Go.RowKit
set_option maxRecDepth 10000
set_option maxHeartbeats 2000000
theorem mpF_eq {m : Mg} (hf : m.fresh = false) : mpF m = .mp (kF m.F) (tF m.F) := if_neg (by rw [hf]; simp)
theorem frame_of (m : Mg) (top : Int) (ok : m.Ok top) (htop : top ≤ 1000000) (hf : m.fresh = false) (id : Int) (hid : 0 ≤ id ∧ id < 4294967296) : CallP Tryd.prog 33 [mgT m, .v (.int .u32 id)] (.tup [.v (.int .u32 (lkF m.F id).1.fr), BL (lkF m.F id).2]) := by
  have hlk := lookF ok.fk id true
  have hp3 := mpF_pure m
  have hp4 := mpW_pure m
  have hpF := pF m.F
  have hfr : 0 ≤ (lkF m.F id).1.fr ∧ (lkF m.F id).1.fr < 4294967296 := by
    have hb := ok.base
    have hc := ok.cnt
    have hl := ok.lens
    cases h : posK m.F id with
    | none => rw [lkF_none h]; exact ⟨by decide, by decide⟩
    | some i =>
      obtain ⟨v, he⟩ := posK_some h
      rw [lkF_some h he]
      have := ok.fr _ (mem_at he)
      dsimp only at *
      exact ⟨by omega, by omega⟩
  generalize lkF m.F id = r at *
  refine CallP.intro2 au_pu au_pu ?_
  refine CallT.intro tab_ok Tryd.func33 rfl (by kernel_rfl) (Nat.le_of_ble_eq_true rfl) ?_
  refine VC.reg tab_ok [2] rfl ?_
  refine VX.newI rfl rfl ?_
  iterate 2 refine VX.meek rfl ?_
  refine VX.nil ?_
  refine VC.reg tab_ok [] rfl ?_
  refine VX.meek rfl ?_
  first | refine VX.meek rfl ?_ | refine VX.loadI rfl rfl au_l ?_ | refine VX.loadP rfl rfl rfl au_l ?_
  refine VX.meek rfl ?_
  refine VX.meek (t := I64 id) (by show some (T.v (.int .i64 (IntKind.i64.wrap id)), (none : Option (Nat × List T))) = _; rw [wrap_in (by omega)]) ?_
  refine VX.meek (t := .tup [frT r.1, BL r.2]) (opM_look (by show some (mpF m) = _; rw [mpF_eq hf]) rfl hlk) ?_
  iterate 3 refine VX.meek rfl ?_
  refine VX.new rfl rfl ?_
  refine VX.store rfl rfl rfl rfl rfl au_s rfl ?_
  refine VX.meek rfl ?_
  refine VX.nil ?_
  refine VC.reg tab_ok [] rfl ?_
  refine VX.meek rfl ?_
  first | refine VX.meek rfl ?_ | refine VX.loadI rfl rfl au_l ?_ | refine VX.loadP rfl rfl rfl au_l ?_
  refine VX.meek (t := .v (.int .u32 r.1.fr)) (by show some (T.v (.int .u32 (IntKind.u32.wrap r.1.fr)), (none : Option (Nat × List T))) = _; rw [u32_in hfr]) ?_
  iterate 3 refine VX.meek rfl ?_
  refine VX.nil ?_
  refine VC.ret ?_
  exact ⟨trivial, _, rfl, Cv.eq (by first | rfl | (simp [*]; done)) rfl⟩
theorem title_of (m : Mg) (top : Int) (ok : m.Ok top) (hf : m.fresh = false) (id : Int) (hid : 0 ≤ id ∧ id < 4294967296) : CallP Tryd.prog 51 [mgT m, .v (.int .u32 id)] (strT (lkF m.F id).1.title) := by
  have hlk := lookF ok.fk id false
  have hp3 := mpF_pure m
  have hp4 := mpW_pure m
  have hpF := pF m.F
  generalize lkF m.F id = r at *
  refine CallP.intro2 au_pu au_pu ?_
  refine CallT.intro tab_ok Tryd.func51 rfl (by kernel_rfl) (Nat.le_of_ble_eq_true rfl) ?_
  refine VC.reg tab_ok [2] rfl ?_
  refine VX.newI rfl rfl ?_
  refine VX.meek rfl ?_
  refine VX.nil ?_
  refine VC.reg tab_ok [] rfl ?_
  refine VX.meek rfl ?_
  first | refine VX.meek rfl ?_ | refine VX.loadI rfl rfl au_l ?_ | refine VX.loadP rfl rfl rfl au_l ?_
  refine VX.meek rfl ?_
  refine VX.meek (t := I64 id) (by show some (T.v (.int .i64 (IntKind.i64.wrap id)), (none : Option (Nat × List T))) = _; rw [wrap_in (by omega)]) ?_
  refine VX.meek (t := frT r.1) (opM_look (by show some (mpF m) = _; rw [mpF_eq hf]) rfl hlk) ?_
  iterate 2 refine VX.meek rfl ?_
  refine VX.nil ?_
  refine VC.ret ?_
  exact ⟨trivial, _, rfl, Cv.eq (by first | rfl | (simp [*]; done)) rfl⟩
theorem mg_cell (m : Mg) : (flat (mgT m)).all cellB = true := by
  have hc := mp_cell m
  show (true && (true && (true && (true && (true && (cellB (mpF m) && (cellB (mpW m) && (true && (true && (true && (true && true))))))))))) = true
  rw [hc.1, hc.2]; rfl
/- the example -/
abbrev awo1 : Ot := ⟨2, 17, 0, [1, 2097153], [], []⟩
abbrev awo2 : Ot := ⟨1, 9, 5, [1, 0, 0, 20, 10, 0, 0], [], []⟩
abbrev awo3 : Ot := ⟨1, 15, 6, [4, 8, 0], [], [97]⟩
def aw0 : Mg := newMg 1 60 40
def aw1 : Mg := (aw0.step awo1).1
def aw2 : Mg := (aw1.step awo2).1
def aw3 : Mg := (aw2.step awo3).1
theorem few_list {l : List Int} (h : l.all (fun v => decide (-2147483648 ≤ v) && decide (v ≤ 2147483647)) = true) : ∀ v ∈ l, r32 v := fun v hv => by
  have := List.all_eq_true.1 h v hv
  simpa [r32] using this
theorem awake58_p : CallP Tryd.prog 26 [] (BL true) := by
  have ok0 : aw0.Ok 4 := newMg_ok 1 60 40 (by decide) (by decide) (by decide) (by decide) (by decide) (by decide)
  have f1 : awo1.Few := ⟨few_list (by decide), few_list (by decide), by decide⟩
  have f2 : awo2.Few := ⟨few_list (by decide), few_list (by decide), by decide⟩
  have f3 : awo3.Few := ⟨few_list (by decide), few_list (by decide), by decide⟩
  have ok1 : aw1.Ok 11 := ok0.step awo1 f1 (by decide)
  have ok2 : aw2.Ok 18 := ok1.step awo2 f2 (by decide)
  have ok3 : aw3.Ok 25 := ok2.step awo3 f3 (by decide)
  have hnew : CallP Tryd.prog 30 [I64 1, I64 60, I64 40] (.tup [mgT aw0, .islc (encL cRn (newL 1048576)) 4 none, I64 0]) := mnew_p 1 60 40 (by decide) (by decide) (by decide) (by decide) (by decide) (by decide)
  have s1 : CallP Tryd.prog 31 [mgT aw0, otT awo1] (.tup [mgT aw1, rqN [rq 9 [2097153], rq 15 [2097153, 8, 0, 0, 64, 0]]]) := by
    have := step_any aw0 awo1 4 ok0 (by decide) f1 (by decide) fun M g _ _ _ h => absurd rfl h
    rw [show (aw0.step awo1).2 = [rq 9 [2097153], rq 15 [2097153, 8, 0, 0, 64, 0]] from by decide +kernel] at this
    exact this
  have s2 : CallP Tryd.prog 31 [mgT aw1, otT awo2] (.tup [mgT aw2, rqN []]) := by
    have := step_any aw1 awo2 11 ok1 (by decide) f2 (by decide) fun M g _ _ k => absurd k (by decide)
    rw [show (aw1.step awo2).2 = [] from by decide +kernel] at this
    exact this
  obtain ⟨L, hL⟩ : ∃ L, L = [rq 1 [1048586, 1, 0, 0, 22, 20, 200, 1, 1], rq 7 [1048586, 32, 0, 0, 0, 0, 0, 3356], rq 54 [2097153, 1], rq 6 [2097153, 1048586, 1, 9], rq 3 [2097153], rq 3 [1048586], ⟨36, [1048586, 1048577, 1, 7, 1], [97], []⟩] := ⟨_, rfl⟩
  have s3 : CallP Tryd.prog 31 [mgT aw2, otT awo3] (.tup [mgT aw3, .islc (encL cRn (rq 1 [1048586, 1, 0, 0, 22, 20, 200, 1, 1] :: L.tail)) 7 none]) := by
    have := step_any aw2 awo3 18 ok2 (by decide) f3 (by decide) fun M g _ _ k => absurd k (by decide)
    rw [show (aw2.step awo3).2 = rq 1 [1048586, 1, 0, 0, 22, 20, 200, 1, 1] :: L.tail from by rw [hL]; decide +kernel] at this
    rw [show rqN (rq 1 [1048586, 1, 0, 0, 22, 20, 200, 1, 1] :: L.tail) = .islc (encL cRn (rq 1 [1048586, 1, 0, 0, 22, 20, 200, 1, 1] :: L.tail)) 7 none from by rw [hL]; rfl] at this
    exact this
  have hpl : T.pureL (encL cRn L.tail) = true := encL_pure _ _
  have hfr : CallP Tryd.prog 33 [mgT aw3, .v (.int .u32 2097153)] (.tup [.v (.int .u32 1048586), BL true]) := by
    have := frame_of aw3 25 ok3 (by decide) (by decide +kernel) 2097153 (by decide)
    rw [show lkF aw3.F 2097153 = (⟨1048586, 20, 10, [97]⟩, true) from by decide +kernel] at this
    exact this
  have hti : CallP Tryd.prog 51 [mgT aw3, .v (.int .u32 2097153)] (strT [97]) := by
    have := title_of aw3 25 ok3 (by decide +kernel) 2097153 (by decide)
    rw [show lkF aw3.F 2097153 = (⟨1048586, 20, 10, [97]⟩, true) from by decide +kernel] at this
    exact this
  have c0 := mg_cell aw0
  have c1 := mg_cell aw1
  have c2 := mg_cell aw2
  have c3 := mg_cell aw3
  have p0 := mpF_pure aw0
  have p1 := mpF_pure aw1
  have p2 := mpF_pure aw2
  have p3 := mpF_pure aw3
  have q0 := mpW_pure aw0
  have q1 := mpW_pure aw1
  have q2 := mpW_pure aw2
  have q3 := mpW_pure aw3
  generalize aw0 = A0 at *
  generalize aw1 = A1 at *
  generalize aw2 = A2 at *
  generalize aw3 = A3 at *
  generalize newL 1048576 = N0 at *
  generalize L.tail = LT at *
  clear hL
  refine CallP.intro2 au_pu au_pu ?_
  refine CallT.intro tab_ok Tryd.func26 rfl (by kernel_rfl) (Nat.le_of_ble_eq_true rfl) ?_
  refine VC.reg tab_ok [] rfl ?_
  refine VX.meek rfl ?_
  refine VX.nil ?_
  refine VC.reg tab_ok [] rfl ?_
  refine VX.callP0 rfl rfl rfl (hnew) ?_
  iterate 4 refine VX.meek rfl ?_
  refine VX.new rfl rfl ?_
  refine VX.store rfl rfl rfl rfl rfl (Nat.le_of_ble_eq_true rfl) c0 ?_
  iterate 2 refine VX.meek rfl ?_
  refine VX.nil ?_
  refine VC.reg tab_ok [16] rfl ?_
  refine VX.meek (t := mgT A0) rfl ?_
  refine VX.newI rfl rfl ?_
  refine VX.meek (t := .agg [I64 2, I64 17, I64 0, .islc (encL cI [1, 2097153]) 2 (some 2), strT [], NIL]) rfl ?_
  refine VX.callP rfl rfl (s1) au_wk au_pu ?_
  iterate 3 refine VX.meek rfl ?_
  refine VX.store rfl rfl rfl rfl rfl (Nat.le_of_ble_eq_true rfl) c1 ?_
  refine VX.meek rfl ?_
  refine VX.nil ?_
  refine VC.view ([(1, .ptr 0 0)]) ([.c (mgC A1)]) [2, 3, 4] rfl (by refine ⟨[some 0], rfl, by first | trivial | decide, by first | rfl | (simp only [noO, Bool.and_true, Bool.and_eq_true]; first | assumption | (refine ⟨?_, ?_⟩ <;> assumption)) | (simp only [noO, *, Bool.and_true, Bool.true_and, Bool.and_self]; done), ?_, ?_⟩ <;> (repeat' first | exact trivial | exact CvB_n | exact CvB_d | exact CvB_o rfl | refine CvE_app ?_ ?_ | refine CvE_cons rfl ?_ ?_ | refine CvH_cons ?_ ?_ | refine CvB_c rfl ?_ | fail) <;> first | exact au_v | (exact CvL.eq rfl (mg_pure _))) ?_
  refine VC.reg tab_ok [23] rfl ?_
  refine VX.meek (t := mgT A1) rfl ?_
  refine VX.newI rfl rfl ?_
  refine VX.meek (t := .agg [I64 1, I64 9, I64 5, .islc (encL cI [1, 0, 0, 20, 10, 0, 0]) 7 (some 7), strT [], NIL]) rfl ?_
  refine VX.callP rfl rfl (s2) au_wk au_pu ?_
  iterate 3 refine VX.meek rfl ?_
  refine VX.store rfl rfl rfl rfl rfl (Nat.le_of_ble_eq_true rfl) c2 ?_
  refine VX.meek rfl ?_
  refine VX.nil ?_
  refine VC.view ([(1, .ptr 0 0)]) ([.c (mgC A2)]) [2, 3, 4, 5] rfl (by refine ⟨[some 0], rfl, by first | trivial | decide, by first | rfl | (simp only [noO, Bool.and_true, Bool.and_eq_true]; first | assumption | (refine ⟨?_, ?_⟩ <;> assumption)) | (simp only [noO, *, Bool.and_true, Bool.true_and, Bool.and_self]; done), ?_, ?_⟩ <;> (repeat' first | exact trivial | exact CvB_n | exact CvB_d | exact CvB_o rfl | refine CvE_app ?_ ?_ | refine CvE_cons rfl ?_ ?_ | refine CvH_cons ?_ ?_ | refine CvB_c rfl ?_ | fail) <;> first | exact au_v | (exact CvL.eq rfl (mg_pure _))) ?_
  refine VC.reg tab_ok [30, 31] rfl ?_
  refine VX.meek (t := mgT A2) rfl ?_
  refine VX.newI rfl rfl ?_
  refine VX.newI rfl rfl ?_
  refine VX.meek (t := .agg [I64 1, I64 15, I64 6, .islc (encL cI [4, 8, 0]) 3 (some 3), strT [], .islc (encL cI [97]) 1 (some 1)]) rfl ?_
  refine VX.callP rfl rfl (s3) au_wk au_pu ?_
  iterate 3 refine VX.meek rfl ?_
  refine VX.store rfl rfl rfl rfl rfl (Nat.le_of_ble_eq_true rfl) c3 ?_
  refine VX.meek rfl ?_
  refine VX.nil ?_
  refine VC.view ([(1, .iptr (mgC A3) 0)]) ([]) [2, 3, 4, 5, 6] rfl (by refine ⟨[], rfl, by first | trivial | decide, by first | rfl | (simp only [noO, Bool.and_true, Bool.and_eq_true]; first | assumption | (refine ⟨?_, ?_⟩ <;> assumption)) | (simp only [noO, *, Bool.and_true, Bool.true_and, Bool.and_self]; done), ?_, ?_⟩ <;> (repeat' first | exact trivial | exact CvB_n | exact CvB_d | exact CvB_o rfl | refine CvE_app ?_ ?_ | refine CvE_cons rfl ?_ ?_ | refine CvH_cons ?_ ?_ | refine CvB_c rfl ?_ | fail) <;> first | exact au_v | (exact Cv.fptr ⟨rfl, (by simp)⟩ (CvL.eq rfl (mg_pure _)))) ?_
  refine VC.reg tab_ok [] rfl ?_
  first | refine VX.meek rfl ?_ | refine VX.loadI rfl rfl au_l ?_ | refine VX.loadP rfl rfl rfl au_l ?_
  refine VX.callP0 rfl rfl rfl (hfr) ?_
  iterate 5 refine VX.meek rfl ?_
  refine VX.nil ?_
  refine VC.reg tab_ok [] rfl ?_
  iterate 3 refine VX.meek rfl ?_
  refine' VX.merge (d := 47) [_, _, _, _] rfl ?_ rfl ?_
  rotate_left
  · refine VX.guard rfl rfl (fun hb6_2 => ?_) (fun hb6_2 => ?_)
    · have ghb6_2 := hb6_2
      try simp only [au_std, Bool.not_true, Bool.not_false] at ghb6_2
      refine VX.meek rfl ?_
      refine VX.guardT rfl rfl hb6_2 ?_
      refine VX.meek rfl ?_
      refine VX.guardT rfl rfl hb6_2 ?_
      refine VX.meek rfl ?_
      refine VX.pickA rfl (fun _ => rfl) ?_
      exact VX.nil ⟨rfl, rfl⟩
    · refine VX.guardF rfl rfl hb6_2 ?_
      refine VX.guardF rfl rfl hb6_2 ?_
      exact VX.pickA rfl (fun h => absurd (h.symm.trans hb6_2) (by decide)) (VX.nil ⟨rfl, rfl⟩)
  refine VX.meek rfl ?_
  refine' VX.merge (d := 52) [_, _, _, _] rfl ?_ rfl ?_
  rotate_left
  · refine VX.guard rfl rfl (fun hb6_7 => ?_) (fun hb6_7 => ?_)
    · have ghb6_7 := hb6_7
      try simp only [au_std, Bool.not_true, Bool.not_false] at ghb6_7
      refine VX.meek rfl ?_
      refine VX.guardT rfl rfl hb6_7 ?_
      refine VX.meek rfl ?_
      refine VX.guardT rfl rfl hb6_7 ?_
      refine VX.meek rfl ?_
      refine VX.pickA rfl (fun _ => rfl) ?_
      exact VX.nil ⟨rfl, rfl⟩
    · refine VX.guardF rfl rfl hb6_7 ?_
      refine VX.guardF rfl rfl hb6_7 ?_
      exact VX.pickA rfl (fun h => absurd (h.symm.trans hb6_7) (by decide)) (VX.nil ⟨rfl, rfl⟩)
  refine VX.meek rfl ?_
  refine' VX.merge (d := 57) [_, _, _, _] rfl ?_ rfl ?_
  rotate_left
  · refine VX.guard rfl rfl (fun hb6_12 => ?_) (fun hb6_12 => ?_)
    · have ghb6_12 := hb6_12
      try simp only [au_std, Bool.not_true, Bool.not_false] at ghb6_12
      refine VX.meek rfl ?_
      refine VX.guardT rfl rfl hb6_12 ?_
      refine VX.meek rfl ?_
      refine VX.guardT rfl rfl hb6_12 ?_
      refine VX.meek rfl ?_
      refine VX.pickA rfl (fun _ => rfl) ?_
      exact VX.nil ⟨rfl, rfl⟩
    · refine VX.guardF rfl rfl hb6_12 ?_
      refine VX.guardF rfl rfl hb6_12 ?_
      exact VX.pickA rfl (fun h => absurd (h.symm.trans hb6_12) (by decide)) (VX.nil ⟨rfl, rfl⟩)
  refine VX.meek rfl ?_
  refine' VX.merge (d := 62) [_, _, _, _] rfl ?_ rfl ?_
  rotate_left
  · refine VX.guard rfl rfl (fun hb6_17 => ?_) (fun hb6_17 => ?_)
    · have ghb6_17 := hb6_17
      try simp only [au_std, Bool.not_true, Bool.not_false] at ghb6_17
      refine VX.meek rfl ?_
      refine VX.guardT rfl rfl hb6_17 ?_
      refine VX.meek rfl ?_
      refine VX.guardT rfl rfl hb6_17 ?_
      refine VX.meek rfl ?_
      refine VX.pickA rfl (fun _ => rfl) ?_
      exact VX.nil ⟨rfl, rfl⟩
    · refine VX.guardF rfl rfl hb6_17 ?_
      refine VX.guardF rfl rfl hb6_17 ?_
      exact VX.pickA rfl (fun h => absurd (h.symm.trans hb6_17) (by decide)) (VX.nil ⟨rfl, rfl⟩)
  refine VX.meek rfl ?_
  refine' VX.merge (d := 65) [_, _] rfl ?_ rfl ?_
  rotate_left
  · refine VX.guard rfl rfl (fun hb6_22 => ?_) (fun hb6_22 => ?_)
    · have ghb6_22 := hb6_22
      try simp only [au_std, Bool.not_true, Bool.not_false] at ghb6_22
      refine VX.meek rfl ?_
      refine VX.pickA rfl (fun _ => rfl) ?_
      exact VX.nil ⟨rfl, rfl⟩
    · exact VX.pickA rfl (fun h => absurd (h.symm.trans hb6_22) (by decide)) (VX.nil ⟨rfl, rfl⟩)
  refine VX.meek rfl ?_
  refine' VX.merge (d := 69) [_, _, _] rfl ?_ rfl ?_
  rotate_left
  · refine VX.guard rfl rfl (fun hb6_25 => ?_) (fun hb6_25 => ?_)
    · have ghb6_25 := hb6_25
      try simp only [au_std, Bool.not_true, Bool.not_false] at ghb6_25
      refine VX.meek rfl ?_
      refine VX.guardT rfl rfl hb6_25 ?_
      refine VX.meek rfl ?_
      refine VX.pickA rfl (fun _ => rfl) ?_
      exact VX.nil ⟨rfl, rfl⟩
    · refine VX.guardF rfl rfl hb6_25 ?_
      exact VX.pickA rfl (fun h => absurd (h.symm.trans hb6_25) (by decide)) (VX.nil ⟨rfl, rfl⟩)
  refine VX.meek rfl ?_
  refine' VX.merge (d := 74) [_, _, _, _] rfl ?_ rfl ?_
  rotate_left
  · refine VX.guard rfl rfl (fun hb6_29 => ?_) (fun hb6_29 => ?_)
    · have ghb6_29 := hb6_29
      try simp only [au_std, Bool.not_true, Bool.not_false] at ghb6_29
      first | refine VX.meek rfl ?_ | refine VX.loadI rfl rfl au_l ?_ | refine VX.loadP rfl rfl rfl au_l ?_
      refine VX.guardT rfl rfl hb6_29 ?_
      refine VX.callP0 rfl rfl rfl (hti) ?_
      refine VX.guardT rfl rfl hb6_29 ?_
      refine VX.meek rfl ?_
      refine VX.pickA rfl (fun _ => rfl) ?_
      exact VX.nil ⟨rfl, rfl⟩
    · refine VX.guardF rfl rfl hb6_29 ?_
      refine VX.guardF rfl rfl hb6_29 ?_
      exact VX.pickA rfl (fun h => absurd (h.symm.trans hb6_29) (by decide)) (VX.nil ⟨rfl, rfl⟩)
  refine VX.meek rfl ?_
  refine' VX.merge (d := 82) [_, _, _, _, _, _, _] rfl ?_ rfl ?_
  rotate_left
  · refine VX.guard rfl rfl (fun hb6_34 => ?_) (fun hb6_34 => ?_)
    · have ghb6_34 := hb6_34
      try simp only [au_std, Bool.not_true, Bool.not_false] at ghb6_34
      refine VX.meek rfl ?_
      refine VX.guardT rfl rfl hb6_34 ?_
      first | refine VX.idxI (m := 0) rfl rfl rfl rfl rfl rfl (by omega) ?_ | refine VX.idxO (m := 0) rfl rfl rfl rfl rfl rfl rfl (by omega) ?_ | refine VX.meek rfl ?_
      refine VX.guardT rfl rfl hb6_34 ?_
      refine VX.meek rfl ?_
      refine VX.guardT rfl rfl hb6_34 ?_
      first | refine VX.meek rfl ?_ | refine VX.loadI rfl rfl au_l ?_ | refine VX.loadP rfl rfl rfl au_l ?_
      refine VX.guardT rfl rfl hb6_34 ?_
      refine VX.meek rfl ?_
      refine VX.guardT rfl rfl hb6_34 ?_
      refine VX.meek rfl ?_
      refine VX.pickA rfl (fun _ => rfl) ?_
      exact VX.nil ⟨rfl, rfl⟩
    · refine VX.guardF rfl rfl hb6_34 ?_
      refine VX.guardF rfl rfl hb6_34 ?_
      refine VX.guardF rfl rfl hb6_34 ?_
      refine VX.guardF rfl rfl hb6_34 ?_
      refine VX.guardF rfl rfl hb6_34 ?_
      exact VX.pickA rfl (fun h => absurd (h.symm.trans hb6_34) (by decide)) (VX.nil ⟨rfl, rfl⟩)
  refine VX.meek rfl ?_
  refine' VX.merge (d := 91) [_, _, _, _, _, _, _, _] rfl ?_ rfl ?_
  rotate_left
  · refine VX.guard rfl rfl (fun hb6_42 => ?_) (fun hb6_42 => ?_)
    · have ghb6_42 := hb6_42
      try simp only [au_std, Bool.not_true, Bool.not_false] at ghb6_42
      refine VX.meek rfl ?_
      refine VX.guardT rfl rfl hb6_42 ?_
      first | refine VX.idxI (m := 0) rfl rfl rfl rfl rfl rfl (by omega) ?_ | refine VX.idxO (m := 0) rfl rfl rfl rfl rfl rfl rfl (by omega) ?_ | refine VX.meek rfl ?_
      refine VX.guardT rfl rfl hb6_42 ?_
      refine VX.meek rfl ?_
      refine VX.guardT rfl rfl hb6_42 ?_
      first | refine VX.meek rfl ?_ | refine VX.loadI rfl rfl au_l ?_ | refine VX.loadP rfl rfl rfl au_l ?_
      refine VX.guardT rfl rfl hb6_42 ?_
      first | refine VX.idxI rfl rfl rfl rfl rfl rfl (by omega) ?_ | refine VX.idxO0 rfl rfl rfl rfl rfl rfl rfl (by omega) ?_ | refine VX.idxO0 rfl rfl rfl rfl rfl rfl au_z (by omega) ?_ | refine VX.idxO rfl rfl rfl rfl rfl rfl rfl (by omega) ?_ | refine VX.idxI rfl rfl rfl rfl rfl au_z (by omega) ?_ | refine VX.idxO rfl rfl rfl rfl rfl rfl au_z (by omega) ?_ | refine VX.meek rfl ?_
      refine VX.guardT rfl rfl hb6_42 ?_
      first | refine VX.meek rfl ?_ | refine VX.loadI rfl rfl au_l ?_ | refine VX.loadP rfl rfl rfl au_l ?_
      refine VX.guardT rfl rfl hb6_42 ?_
      refine VX.meek rfl ?_
      refine VX.pickA rfl (fun _ => rfl) ?_
      exact VX.nil ⟨rfl, rfl⟩
    · refine VX.guardF rfl rfl hb6_42 ?_
      refine VX.guardF rfl rfl hb6_42 ?_
      refine VX.guardF rfl rfl hb6_42 ?_
      refine VX.guardF rfl rfl hb6_42 ?_
      refine VX.guardF rfl rfl hb6_42 ?_
      refine VX.guardF rfl rfl hb6_42 ?_
      exact VX.pickA rfl (fun h => absurd (h.symm.trans hb6_42) (by decide)) (VX.nil ⟨rfl, rfl⟩)
  refine VX.meek rfl ?_
  refine' VX.merge (d := 100) [_, _, _, _, _, _, _, _] rfl ?_ rfl ?_
  rotate_left
  · refine VX.guard rfl rfl (fun hb6_51 => ?_) (fun hb6_51 => ?_)
    · have ghb6_51 := hb6_51
      try simp only [au_std, Bool.not_true, Bool.not_false] at ghb6_51
      refine VX.meek rfl ?_
      refine VX.guardT rfl rfl hb6_51 ?_
      first | refine VX.idxI (m := 0) rfl rfl rfl rfl rfl rfl (by omega) ?_ | refine VX.idxO (m := 0) rfl rfl rfl rfl rfl rfl rfl (by omega) ?_ | refine VX.meek rfl ?_
      refine VX.guardT rfl rfl hb6_51 ?_
      refine VX.meek rfl ?_
      refine VX.guardT rfl rfl hb6_51 ?_
      first | refine VX.meek rfl ?_ | refine VX.loadI rfl rfl au_l ?_ | refine VX.loadP rfl rfl rfl au_l ?_
      refine VX.guardT rfl rfl hb6_51 ?_
      first | refine VX.idxI rfl rfl rfl rfl rfl rfl (by omega) ?_ | refine VX.idxO0 rfl rfl rfl rfl rfl rfl rfl (by omega) ?_ | refine VX.idxO0 rfl rfl rfl rfl rfl rfl au_z (by omega) ?_ | refine VX.idxO rfl rfl rfl rfl rfl rfl rfl (by omega) ?_ | refine VX.idxI rfl rfl rfl rfl rfl au_z (by omega) ?_ | refine VX.idxO rfl rfl rfl rfl rfl rfl au_z (by omega) ?_ | refine VX.meek rfl ?_
      refine VX.guardT rfl rfl hb6_51 ?_
      first | refine VX.meek rfl ?_ | refine VX.loadI rfl rfl au_l ?_ | refine VX.loadP rfl rfl rfl au_l ?_
      refine VX.guardT rfl rfl hb6_51 ?_
      refine VX.meek rfl ?_
      refine VX.pickA rfl (fun _ => rfl) ?_
      exact VX.nil ⟨rfl, rfl⟩
    · refine VX.guardF rfl rfl hb6_51 ?_
      refine VX.guardF rfl rfl hb6_51 ?_
      refine VX.guardF rfl rfl hb6_51 ?_
      refine VX.guardF rfl rfl hb6_51 ?_
      refine VX.guardF rfl rfl hb6_51 ?_
      refine VX.guardF rfl rfl hb6_51 ?_
      exact VX.pickA rfl (fun h => absurd (h.symm.trans hb6_51) (by decide)) (VX.nil ⟨rfl, rfl⟩)
  refine VX.meek rfl ?_
  refine VX.nil ?_
  refine VC.ret ?_
  exact ⟨trivial, _, rfl, Cv.eq (by simp [rq]) rfl⟩
end
section
open Go.RowKit
set_option maxRecDepth 10000
set_option maxHeartbeats 1000000

end
section
open Go.RowKit
set_option maxRecDepth 10000
set_option maxHeartbeats 1000000
abbrev U32 (n : Int) : T := .v (.int .u32 n)
end
section
open Go.RowKit
abbrev shU : Sh := .int .u8
abbrev shU32 : Sh := .int .u32
def i64 (n : Int) : Prop := -9223372036854775808 ≤ n ∧ n ≤ 9223372036854775807
theorem lit_u8 {n : Int} (h : (Lit.int .u8 n).wf = true) : 0 ≤ n ∧ n < 256 := by
  simp [Lit.wf, IntKind.min, IntKind.max, IntKind.signed, IntKind.bits] at h
  omega
theorem lit_u32 {n : Int} (h : (Lit.int .u32 n).wf = true) : 0 ≤ n ∧ n < 4294967296 := by
  simp [Lit.wf, IntKind.min, IntKind.max, IntKind.signed, IntKind.bits] at h
  omega
theorem wt_u8 {ts : List T} (h : shU.wt ts) : ∃ n, ts = [U8 n] ∧ 0 ≤ n ∧ n < 256 := by
  obtain ⟨n, rfl, hw⟩ := h
  exact ⟨n, rfl, lit_u8 hw⟩
theorem wt_u32 {ts : List T} (h : shU32.wt ts) : ∃ n, ts = [U32 n] ∧ 0 ≤ n ∧ n < 4294967296 := by
  obtain ⟨n, rfl, hw⟩ := h
  exact ⟨n, rfl, lit_u32 hw⟩
theorem wt_bool {ts : List T} (h : Sh.bool.wt ts) : ∃ b, ts = [BL b] := h
end
end Go.Proofs.YtjnomaiejmgedaaDoor
