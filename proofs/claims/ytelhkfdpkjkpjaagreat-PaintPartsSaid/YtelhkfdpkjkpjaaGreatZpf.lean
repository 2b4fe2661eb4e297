/-
  The proof's lemmas, part 6.
-/
import Derived.Test.YtelhkfdpkjkpjaaGreatZpe
import Derived.OpenVars
import Derived.Carry
namespace Go.Proofs.YtelhkfdpkjkpjaaGreat
set_option linter.unusedSimpArgs false
set_option linter.unusedVariables false
section
open Go.RowKit Go.Sort
set_option maxRecDepth 10000
def padL (P : List Int) (n : Nat) : List Int := (List.range n).map fun i => if i < P.length then P[i]! else 0
theorem padL_len (P : List Int) (n : Nat) : (padL P n).length = n := by simp [padL]
theorem padL_snoc (P : List Int) (n : Nat) : padL P (n + 1) = padL P n ++ [if n < P.length then P[n]! else 0] := by unfold padL; rw [List.range_succ, List.map_append]; rfl
theorem padL_bd {P : List Int} (hb : ∀ v ∈ P, 0 ≤ v ∧ v < 256) (n : Nat) : ∀ v ∈ padL P n, 0 ≤ v ∧ v < 256 := fun v hv => by
  unfold padL at hv
  obtain ⟨i, hi, rfl⟩ := List.mem_map.1 hv
  split
  · exact bang_bd hb _
  · exact ⟨by decide, by decide⟩
theorem canvas_p (cw ch : Nat) (P : List Int) (hw : cw < 256) (hh : ch < 256) (hb : ∀ v ∈ P, 0 ≤ v ∧ v < 256) :
    CallP Tryz.prog 17 [.agg [U8 cw, U8 ch, .islc (encL cU P) P.length none]] (gT (cw % 12 + 1) (ch % 12 + 1) (padL P ((cw % 12 + 1) * (ch % 12 + 1)))) := by
  have hwh : (cw % 12 + 1) * (ch % 12 + 1) ≤ 12 * 12 := Nat.mul_le_mul (by omega) (by omega)
  generalize hW : cw % 12 + 1 = W at *
  generalize hH : ch % 12 + 1 = H at *
  have hm : (W : Int) * (H : Int) = ((W * H : Nat) : Int) := (Int.natCast_mul W H).symm
  have hw12 : W ≤ 12 := by omega
  have hh12 : H ≤ 12 := by omega
  refine CallP.intro2 au_pu au_pu ?_
  refine CallT.intro tab_ok Tryz.func17 rfl (by kernel_rfl) (Nat.le_of_ble_eq_true rfl) ?_
  refine VC.reg tab_ok [1] rfl ?_
  refine VX.newI rfl rfl ?_
  refine VX.new rfl rfl ?_
  refine VX.nil ?_
  refine VC.reg tab_ok [] rfl ?_
  refine VX.meek rfl ?_
  first | refine VX.meek rfl ?_ | refine VX.loadI rfl rfl au_l ?_ | refine VX.loadP rfl rfl rfl au_l ?_
  refine VX.meek (t := I64 cw) (by show some (T.v (.int .i64 (IntKind.i64.wrap (cw : Int))), (none : Option (Nat × List T))) = _; rw [wrap_in (by omega)]) ?_
  refine VX.rem rfl rfl (by omega) (by omega) ?_
  refine VX.add rfl rfl (by omega) ?_; rw [show (cw : Int) % 12 + 1 = (W : Int) from by omega]
  refine VX.meek rfl ?_
  first | refine VX.meek rfl ?_ | refine VX.loadI rfl rfl au_l ?_ | refine VX.loadP rfl rfl rfl au_l ?_
  refine VX.meek (t := I64 ch) (by show some (T.v (.int .i64 (IntKind.i64.wrap (ch : Int))), (none : Option (Nat × List T))) = _; rw [wrap_in (by omega)]) ?_
  refine VX.rem rfl rfl (by omega) (by omega) ?_
  refine VX.add rfl rfl (by omega) ?_; rw [show (ch : Int) % 12 + 1 = (H : Int) from by omega]
  refine VX.meek rfl ?_
  refine VX.new rfl rfl ?_
  refine VX.store rfl rfl rfl rfl rfl au_sR rfl ?_
  refine VX.nil ?_
  refine VC.view ([(2, .ptr 0 0), (3, .ptr 1 0)]) ([.c [I64 0, I64 0, NIL], .c [I64 W, I64 H, NIL]]) [1] rfl (by refine ⟨[some 0, some 1], rfl, by first | trivial | decide, rfl, ?_, ?_⟩ <;> (repeat' first | exact trivial | exact CvB_n | exact CvB_d | refine CvE_app ?_ ?_ | refine CvE_cons rfl ?_ ?_ | refine CvH_cons ?_ ?_ | refine CvB_c rfl ?_ | fail) <;> first | exact au_v | (exact CvL.eq rfl rfl)) ?_
  refine VC.seq ?_
  refine VC.reg tab_ok [] rfl ?_
  refine VX.meek rfl ?_
  refine VX.nil ?_
  refine VC.block ?_
  refine VC.loopS2 (σ1 := Nat) (σ2 := List T) (fun i _ => W * H - i) (fun i tl => i ≤ W * H ∧ T.pureL tl = true) (fun i _ => [(4, I64 i), (2, .ptr 0 0), (3, .ptr 1 0)]) (fun i tl => [.c [I64 0, I64 0, NIL], .c [I64 W, I64 H, .slc 2 0 (padL P i).length 1 none], .c (encL cU (padL P i) ++ tl)]) [1] rfl (0) ([]) ?_ ?_ ?_
  · refine ⟨[some 0, some 1, none], rfl, by first | trivial | decide, rfl, ?_, ?_⟩ <;> (repeat' first | exact trivial | exact CvB_n | exact CvB_d | refine CvE_app ?_ ?_ | refine CvE_cons rfl ?_ ?_ | refine CvH_cons ?_ ?_ | refine CvB_c rfl ?_ | fail) <;> first | exact au_v | (first | exact CvL.pure rfl | exact CvL.cons (Cv.pure rfl) (CvL.cons (Cv.pure rfl) (CvL.cons (Cv.nilv rfl) CvL.nil)))
  · exact ⟨by omega, rfl⟩
  rintro i tl ⟨hi, htl⟩
  refine VC.seq ?_
  refine VC.reg tab_ok [] rfl ?_
  iterate 2 refine VX.meek rfl ?_
  first | refine VX.meek rfl ?_ | refine VX.loadI rfl rfl au_l ?_ | refine VX.loadP rfl rfl rfl au_l ?_
  refine VX.meek rfl ?_
  first | refine VX.meek rfl ?_ | refine VX.loadI rfl rfl au_l ?_ | refine VX.loadP rfl rfl rfl au_l ?_
  first | refine VX.mul rfl rfl (by omega) ?_ | refine VX.meek rfl ?_
  refine VX.meek rfl ?_
  refine VX.nil ?_
  refine VC.cond rfl (fun hc0 => ?_) (fun hc0 => ?_)
  · (try simp only [au_std] at hc0); have hil : i < W * H := (by omega); have hpl := padL_len P i; have hsn := padL_snoc P i; have hcl : (encL cU (padL P i) ++ tl).length = i + tl.length := (by rw [List.length_append, encL_len, cU_sz, hpl, Nat.mul_one])
    refine VC.skip ?_
    refine VC.seq ?_
    refine VC.block ?_
    refine VC.reg tab_ok [] rfl ?_
    refine VX.meek rfl ?_
    refine VX.nil ?_
    refine VC.seq ?_
    refine VC.reg tab_ok [] rfl ?_
    iterate 2 refine VX.meek rfl ?_
    first | refine VX.meek rfl ?_ | refine VX.loadI rfl rfl au_l ?_ | refine VX.loadP rfl rfl rfl au_l ?_
    iterate 2 refine VX.meek rfl ?_
    refine VX.nil ?_
    refine VC.cond rfl (fun hc1 => ?_) (fun hc1 => ?_)
    · (try simp only [au_std] at hc1); have hiP : i < P.length := (by omega); rw [if_pos hiP] at hsn
      refine VC.regN tab_ok [] rfl ?_
      refine VX.meek rfl ?_
      first | refine VX.meek rfl ?_ | refine VX.loadI rfl rfl au_l ?_ | refine VX.loadP rfl rfl rfl au_l ?_
      refine VX.meek rfl ?_
      first | refine VX.idxI rfl rfl rfl rfl rfl rfl (by omega) ?_ | refine VX.idxO0 rfl rfl rfl rfl rfl rfl rfl (by omega) ?_ | refine VX.idxO0 rfl rfl rfl rfl rfl rfl au_z (by omega) ?_ | refine VX.idxO rfl rfl rfl rfl rfl rfl rfl (by omega) ?_ | refine VX.idxI rfl rfl rfl rfl rfl au_z (by omega) ?_ | refine VX.idxO rfl rfl rfl rfl rfl rfl au_z (by omega) ?_ | refine VX.meek rfl ?_
      first | refine VX.meek rfl ?_ | refine VX.loadI rfl rfl au_l ?_ | refine VX.loadP rfl rfl rfl au_l ?_
      refine VX.meek rfl ?_
      refine VX.nil ?_
      refine VC.regN tab_ok [39] rfl ?_
      refine VX.meek rfl ?_
      first | refine VX.meek rfl ?_ | refine VX.loadI rfl rfl au_l ?_ | refine VX.loadP rfl rfl rfl au_l ?_
      refine VX.meek rfl ?_
      refine VX.newI rfl rfl ?_
      refine VX.append rfl rfl rfl rfl rfl rfl rfl rfl (by rw [hcl, hpl]; omega) (by rw [hpl]; dsimp only; omega) (by rw [hpl]; omega) rfl rfl ?_
      refine VX.meek rfl ?_
      refine VX.store rfl rfl rfl rfl rfl au_sR rfl ?_
      refine VX.nil ?_
      refine VC.regN tab_ok [] rfl ?_
      refine VX.meek rfl ?_
      first | refine VX.add rfl rfl (by omega) ?_ | refine VX.meek rfl ?_
      refine VX.meek rfl ?_
      refine VX.nil ?_
      refine ⟨i + 1, [], by (try dsimp only); omega, ?_, (by refine ⟨[some 0, some 1, some 3], rfl, by first | trivial | decide, rfl, ?_, ?_⟩ <;> (repeat' first | exact trivial | exact CvB_n | exact CvB_d | refine CvE_app ?_ ?_ | refine CvE_cons rfl ?_ ?_ | refine CvH_cons ?_ ?_ | refine CvB_c rfl ?_ | fail) <;> first | exact au_v | (first | exact CvL.pure rfl | (refine cv_g (Cv.slcE rfl ?_ (.inl rfl)); rw [hsn, List.length_append]; rfl) | (refine CvL.eq ?_ ?_; (rw [hsn]; exact app_one cU rfl rfl rfl); (rw [List.append_nil]; exact encL_pure cU _))))⟩
      exact ⟨by omega, rfl⟩
    · (try simp only [au_std] at hc1); have hiP : ¬ i < P.length := (by omega); rw [if_neg hiP] at hsn
      refine VC.skip ?_
      refine VC.regN tab_ok [39] rfl ?_
      refine VX.meek rfl ?_
      first | refine VX.meek rfl ?_ | refine VX.loadI rfl rfl au_l ?_ | refine VX.loadP rfl rfl rfl au_l ?_
      refine VX.meek rfl ?_
      refine VX.newI rfl rfl ?_
      refine VX.append rfl rfl rfl rfl rfl rfl rfl rfl (by rw [hcl, hpl]; omega) (by rw [hpl]; dsimp only; omega) (by rw [hpl]; omega) rfl rfl ?_
      refine VX.meek rfl ?_
      refine VX.store rfl rfl rfl rfl rfl au_sR rfl ?_
      refine VX.nil ?_
      refine VC.regN tab_ok [] rfl ?_
      refine VX.meek rfl ?_
      first | refine VX.add rfl rfl (by omega) ?_ | refine VX.meek rfl ?_
      refine VX.meek rfl ?_
      refine VX.nil ?_
      refine ⟨i + 1, [], by (try dsimp only); omega, ?_, (by refine ⟨[some 0, some 1, some 3], rfl, by first | trivial | decide, rfl, ?_, ?_⟩ <;> (repeat' first | exact trivial | exact CvB_n | exact CvB_d | refine CvE_app ?_ ?_ | refine CvE_cons rfl ?_ ?_ | refine CvH_cons ?_ ?_ | refine CvB_c rfl ?_ | fail) <;> first | exact au_v | (first | exact CvL.pure rfl | (refine cv_g (Cv.slcE rfl ?_ (.inl rfl)); rw [hsn, List.length_append]; rfl) | (refine CvL.eq ?_ ?_; (rw [hsn]; exact app_one cU rfl rfl rfl); (rw [List.append_nil]; exact encL_pure cU _))))⟩
      exact ⟨by omega, rfl⟩
  · (try simp only [au_std] at hc0); obtain rfl : i = W * H := (by omega)
    refine VC.exit ?_
    refine VC.reg tab_ok [] rfl ?_
    first | refine VX.meek rfl ?_ | refine VX.loadI rfl rfl au_l ?_ | refine VX.loadP rfl rfl rfl au_l ?_
    refine VX.store rfl rfl rfl rfl rfl au_sR rfl ?_
    refine VX.nil ?_
    refine VC.ret ?_
    refine ⟨trivial, _, rfl, Cv.agg (cv_g (Cv.fslcA ⟨rfl, by simp⟩ (CvL.pure (encL_pure cU _))))⟩
def plainS (op pl fo ba : Int) : PenS := ⟨bitV .and .i64 op 15, pl, fo, ba, 0, 0, 0, false, []⟩
theorem and15 (n : Int) : 0 ≤ bitV .and .i64 n 15 ∧ bitV .and .i64 n 15 ≤ 15 := by
  have e : bitV .and .i64 n 15 = IntKind.i64.wrap (((BitVec.ofInt 64 n) &&& (BitVec.ofInt 64 15)).toNat : Int) := rfl
  have h : ((BitVec.ofInt 64 n) &&& (BitVec.ofInt 64 15)).toNat ≤ 15 := by
    rw [BitVec.toNat_and]
    exact Nat.le_trans Nat.and_le_right (by decide)
  rw [e, wrap_in (by omega)]
  omega
theorem plain_known (op pl fo ba : Int) : ropKnown (plainS op pl fo ba).f = true := by
  have := and15 op
  unfold ropKnown plainS; simp; omega
theorem plain_ok (op pl fo ba : Int) : PenOk (plainS op pl fo ba) := ⟨plain_known op pl fo ba, by simp [plainS, placeB], by simp [plainS, placeB], .inr rfl, by simp [plainS], by simp [plainS]⟩
theorem newPen_p : CallP Tryz.prog 60 [] (penT ⟨3, 255, 0, 1, 0, 0, 0, false, []⟩) := by
  refine CallP.intro2 au_pu au_pu ?_
  refine CallT.intro tab_ok Tryz.func60 rfl (by kernel_rfl) (Nat.le_of_ble_eq_true rfl) ?_
  refine VC.reg tab_ok [] rfl ?_
  refine VX.new rfl rfl ?_
  refine VX.nil ?_
  refine VC.reg tab_ok [] rfl ?_
  refine VX.meek rfl ?_
  refine VX.store rfl rfl rfl rfl rfl au_sR rfl ?_
  refine VX.nil ?_
  refine VC.ret ?_
  refine ⟨trivial, _, rfl, Cv.agg (CvL.cons (Cv.pure rfl) (CvL.cons (Cv.pure rfl) (CvL.cons (Cv.pure rfl) (CvL.cons (Cv.pure rfl) (CvL.cons (Cv.pure rfl) (CvL.cons (Cv.pure rfl) (CvL.cons (Cv.pure rfl) (CvL.cons (Cv.pure rfl) (CvL.cons (Cv.nil _ (.inl rfl)) CvL.nil)))))))))⟩
theorem plain_p (op pl fo ba : Int) : CallP Tryz.prog 23 [I64 op, U8 pl, U8 fo, U8 ba] (penT (plainS op pl fo ba)) := by
  refine CallP.intro2 au_pu au_pu ?_
  refine CallT.intro tab_ok Tryz.func23 rfl (by kernel_rfl) (Nat.le_of_ble_eq_true rfl) ?_
  refine VC.reg tab_ok [] rfl ?_
  refine VX.new rfl rfl ?_
  refine VX.nil ?_
  refine VC.reg tab_ok [] rfl ?_
  refine VX.callP0 rfl rfl rfl (newPen_p) ?_
  refine VX.new rfl rfl ?_
  refine VX.store rfl rfl rfl rfl rfl au_sR rfl ?_
  refine VX.nil ?_
  refine VC.reg tab_ok [] rfl ?_
  iterate 6 refine VX.meek rfl ?_
  refine VX.store rfl rfl rfl rfl rfl au_sR rfl ?_
  refine VX.meek rfl ?_
  refine VX.store rfl rfl rfl rfl rfl au_sR rfl ?_
  refine VX.meek rfl ?_
  refine VX.store rfl rfl rfl rfl rfl au_sR rfl ?_
  refine VX.meek rfl ?_
  refine VX.store rfl rfl rfl rfl rfl au_sR rfl ?_
  refine VX.nil ?_
  refine VC.reg tab_ok [] rfl ?_
  first | refine VX.meek rfl ?_ | refine VX.loadI rfl rfl au_l ?_ | refine VX.loadP rfl rfl rfl au_l ?_
  refine VX.store rfl rfl rfl rfl rfl au_sR rfl ?_
  refine VX.nil ?_
  refine VC.ret ?_
  exact ⟨trivial, _, rfl, Cv.eq rfl rfl⟩
theorem few_p (l : List Rect) : CallP Tryz.prog 16 [.islc (encL cR l) l.length none] (BL (decide (l.length ≤ 20))) := by
  refine CallP.intro2 au_pu au_pu ?_
  refine CallT.intro tab_ok Tryz.func16 rfl (by kernel_rfl) (Nat.le_of_ble_eq_true rfl) ?_
  refine VC.reg tab_ok [] rfl ?_
  refine VX.meek rfl ?_
  refine VX.nil ?_
  refine VC.reg tab_ok [] rfl ?_
  iterate 4 refine VX.meek rfl ?_
  refine VX.nil ?_
  refine VC.ret ?_
  exact ⟨trivial, _, rfl, Cv.eq (congrArg BL (decide_eq_decide.2 (by omega))) rfl⟩
def paintD (w : Nat) (D : Int → Int → Bool) (f : Int → Int → Int → Int) (px : List Int) : List Int := (List.range px.length).map fun i => if D (i % w : Nat) (i / w : Nat) = true then f (i % w : Nat) (i / w : Nat) px[i]! else px[i]!
theorem paintL_dec {w : Nat} {V : Int → Int → Prop} {D : Int → Int → Bool} {f : Int → Int → Int → Int} {px : List Int} (h : ∀ x y, V x y ↔ D x y = true) : paintL w V f px = paintD w D f px := by
  unfold paintL paintD
  refine List.map_congr_left fun i _ => ?_
  by_cases hc : V (i % w : Nat) (i / w : Nat)
  · rw [if_pos hc, if_pos ((h _ _).1 hc)]
  · rw [if_neg hc, if_neg (fun k => hc ((h _ _).2 k))]
def bandB (l : List Rect) (x y : Int) : Bool := decide (inL (l.filter countsB) x y)
theorem band_dec (l m : List Rect) (x y : Int) : (inL (bandOf l) x y ∧ inL (bandOf m) x y) ↔ (bandB l x y && bandB m x y) = true := by
  unfold bandB; rw [bandOf_in, bandOf_in, Bool.and_eq_true, decide_eq_true_eq, decide_eq_true_eq]
theorem awake_rects : rectsPx 3 (bandOf [⟨0, 0, 3, 2⟩]) (plainS 6 255 5 0) [⟨0, 0, 2, 1⟩, ⟨1, 0, 1, 1⟩] (List.replicate (3 * 2) 0) = [5, 0, 0, 0, 0, 0] := by
  unfold rectsPx
  rw [List.foldl_cons, List.foldl_cons, List.foldl_nil]
  rw [paintL_dec (D := fun x y => bandB [⟨0, 0, 3, 2⟩] x y && bandB [⟨0, 0, 2, 1⟩] x y) (fun x y => band_dec _ _ x y)]
  rw [paintL_dec (D := fun x y => bandB [⟨0, 0, 3, 2⟩] x y && bandB [⟨1, 0, 1, 1⟩] x y) (fun x y => band_dec _ _ x y)]
  decide +kernel
theorem awake_tile : paintL 3 (fun a b => inL (bandOf [⟨0, 0, 3, 2⟩]) a b ∧ inL (bandOf [⟨0, 0, 3, 2⟩]) a b) (tileF 2 1 [1, 2] 1 0) (List.replicate (3 * 2) 0) = [2, 1, 2, 2, 1, 2] := by
  rw [paintL_dec (D := fun x y => bandB [⟨0, 0, 3, 2⟩] x y && bandB [⟨0, 0, 3, 2⟩] x y) (fun x y => band_dec _ _ x y)]
  decide +kernel
theorem awake_p : CallP Tryz.prog 15 [] (BL true) := by
  have hr := Reg.of [⟨0, 0, 3, 2⟩]
  have hrects : CallP Tryz.prog 28 [gT 3 2 (List.replicate (3 * 2) 0), regT (bandOf [⟨0, 0, 3, 2⟩]), penT (plainS 6 255 5 0), .islc (encL cR [⟨0, 0, 2, 1⟩, ⟨1, 0, 1, 1⟩]) 2 none] (gT 3 2 [5, 0, 0, 0, 0, 0]) := by
    have := rects_t 3 2 (List.replicate (3 * 2) 0) (bandOf [⟨0, 0, 3, 2⟩]) [⟨0, 0, 2, 1⟩, ⟨1, 0, 1, 1⟩] (plainS 6 255 5 0) (by omega) (by omega) (by simp) (repl_bd _) hr (by simp) (by simp) (by intro r hr; simp at hr; rcases hr with rfl | rfl <;> (unfold i64; dsimp only; omega)) (plain_ok _ _ _ _) ⟨by decide, by decide⟩ ⟨by decide, by decide⟩
    rw [awake_rects] at this
    exact this
  have htile : CallP Tryz.prog 18 [gT 3 2 (List.replicate (3 * 2) 0), regT (bandOf [⟨0, 0, 3, 2⟩]), regT (bandOf [⟨0, 0, 3, 2⟩]), gT 2 1 [1, 2], I64 1, I64 0] (gT 3 2 [2, 1, 2, 2, 1, 2]) := by
    have := tile_p 3 2 2 1 (List.replicate (3 * 2) 0) [1, 2] (bandOf [⟨0, 0, 3, 2⟩]) (bandOf [⟨0, 0, 3, 2⟩]) 1 0 (by omega) (by omega) (by simp) (repl_bd _) (by omega) (by omega) rfl (.inr ⟨by omega, by omega⟩) (by intro v hv; simp at hv; rcases hv with rfl | rfl <;> exact ⟨by decide, by decide⟩) hr hr (by simp) (by decide) (by decide)
    rw [if_neg (by decide), awake_tile] at this
    exact this
  refine CallP.intro2 au_pu au_pu ?_
  refine CallT.intro tab_ok Tryz.func15 rfl (by kernel_rfl) (Nat.le_of_ble_eq_true rfl) ?_
  refine VC.reg tab_ok [] rfl ?_
  refine VX.meek rfl ?_
  refine VX.nil ?_
  refine VC.reg tab_ok [] rfl ?_
  refine VX.callP0 rfl rfl rfl (gnew_p 3 2 0 ⟨by omega, by omega⟩ ⟨by omega, by omega⟩) ?_
  iterate 3 refine VX.meek rfl ?_
  refine VX.new rfl rfl ?_
  refine VX.store rfl rfl rfl rfl rfl au_sR rfl ?_
  refine VX.meek rfl ?_
  refine VX.nil ?_
  refine VC.reg tab_ok [14] rfl ?_
  refine VX.meek rfl ?_
  refine VX.newI rfl rfl ?_
  refine VX.callP rfl rfl (of_p [⟨0, 0, 3, 2⟩] (by simp) (fun q hq => by rw [List.mem_singleton] at hq; subst hq; unfold i64; dsimp only; omega)) au_wk rfl ?_
  refine VX.new rfl rfl ?_
  refine VX.store rfl rfl rfl rfl rfl au_sR rfl ?_
  refine VX.nil ?_
  refine VC.reg tab_ok [] rfl ?_
  refine VX.callP0 rfl rfl rfl (plain_p 6 255 5 0) ?_
  refine VX.new rfl rfl ?_
  refine VX.store rfl rfl rfl rfl rfl au_sR rfl ?_
  refine VX.nil ?_
  refine VC.reg tab_ok [22] rfl ?_
  first | refine VX.meek rfl ?_ | refine VX.loadI rfl rfl au_l ?_ | refine VX.loadP rfl rfl rfl au_l ?_
  first | refine VX.meek rfl ?_ | refine VX.loadI rfl rfl au_l ?_ | refine VX.loadP rfl rfl rfl au_l ?_
  first | refine VX.meek rfl ?_ | refine VX.loadI rfl rfl au_l ?_ | refine VX.loadP rfl rfl rfl au_l ?_
  iterate 2 refine VX.meek rfl ?_
  refine VX.newI rfl rfl ?_
  refine VX.callP rfl rfl hrects au_wk (by show T.pureL [gT 3 2 (List.replicate (3 * 2) 0), regT (bandOf [⟨0, 0, 3, 2⟩]), penT (plainS 6 255 5 0), .islc (encL cR [⟨0, 0, 2, 1⟩, ⟨1, 0, 1, 1⟩]) 2 none] = true; simp only [T.pure, T.pureL, encL_pure]; rfl) ?_
  refine VX.new rfl rfl ?_
  refine VX.store rfl rfl rfl rfl rfl au_sR rfl ?_
  refine VX.nil ?_
  refine VC.reg tab_ok [] rfl ?_
  refine VX.callP0 rfl rfl rfl (gnew_p 2 1 1 ⟨by omega, by omega⟩ ⟨by omega, by omega⟩) ?_
  iterate 3 refine VX.meek rfl ?_
  refine VX.new rfl rfl ?_
  refine VX.store rfl rfl rfl rfl rfl au_sR rfl ?_
  refine VX.meek rfl ?_
  refine VX.nil ?_
  refine VC.drw tab_ok [] [_, _, _, _, _, _, _] rfl (by kernel_rfl) (by kernel_rfl) ?_
  first | refine VX.meek rfl ?_ | refine VX.loadI rfl rfl au_l ?_ | refine VX.loadP rfl rfl rfl au_l ?_
  first | refine VX.meek rfl ?_ | refine VX.loadI rfl rfl au_l ?_ | refine VX.loadP rfl rfl rfl au_l ?_
  first | refine VX.meek rfl ?_ | refine VX.loadI rfl rfl au_l ?_ | refine VX.loadP rfl rfl rfl au_l ?_
  first | refine VX.meek rfl ?_ | refine VX.loadI rfl rfl au_l ?_ | refine VX.loadP rfl rfl rfl au_l ?_
  refine VX.callP0 rfl rfl rfl ((show CallP Tryz.prog 63 [gT 2 1 [1, 1], I64 1, I64 0, U8 2] (gT 2 1 [1, 2]) from gset_n 2 1 [1, 1] 2 rfl 1 0 2 (by omega) (by omega) rfl (by intro v hv; simp at hv; rcases hv with rfl | rfl <;> exact ⟨by decide, by decide⟩) ⟨by omega, by omega⟩ ⟨by omega, by omega⟩)) ?_
  refine VX.callP0 rfl rfl rfl (htile) ?_
  refine VX.new rfl rfl ?_
  refine VX.nil ?_
  refine VX.store rfl rfl rfl rfl rfl au_sR rfl ?_
  refine VX.nil ?_
  refine VC.reg tab_ok [] rfl ?_
  first | refine VX.meek rfl ?_ | refine VX.loadI rfl rfl au_l ?_ | refine VX.loadP rfl rfl rfl au_l ?_
  refine VX.callP0 rfl rfl rfl (row_p 3 2 [5, 0, 0, 0, 0, 0] 0 (by omega) (by omega) rfl (by omega)) ?_
  iterate 2 refine VX.meek rfl ?_
  refine' VX.merge (d := 41) [_, _, _, _] rfl ?_ rfl ?_
  rotate_left
  · refine VX.guard rfl rfl (fun hb7_3 => ?_) (fun hb7_3 => ?_)
    · have ghb7_3 := hb7_3
      try simp only [au_std, Bool.not_true, Bool.not_false] at ghb7_3
      first | refine VX.meek rfl ?_ | refine VX.loadI rfl rfl au_l ?_ | refine VX.loadP rfl rfl rfl au_l ?_
      refine VX.guardT rfl rfl hb7_3 ?_
      refine VX.callP0 rfl rfl rfl (row_p 3 2 [5, 0, 0, 0, 0, 0] 1 (by omega) (by omega) rfl (by omega)) ?_
      refine VX.guardT rfl rfl hb7_3 ?_
      refine VX.meek rfl ?_
      refine VX.pickA rfl (fun _ => rfl) ?_
      exact VX.nil ⟨rfl, rfl⟩
    · refine VX.guardF rfl rfl hb7_3 ?_
      refine VX.guardF rfl rfl hb7_3 ?_
      exact VX.pickA rfl (fun h => absurd (h.symm.trans hb7_3) (by decide)) (VX.nil ⟨rfl, rfl⟩)
  refine VX.meek rfl ?_
  refine' VX.merge (d := 46) [_, _, _, _] rfl ?_ rfl ?_
  rotate_left
  · refine VX.guard rfl rfl (fun hb7_8 => ?_) (fun hb7_8 => ?_)
    · have ghb7_8 := hb7_8
      try simp only [au_std, Bool.not_true, Bool.not_false] at ghb7_8
      first | refine VX.meek rfl ?_ | refine VX.loadI rfl rfl au_l ?_ | refine VX.loadP rfl rfl rfl au_l ?_
      refine VX.guardT rfl rfl hb7_8 ?_
      refine VX.callP0 rfl rfl rfl (row_p 3 2 [2, 1, 2, 2, 1, 2] 0 (by omega) (by omega) rfl (by omega)) ?_
      refine VX.guardT rfl rfl hb7_8 ?_
      refine VX.meek rfl ?_
      refine VX.pickA rfl (fun _ => rfl) ?_
      exact VX.nil ⟨rfl, rfl⟩
    · refine VX.guardF rfl rfl hb7_8 ?_
      refine VX.guardF rfl rfl hb7_8 ?_
      exact VX.pickA rfl (fun h => absurd (h.symm.trans hb7_8) (by decide)) (VX.nil ⟨rfl, rfl⟩)
  refine VX.meek rfl ?_
  refine' VX.merge (d := 51) [_, _, _, _] rfl ?_ rfl ?_
  rotate_left
  · refine VX.guard rfl rfl (fun hb7_13 => ?_) (fun hb7_13 => ?_)
    · have ghb7_13 := hb7_13
      try simp only [au_std, Bool.not_true, Bool.not_false] at ghb7_13
      first | refine VX.meek rfl ?_ | refine VX.loadI rfl rfl au_l ?_ | refine VX.loadP rfl rfl rfl au_l ?_
      refine VX.guardT rfl rfl hb7_13 ?_
      refine VX.callP0 rfl rfl rfl (row_p 3 2 [2, 1, 2, 2, 1, 2] 1 (by omega) (by omega) rfl (by omega)) ?_
      refine VX.guardT rfl rfl hb7_13 ?_
      refine VX.meek rfl ?_
      refine VX.pickA rfl (fun _ => rfl) ?_
      exact VX.nil ⟨rfl, rfl⟩
    · refine VX.guardF rfl rfl hb7_13 ?_
      refine VX.guardF rfl rfl hb7_13 ?_
      exact VX.pickA rfl (fun h => absurd (h.symm.trans hb7_13) (by decide)) (VX.nil ⟨rfl, rfl⟩)
  refine VX.meek rfl ?_
  refine VX.nil ?_
  refine VC.ret ?_
  exact ⟨trivial, _, rfl, Cv.eq (congrArg BL (by decide +kernel)) rfl⟩
end
section
open Go.RowKit Go.Sort
abbrev shI : Sh := .int .i64
abbrev shU : Sh := .int .u8
abbrev shB : Sh := .int .i8
abbrev shR : Sh := .st [shI, shI, shI, shI]
abbrev shCan : Sh := .st [shU, shU, .sl shU]
theorem lit_i64 {n : Int} (h : (Lit.int .i64 n).wf = true) : i64 n := by
  simp [Lit.wf, IntKind.min, IntKind.max, IntKind.signed, IntKind.bits] at h
  unfold i64; omega
theorem lit_u8 {n : Int} (h : (Lit.int .u8 n).wf = true) : 0 ≤ n ∧ n < 256 := by
  simp [Lit.wf, IntKind.min, IntKind.max, IntKind.signed, IntKind.bits] at h
  omega
theorem lit_i8 {n : Int} (h : (Lit.int .i8 n).wf = true) : -128 ≤ n ∧ n ≤ 127 := by
  simp [Lit.wf, IntKind.min, IntKind.max, IntKind.signed, IntKind.bits] at h
  omega
theorem wt_i64 {ts : List T} (h : shI.wt ts) : ∃ n, ts = [I64 n] ∧ i64 n := by
  obtain ⟨n, rfl, hw⟩ := h
  exact ⟨n, rfl, lit_i64 hw⟩
theorem wt_u8 {ts : List T} (h : shU.wt ts) : ∃ n, ts = [U8 n] ∧ 0 ≤ n ∧ n < 256 := by
  obtain ⟨n, rfl, hw⟩ := h
  exact ⟨n, rfl, lit_u8 hw⟩
theorem wt_i8 {ts : List T} (h : shB.wt ts) : ∃ n, ts = [.v (.int .i8 n)] ∧ -128 ≤ n ∧ n ≤ 127 := by
  obtain ⟨n, rfl, hw⟩ := h
  exact ⟨n, rfl, lit_i8 hw⟩
theorem nth_dec {α : Type} (c : Cd α) {p : List T → Prop} {Q : α → Prop} (h : ∀ a, p a → ∃ x, a = c.cells x ∧ Q x) : ∀ (n : Nat) {xs : List T}, nth p n xs → ∃ l : List α, xs = encL c l ∧ l.length = n ∧ ∀ x ∈ l, Q x
  | 0, xs, k => ⟨[], k, rfl, fun _ hx => by cases hx⟩
  | n + 1, xs, ⟨a, b, e, k1, k2⟩ => by
    obtain ⟨x, rfl, hx⟩ := h a k1
    obtain ⟨l, rfl, rfl, hl⟩ := nth_dec c h n k2
    exact ⟨x :: l, e, rfl, fun y hy => by
      rcases List.mem_cons.1 hy with rfl | hy
      · exact hx
      · exact hl y hy⟩
theorem wt_sl {α : Type} (c : Cd α) {s : Sh} {Q : α → Prop} (h : ∀ a, s.wt a → ∃ x, a = c.cells x ∧ Q x) {ts : List T} (k : (Sh.sl s).wt ts) : ∃ l : List α, ts = [.islc (encL c l) l.length none] ∧ l.length ≤ maxLen ∧ ∀ x ∈ l, Q x := by
  obtain ⟨xs, n, rfl, h1, h2⟩ := k
  obtain ⟨l, rfl, rfl, hl⟩ := nth_dec c h n h2
  exact ⟨l, rfl, h1, hl⟩
def rI (r : Rect) : Prop := i64 r.X ∧ i64 r.Y ∧ i64 r.W ∧ i64 r.H
theorem wt_rect {ts : List T} (h : shR.wt ts) : ∃ r : Rect, ts = cR.cells r ∧ rI r := by
  obtain ⟨a, b, rfl, h1, c, d, rfl, h2, e, f, rfl, h3, g, k, rfl, h4, rfl⟩ := h
  obtain ⟨x, rfl, hx⟩ := wt_i64 h1
  obtain ⟨y, rfl, hy⟩ := wt_i64 h2
  obtain ⟨w, rfl, hw⟩ := wt_i64 h3
  obtain ⟨z, rfl, hz⟩ := wt_i64 h4
  exact ⟨⟨x, y, w, z⟩, rfl, hx, hy, hw, hz⟩
theorem wt_rects {ts : List T} (h : (Sh.sl shR).wt ts) : ∃ l : List Rect, ts = [.islc (encL cR l) l.length none] ∧ l.length ≤ maxLen ∧ ∀ r ∈ l, rI r := wt_sl cR (fun _ => wt_rect) h
theorem wt_bytes {ts : List T} (h : (Sh.sl shU).wt ts) : ∃ l : List Int, ts = [.islc (encL cU l) l.length none] ∧ l.length ≤ maxLen ∧ ∀ v ∈ l, 0 ≤ v ∧ v < 256 :=
  wt_sl cU (fun _ h => by
    obtain ⟨x, rfl, hx⟩ := wt_u8 h
    exact ⟨x, rfl, hx⟩) h
theorem wt_canvas {ts : List T} (h : shCan.wt ts) : ∃ (cw ch : Nat) (P : List Int), ts = [U8 cw, U8 ch, .islc (encL cU P) P.length none] ∧ cw < 256 ∧ ch < 256 ∧ ∀ v ∈ P, 0 ≤ v ∧ v < 256 := by
  obtain ⟨a, b, rfl, h1, c, d, rfl, h2, e, f, rfl, h3, rfl⟩ := h
  obtain ⟨x, rfl, hx⟩ := wt_u8 h1
  obtain ⟨y, rfl, hy⟩ := wt_u8 h2
  obtain ⟨P, rfl, -, hP⟩ := wt_bytes h3
  refine ⟨x.toNat, y.toNat, P, ?_, by omega, by omega, hP⟩
  rw [Int.toNat_of_nonneg hx.1, Int.toNat_of_nonneg hy.1]
  rfl
end
section
open Go.RowKit Go.Sort
set_option maxRecDepth 10000
theorem rI_all {l : List Rect} (h : ∀ r ∈ l, rI r) : ∀ r ∈ l, i64 r.X ∧ i64 r.Y := fun r hr => ⟨(h r hr).1, (h r hr).2.1⟩
end
section
open Go.RowKit Go.Sort
theorem paint_two {w h : Nat} {px : List Int} {V A B : Int → Int → Prop} {f : Int → Int → Int → Int} (hl : px.length = w * h) (hV : ∀ x y, V x y ↔ A x y ∨ B x y) (hAB : ∀ x y, A x y → ¬ B x y) : paintL w V f px = paintL w B f (paintL w A f px) := by
  refine px_ext (h := h) (by rw [paintL_len, hl]) (by rw [paintL_len, paintL_len, hl]) fun x y h1 h2 h3 h4 => ?_
  have hp := (place_lt h1 h2 h3 h4).1
  rw [paintL_at ⟨h1, h2⟩ h3 (by omega), paintL_at ⟨h1, h2⟩ h3 (by rw [paintL_len]; omega), paintL_at ⟨h1, h2⟩ h3 (by omega)]
  by_cases a : A x y
  · rw [if_pos ((hV x y).2 (.inl a)), if_neg (hAB x y a), if_pos a]
  · by_cases b : B x y
    · rw [if_pos ((hV x y).2 (.inr b)), if_pos b, if_neg a]
    · rw [if_neg (fun k => ((hV x y).1 k).elim a b), if_neg b, if_neg a]
end
section
open Go.RowKit Go.Sort
set_option maxRecDepth 10000
theorem gsame_r (w h : Nat) (a b : List Int) (hw : w ≤ 128) (hh : h ≤ 128) (ha : a.length = w * h) (hb : b.length = w * h) (ha2 : ∀ v ∈ a, 0 ≤ v ∧ v < 256) (hb2 : ∀ v ∈ b, 0 ≤ v ∧ v < 256) (e : a = b) : CallP Tryz.prog 29 [gT w h a, gT w h b] (BL true) := by
  have k := gsame_p ⟨w, h, a⟩ ⟨w, h, b⟩ ⟨hw, hh, ha, ha2⟩ ⟨hw, hh, hb, hb2⟩
  rwa [decide_eq_true (show (w = w ∧ h = h ∧ a = b) from ⟨rfl, rfl, e⟩)] at k
theorem penC_pu (p : PenS) : T.pureL (penC p) = true := by simp only [T.pureL, T.pure, encL_pure]; rfl
theorem app_r {l : List Rect} {tl xs : List T} {r : Rect} {n : Nat} (hn : n = l.length) (hx : xs = cR.cells r) : ((encL cR l ++ tl).drop 0).take (n * 4) ++ xs = encL cR (l ++ [r]) ++ [] := by
  subst hn hx
  rw [List.append_nil, List.drop_zero, show l.length * 4 = (encL cR l).length from by rw [encL_len, cR_sz], List.take_left, encL_append]
  simp [encL]
end
section
open Go.RowKit Go.Sort
set_option maxRecDepth 10000
def leftOf (c : Int) (r : Rect) : List Rect := if c ≤ r.X then [] else if r.X + r.W ≤ c then [r] else [⟨r.X, r.Y, c - r.X, r.H⟩]
def rightOf (c : Int) (r : Rect) : List Rect := if c ≤ r.X then [r] else if r.X + r.W ≤ c then [] else [⟨c, r.Y, r.X + r.W - c, r.H⟩]
def tameR (r : Rect) : Prop := -1000 ≤ r.X ∧ r.X ≤ 1000 ∧ 1 ≤ r.W ∧ r.W ≤ 1000
theorem parts_one {c : Int} {r : Rect} (hr : tameR r) (x y : Int) : (countsB r = true ∧ r.has x y) ↔ (∃ q ∈ leftOf c r, countsB q = true ∧ q.has x y) ∨ (∃ q ∈ rightOf c r, countsB q = true ∧ q.has x y) := by
  unfold tameR at hr
  unfold leftOf rightOf
  split
  · simp
  · split
    · simp
    · simp only [List.mem_singleton, exists_eq_left]
      unfold countsB fitsB Rect.has
      simp only [Bool.and_eq_true, decide_eq_true_eq]
      omega
theorem leftm_of {c : Int} {r q : Rect} (h : q ∈ leftOf c r) {x y : Int} (hh : q.has x y) : x < c := by
  unfold leftOf at h
  unfold Rect.has at hh
  split at h
  · cases h
  · split at h
    · obtain rfl := List.mem_singleton.1 h; omega
    · obtain rfl := List.mem_singleton.1 h; dsimp only at hh; omega
theorem rightm_of {c : Int} {r q : Rect} (h : q ∈ rightOf c r) {x y : Int} (hh : q.has x y) : c ≤ x := by
  unfold rightOf at h
  unfold Rect.has at hh
  split at h
  · obtain rfl := List.mem_singleton.1 h; omega
  · split at h
    · cases h
    · obtain rfl := List.mem_singleton.1 h; dsimp only at hh; omega
theorem inL_filter {l : List Rect} {x y : Int} : inL (l.filter countsB) x y ↔ ∃ r ∈ l, countsB r = true ∧ r.has x y := by
  unfold inL; simp only [List.mem_filter]
  constructor
  · rintro ⟨r, ⟨h1, h2⟩, h3⟩; exact ⟨r, h1, h2, h3⟩
  · rintro ⟨r, h1, h2, h3⟩; exact ⟨r, ⟨h1, h2⟩, h3⟩
theorem parts_in {c : Int} {l : List Rect} (h : ∀ r ∈ l, tameR r) (x y : Int) : inL (bandOf l) x y ↔ inL (bandOf (l.flatMap (leftOf c))) x y ∨ inL (bandOf (l.flatMap (rightOf c))) x y := by
  rw [bandOf_in, bandOf_in, bandOf_in, inL_filter, inL_filter, inL_filter]
  simp only [List.mem_flatMap]
  constructor
  · rintro ⟨r, h1, h2⟩
    rcases (parts_one (c := c) (h r h1) x y).1 h2 with ⟨q, k1, k2⟩ | ⟨q, k1, k2⟩
    · exact .inl ⟨q, ⟨r, h1, k1⟩, k2⟩
    · exact .inr ⟨q, ⟨r, h1, k1⟩, k2⟩
  · rintro (⟨q, ⟨r, h1, k1⟩, k2⟩ | ⟨q, ⟨r, h1, k1⟩, k2⟩)
    · exact ⟨r, h1, (parts_one (c := c) (h r h1) x y).2 (.inl ⟨q, k1, k2⟩)⟩
    · exact ⟨r, h1, (parts_one (c := c) (h r h1) x y).2 (.inr ⟨q, k1, k2⟩)⟩
theorem parts_apart {c : Int} {l : List Rect} {x y : Int} (h1 : inL (bandOf (l.flatMap (leftOf c))) x y) (h2 : inL (bandOf (l.flatMap (rightOf c))) x y) : False := by
  rw [bandOf_in, inL_filter] at h1 h2
  simp only [List.mem_flatMap] at h1 h2
  obtain ⟨q, ⟨r, -, k⟩, -, hq⟩ := h1
  obtain ⟨q', ⟨r', -, k'⟩, -, hq'⟩ := h2
  have := leftm_of k hq
  have := rightm_of k' hq'
  omega
theorem flatm_len (f : Rect → List Rect) (hf : ∀ r, (f r).length ≤ 1) : ∀ l : List Rect, (l.flatMap f).length ≤ l.length
  | [] => by simp
  | r :: l => by rw [List.flatMap_cons, List.length_append, List.length_cons]; have := flatm_len f hf l; have := hf r; omega
theorem left_one (c : Int) (r : Rect) : (leftOf c r).length ≤ 1 := by unfold leftOf; split <;> (try split) <;> simp
theorem right_one (c : Int) (r : Rect) : (rightOf c r).length ≤ 1 := by unfold rightOf; split <;> (try split) <;> simp
theorem left_i64 {c : Int} (hc : -128 ≤ c ∧ c ≤ 127) {l : List Rect} (h : ∀ r ∈ l, rI r) : ∀ q ∈ l.flatMap (leftOf c), i64 q.X ∧ i64 q.Y := fun q hq => by
  obtain ⟨r, h1, h2⟩ := List.mem_flatMap.1 hq
  have := h r h1
  unfold rI at this
  unfold leftOf at h2
  split at h2
  · cases h2
  · split at h2
    · obtain rfl := List.mem_singleton.1 h2; exact ⟨this.1, this.2.1⟩
    · obtain rfl := List.mem_singleton.1 h2; exact ⟨this.1, this.2.1⟩
theorem right_i64 {c : Int} (hc : -128 ≤ c ∧ c ≤ 127) {l : List Rect} (h : ∀ r ∈ l, rI r) : ∀ q ∈ l.flatMap (rightOf c), i64 q.X ∧ i64 q.Y := fun q hq => by
  obtain ⟨r, h1, h2⟩ := List.mem_flatMap.1 hq
  have := h r h1
  unfold rI at this
  unfold rightOf at h2
  split at h2
  · obtain rfl := List.mem_singleton.1 h2; exact ⟨this.1, this.2.1⟩
  · split at h2
    · cases h2
    · obtain rfl := List.mem_singleton.1 h2; exact ⟨by unfold i64; dsimp only; omega, this.2.1⟩
theorem flatm_snoc (f : Rect → List Rect) {l : List Rect} {k : Nat} (h : k < l.length) : (l.take (k + 1)).flatMap f = (l.take k).flatMap f ++ f l[k]! := by rw [take_snoc h, List.flatMap_append]; simp
theorem paintParts_all {t0 t1 t2 t3 t4 t5 t6 : List T} (h0 : shCan.wt t0) (h1 : (Sh.sl shR).wt t1) (h2 : (Sh.sl shR).wt t2) (h3 : shB.wt t3) (h4 : shI.wt t4) (h5 : shU.wt t5) (h6 : shU.wt t6) :
    CallP Tryz.prog 6 [shCan.tree t0, (Sh.sl shR).tree t1, (Sh.sl shR).tree t2, shB.tree t3, shI.tree t4, shU.tree t5, shU.tree t6] (BL true) := by
  obtain ⟨cw, ch, P, rfl, hcw, hch, hPb⟩ := wt_canvas h0
  obtain ⟨clip, rfl, -, hci⟩ := wt_rects h1
  obtain ⟨what, rfl, -, hwi⟩ := wt_rects h2
  obtain ⟨c, rfl, hcb⟩ := wt_i8 h3
  obtain ⟨op, rfl, -⟩ := wt_i64 h4
  obtain ⟨pl, rfl, hpl⟩ := wt_u8 h5
  obtain ⟨fo, rfl, hfo⟩ := wt_u8 h6
  clear h0 h1 h2 h3 h4 h5 h6
  have hcan := canvas_p cw ch P hcw hch hPb
  have hw : 1 ≤ cw % 12 + 1 ∧ cw % 12 + 1 ≤ 128 := by omega
  have hh : 1 ≤ ch % 12 + 1 ∧ ch % 12 + 1 ≤ 128 := by omega
  have hl := padL_len P ((cw % 12 + 1) * (ch % 12 + 1))
  have hb := padL_bd hPb ((cw % 12 + 1) * (ch % 12 + 1))
  generalize padL P ((cw % 12 + 1) * (ch % 12 + 1)) = px at *
  generalize cw % 12 + 1 = w at *
  generalize ch % 12 + 1 = h at *
  have hpC : 0 ≤ (plainS op pl fo 0).pl ∧ (plainS op pl fo 0).pl < 256 := hpl
  have hfC : 0 ≤ (plainS op pl fo 0).fo ∧ (plainS op pl fo 0).fo < 256 := hfo
  have hoC := plain_ok op pl fo 0
  have pC := plain_p op pl fo 0
  generalize plainS op pl fo 0 = C at *
  have hlL : ∀ k, ((what.take k).flatMap (leftOf c)).length ≤ what.length := fun k => Nat.le_trans (flatm_len _ (left_one c) _) (by rw [List.length_take]; omega)
  have hlR : ∀ k, ((what.take k).flatMap (rightOf c)).length ≤ what.length := fun k => Nat.le_trans (flatm_len _ (right_one c) _) (by rw [List.length_take]; omega)
  show CallP Tryz.prog 6 [.agg [U8 cw, U8 ch, .islc (encL cU P) P.length none], .islc (encL cR clip) clip.length none, .islc (encL cR what) what.length none, .v (.int .i8 c), I64 op, U8 pl, U8 fo] (BL true)
  refine CallP.intro2 au_pu au_pu ?_
  refine CallT.intro tab_ok Tryz.func6 rfl (by kernel_rfl) (Nat.le_of_ble_eq_true rfl) ?_
  refine VC.reg tab_ok [7] rfl ?_
  refine VX.newI rfl rfl ?_
  refine VX.meek rfl ?_
  refine VX.nil ?_
  refine VC.seq ?_
  refine VC.reg tab_ok [] rfl ?_
  refine VX.callP0 rfl rfl rfl (awake_p) ?_
  refine VX.meek rfl ?_
  refine VX.nil ?_
  refine VC.cond rfl (fun hc0 => ?_) (fun hc0 => ?_)
  · exact absurd hc0 (by simp)
  · (try simp only [au_std] at hc0)
    refine VC.skip ?_
    refine VC.seq ?_
    refine VC.reg tab_ok [] rfl ?_
    refine VX.meek rfl ?_
    refine VX.callP0 rfl rfl rfl (few_p clip) ?_
    iterate 2 refine VX.meek rfl ?_
    refine' VX.merge (d := 33) [_, _, _, _] rfl ?_ rfl ?_
    rotate_left
    · refine VX.guard rfl rfl (fun hb3_3 => ?_) (fun hb3_3 => ?_)
      · have ghb3_3 := hb3_3
        try simp only [au_std, Bool.not_true, Bool.not_false] at ghb3_3
        refine VX.meek rfl ?_
        refine VX.guardT rfl rfl hb3_3 ?_
        refine VX.callP0 rfl rfl rfl (few_p what) ?_
        refine VX.guardT rfl rfl hb3_3 ?_
        refine VX.meek rfl ?_
        refine VX.pickO rfl (fun _ => rfl) ?_
        exact VX.nil ⟨rfl, rfl⟩
      · refine VX.guardF rfl rfl hb3_3 ?_
        refine VX.guardF rfl rfl hb3_3 ?_
        exact VX.pickO rfl (fun h => absurd (h.symm.trans hb3_3) (by decide)) (VX.nil ⟨rfl, rfl⟩)
    refine VX.nil ?_
    refine VC.cond rfl (fun hc1 => ?_) (fun hc1 => ?_)
    · (try simp only [au_std] at hc1)
      refine VC.reg tab_ok [] rfl ?_
      refine VX.meek rfl ?_
      refine VX.nil ?_
      refine VC.ret ?_
      exact ⟨trivial, _, rfl, Cv.eq (by first | rfl | (simp [*]; done)) rfl⟩
    · (try simp only [au_std] at hc1); have hlc : clip.length ≤ 20 ∧ what.length ≤ 20 := (by omega)
      refine VC.skip ?_
      refine VC.reg tab_ok [] rfl ?_
      first | refine VX.meek rfl ?_ | refine VX.loadI rfl rfl au_l ?_ | refine VX.loadP rfl rfl rfl au_l ?_
      refine VX.callP0 rfl rfl rfl (hcan) ?_
      refine VX.callP0 rfl rfl rfl (of23_p w h px hw hh hl hb) ?_
      iterate 3 refine VX.meek rfl ?_
      refine VX.callP0 rfl rfl rfl (pC) ?_
      refine VX.new rfl rfl ?_
      refine VX.new rfl rfl ?_
      refine VX.store rfl rfl rfl rfl rfl au_sP rfl ?_
      refine VX.store rfl rfl rfl rfl rfl au_sP rfl ?_
      refine VX.nil ?_
      refine VC.reg tab_ok [] rfl ?_
      iterate 2 refine VX.meek rfl ?_
      refine VX.nil ?_
      refine VC.seq ?_
      refine VC.reg tab_ok [] rfl ?_
      refine VX.meek rfl ?_
      refine VX.nil ?_
      refine VC.block ?_
      refine VC.loopS3 (σ1 := Nat) (σ2 := List T) (σ3 := List T) (fun k _ _ => what.length - k) (fun k tl tr => k ≤ what.length ∧ (∀ r ∈ what.take k, tameR r) ∧ T.pureL tl = true ∧ T.pureL tr = true) (fun k _ _ => [(19, I64 k), (17, .slc 2 0 ((what.take k).flatMap (leftOf c)).length 4 none), (18, .slc 3 0 ((what.take k).flatMap (rightOf c)).length 4 none), (15, .ptr 0 0), (16, .ptr 1 0)]) (fun k tl tr => [.c [I64 w, I64 h, .islc (encL cU px) px.length none], .c (penC C), .c (encL cR ((what.take k).flatMap (leftOf c)) ++ tl), .c (encL cR ((what.take k).flatMap (rightOf c)) ++ tr)]) [1, 2, 3] rfl (0) ([]) ([]) ?_ ?_ ?_
      · refine ⟨[some 0, some 1, none, none], rfl, by first | trivial | decide, rfl, ?_, ?_⟩ <;> (repeat' first | exact trivial | exact CvB_n | exact CvB_d | refine CvE_app ?_ ?_ | refine CvE_cons rfl ?_ ?_ | refine CvH_cons ?_ ?_ | refine CvB_c rfl ?_ | fail) <;> first | exact au_v | (first | exact CvL.pure rfl | exact CvL.eq rfl (penC_pu _) | exact cv_g (Cv.pure (encL_pure cU _)))
      · exact ⟨by omega, (fun r hr => by cases hr), rfl, rfl⟩
      rintro k tl tr ⟨hk, htm, htl, htr⟩
      refine VC.seq ?_
      refine VC.reg tab_ok [] rfl ?_
      iterate 4 refine VX.meek rfl ?_
      refine VX.nil ?_
      refine VC.cond rfl (fun hc2 => ?_) (fun hc2 => ?_)
      · (try simp only [au_std] at hc2); have hkl : k < what.length := (by omega); have hL := flatm_snoc (leftOf c) hkl; have hR := flatm_snoc (rightOf c) hkl; have hlk := hlL k; have hrk := hlR k
        refine VC.skip ?_
        refine VC.seq ?_
        refine VC.block ?_
        refine VC.reg tab_ok [] rfl ?_
        iterate 2 refine VX.meek rfl ?_
        first | refine VX.idxI rfl rfl rfl rfl rfl rfl (by omega) ?_ | refine VX.idxO0 rfl rfl rfl rfl rfl rfl rfl (by omega) ?_ | refine VX.idxO0 rfl rfl rfl rfl rfl rfl au_z (by omega) ?_ | refine VX.idxO rfl rfl rfl rfl rfl rfl rfl (by omega) ?_ | refine VX.idxI rfl rfl rfl rfl rfl au_z (by omega) ?_ | refine VX.idxO rfl rfl rfl rfl rfl rfl au_z (by omega) ?_ | refine VX.meek rfl ?_
        first | refine VX.meek rfl ?_ | refine VX.loadI rfl rfl au_l ?_ | refine VX.loadP rfl rfl rfl au_l ?_
        refine VX.new rfl rfl ?_
        refine VX.store rfl rfl rfl rfl rfl au_sP rfl ?_
        refine VX.nil ?_
        refine VC.seq ?_
        refine VC.reg tab_ok [] rfl ?_
        refine VX.meek rfl ?_
        first | refine VX.meek rfl ?_ | refine VX.loadI rfl rfl au_l ?_ | refine VX.loadP rfl rfl rfl au_l ?_
        iterate 2 refine VX.meek rfl ?_
        refine' VX.merge (d := 58) [_, _, _, _] rfl ?_ rfl ?_
        rotate_left
        · refine VX.guard rfl rfl (fun hb11_3 => ?_) (fun hb11_3 => ?_)
          · have ghb11_3 := hb11_3
            try simp only [au_std, Bool.not_true, Bool.not_false] at ghb11_3
            refine VX.meek rfl ?_
            refine VX.guardT rfl rfl hb11_3 ?_
            first | refine VX.meek rfl ?_ | refine VX.loadI rfl rfl au_l ?_ | refine VX.loadP rfl rfl rfl au_l ?_
            refine VX.guardT rfl rfl hb11_3 ?_
            refine VX.meek rfl ?_
            refine VX.pickO rfl (fun _ => rfl) ?_
            exact VX.nil ⟨rfl, rfl⟩
          · refine VX.guardF rfl rfl hb11_3 ?_
            refine VX.guardF rfl rfl hb11_3 ?_
            exact VX.pickO rfl (fun h => absurd (h.symm.trans hb11_3) (by decide)) (VX.nil ⟨rfl, rfl⟩)
        refine VX.meek rfl ?_
        refine' VX.merge (d := 63) [_, _, _, _] rfl ?_ rfl ?_
        rotate_left
        · refine VX.guard rfl rfl (fun hb11_8 => ?_) (fun hb11_8 => ?_)
          · have ghb11_8 := hb11_8
            try simp only [au_std, Bool.not_true, Bool.not_false] at ghb11_8
            refine VX.meek rfl ?_
            refine VX.guardT rfl rfl hb11_8 ?_
            first | refine VX.meek rfl ?_ | refine VX.loadI rfl rfl au_l ?_ | refine VX.loadP rfl rfl rfl au_l ?_
            refine VX.guardT rfl rfl hb11_8 ?_
            refine VX.meek rfl ?_
            refine VX.pickO rfl (fun _ => rfl) ?_
            exact VX.nil ⟨rfl, rfl⟩
          · refine VX.guardF rfl rfl hb11_8 ?_
            refine VX.guardF rfl rfl hb11_8 ?_
            exact VX.pickO rfl (fun h => absurd (h.symm.trans hb11_8) (by decide)) (VX.nil ⟨rfl, rfl⟩)
        refine VX.meek rfl ?_
        refine' VX.merge (d := 68) [_, _, _, _] rfl ?_ rfl ?_
        rotate_left
        · refine VX.guard rfl rfl (fun hb11_13 => ?_) (fun hb11_13 => ?_)
          · have ghb11_13 := hb11_13
            try simp only [au_std, Bool.not_true, Bool.not_false] at ghb11_13
            refine VX.meek rfl ?_
            refine VX.guardT rfl rfl hb11_13 ?_
            first | refine VX.meek rfl ?_ | refine VX.loadI rfl rfl au_l ?_ | refine VX.loadP rfl rfl rfl au_l ?_
            refine VX.guardT rfl rfl hb11_13 ?_
            refine VX.meek rfl ?_
            refine VX.pickO rfl (fun _ => rfl) ?_
            exact VX.nil ⟨rfl, rfl⟩
          · refine VX.guardF rfl rfl hb11_13 ?_
            refine VX.guardF rfl rfl hb11_13 ?_
            exact VX.pickO rfl (fun h => absurd (h.symm.trans hb11_13) (by decide)) (VX.nil ⟨rfl, rfl⟩)
        refine VX.nil ?_
        refine VC.cond rfl (fun hc3 => ?_) (fun hc3 => ?_)
        · (try simp only [au_std] at hc3)
          refine VC.reg tab_ok [] rfl ?_
          refine VX.meek rfl ?_
          refine VX.nil ?_
          refine VC.ret ?_
          exact ⟨trivial, _, rfl, Cv.eq (by first | rfl | (simp [*]; done)) rfl⟩
        · (try simp only [au_std] at hc3); have htame : tameR what[k]! := (by unfold tameR; omega)
          have htm2 : ∀ r ∈ what.take (k + 1), tameR r := (fun r hr => by
            rw [take_snoc hkl] at hr
            rcases List.mem_append.1 hr with hr | hr
            · exact htm r hr
            · rw [List.mem_singleton] at hr; subst hr; exact htame)
          unfold tameR at htame
          refine VC.skip ?_
          refine VC.reg tab_ok [] rfl ?_
          refine VX.meek rfl ?_
          refine VX.meek (t := I64 c) (by show some (T.v (.int .i64 (IntKind.i64.wrap c)), (none : Option (Nat × List T))) = _; rw [wrap_in (by omega)]) ?_
          refine VX.meek rfl ?_
          refine VX.nil ?_
          refine VC.reg tab_ok [] rfl ?_
          iterate 2 refine VX.meek rfl ?_
          first | refine VX.meek rfl ?_ | refine VX.loadI rfl rfl au_l ?_ | refine VX.loadP rfl rfl rfl au_l ?_
          refine VX.meek rfl ?_
          refine VX.nil ?_
          refine VC.cond rfl (fun hc4 => ?_) (fun hc4 => ?_)
          · (try simp only [au_std] at hc4); have eL : leftOf c what[k]! = [] := if_pos hc4; have eR : rightOf c what[k]! = [what[k]!] := if_pos hc4; rw [eL, List.append_nil] at hL; rw [eR] at hR
            refine VC.regN tab_ok [77] rfl ?_
            refine VX.meek rfl ?_
            first | refine VX.meek rfl ?_ | refine VX.loadI rfl rfl au_l ?_ | refine VX.loadP rfl rfl rfl au_l ?_
            refine VX.newI rfl rfl ?_
            first | refine VX.appendNil rfl rfl rfl rfl rfl rfl au_sP au_sP au_sP ?_ | refine VX.append rfl rfl rfl rfl rfl rfl rfl rfl au_sP au_sP au_sP au_sP au_sP ?_
            refine VX.meek rfl ?_
            refine VX.nil ?_
            refine VC.regN tab_ok [] rfl ?_
            refine VX.meek rfl ?_
            first | refine VX.add rfl rfl (by omega) ?_ | refine VX.meek rfl ?_
            refine VX.meek rfl ?_
            refine VX.nil ?_
            refine ⟨k + 1, tl, [], by (try dsimp only); omega, ?_, (by refine ⟨[some 0, some 1, some 2, some 5], rfl, by first | trivial | decide, rfl, ?_, ?_⟩ <;> (repeat' first | exact trivial | exact CvB_n | exact CvB_d | refine CvE_app ?_ ?_ | refine CvE_cons rfl ?_ ?_ | refine CvH_cons ?_ ?_ | refine CvB_c rfl ?_ | fail) <;> first | exact au_v | (first | exact Cv.slcE rfl (by rw [hL]) (.inl rfl) | exact Cv.slcE rfl (by rw [hR, List.length_append]; rfl) (.inl rfl) | (rw [hR]; exact CvL.eq (app_r rfl rfl) (by rw [List.append_nil]; exact encL_pure cR _)) | (rw [hL]; exact CvL.pure (pureL_append (encL_pure cR _) htl)) | exact CvL.eq rfl (penC_pu _) | exact cv_g (Cv.pure (encL_pure cU _))))⟩
            exact ⟨by omega, htm2, by first | rfl | assumption, by first | rfl | assumption⟩
          · (try simp only [au_std] at hc4)
            refine VC.reg tab_ok [] rfl ?_
            iterate 2 refine VX.meek rfl ?_
            first | refine VX.meek rfl ?_ | refine VX.loadI rfl rfl au_l ?_ | refine VX.loadP rfl rfl rfl au_l ?_
            refine VX.meek rfl ?_
            first | refine VX.meek rfl ?_ | refine VX.loadI rfl rfl au_l ?_ | refine VX.loadP rfl rfl rfl au_l ?_
            first | refine VX.add rfl rfl (by omega) ?_ | refine VX.meek rfl ?_
            refine VX.meek rfl ?_
            refine VX.nil ?_
            refine VC.cond rfl (fun hc5 => ?_) (fun hc5 => ?_)
            · (try simp only [au_std] at hc5); have eL : leftOf c what[k]! = [what[k]!] := (by unfold leftOf; rw [if_neg (by omega), if_pos (by omega)]); have eR : rightOf c what[k]! = [] := (by unfold rightOf; rw [if_neg (by omega), if_pos (by omega)]); rw [eL] at hL; rw [eR, List.append_nil] at hR
              refine VC.regN tab_ok [88] rfl ?_
              refine VX.meek rfl ?_
              first | refine VX.meek rfl ?_ | refine VX.loadI rfl rfl au_l ?_ | refine VX.loadP rfl rfl rfl au_l ?_
              refine VX.newI rfl rfl ?_
              first | refine VX.appendNil rfl rfl rfl rfl rfl rfl au_sP au_sP au_sP ?_ | refine VX.append rfl rfl rfl rfl rfl rfl rfl rfl au_sP au_sP au_sP au_sP au_sP ?_
              refine VX.meek rfl ?_
              refine VX.nil ?_
              refine VC.regN tab_ok [] rfl ?_
              refine VX.meek rfl ?_
              first | refine VX.add rfl rfl (by omega) ?_ | refine VX.meek rfl ?_
              refine VX.meek rfl ?_
              refine VX.nil ?_
              refine ⟨k + 1, [], tr, by (try dsimp only); omega, ?_, (by refine ⟨[some 0, some 1, some 5, some 3], rfl, by first | trivial | decide, rfl, ?_, ?_⟩ <;> (repeat' first | exact trivial | exact CvB_n | exact CvB_d | refine CvE_app ?_ ?_ | refine CvE_cons rfl ?_ ?_ | refine CvH_cons ?_ ?_ | refine CvB_c rfl ?_ | fail) <;> first | exact au_v | (first | exact Cv.slcE rfl (by rw [hR]) (.inl rfl) | exact Cv.slcE rfl (by rw [hL, List.length_append]; rfl) (.inl rfl) | (rw [hL]; exact CvL.eq (app_r rfl rfl) (by rw [List.append_nil]; exact encL_pure cR _)) | (rw [hR]; exact CvL.pure (pureL_append (encL_pure cR _) htr)) | exact CvL.eq rfl (penC_pu _) | exact cv_g (Cv.pure (encL_pure cU _))))⟩
              exact ⟨by omega, htm2, by first | rfl | assumption, by first | rfl | assumption⟩
            · (try simp only [au_std] at hc5); have eL : leftOf c what[k]! = [⟨what[k]!.X, what[k]!.Y, c - what[k]!.X, what[k]!.H⟩] := (by unfold leftOf; rw [if_neg (by omega), if_neg (by omega)]); have eR : rightOf c what[k]! = [⟨c, what[k]!.Y, what[k]!.X + what[k]!.W - c, what[k]!.H⟩] := (by unfold rightOf; rw [if_neg (by omega), if_neg (by omega)]); rw [eL] at hL; rw [eR] at hR
              refine VC.reg tab_ok [102] rfl ?_
              iterate 2 refine VX.meek rfl ?_
              first | refine VX.meek rfl ?_ | refine VX.loadI rfl rfl au_l ?_ | refine VX.loadP rfl rfl rfl au_l ?_
              refine VX.meek rfl ?_
              first | refine VX.meek rfl ?_ | refine VX.loadI rfl rfl au_l ?_ | refine VX.loadP rfl rfl rfl au_l ?_
              iterate 2 refine VX.meek rfl ?_
              first | refine VX.meek rfl ?_ | refine VX.loadI rfl rfl au_l ?_ | refine VX.loadP rfl rfl rfl au_l ?_
              first | refine VX.sub rfl rfl (by omega) ?_ | refine VX.meek rfl ?_
              refine VX.meek rfl ?_
              first | refine VX.meek rfl ?_ | refine VX.loadI rfl rfl au_l ?_ | refine VX.loadP rfl rfl rfl au_l ?_
              refine VX.meek rfl ?_
              refine VX.newI rfl rfl ?_
              first | refine VX.appendNil rfl rfl rfl rfl rfl rfl au_sP au_sP au_sP ?_ | refine VX.append rfl rfl rfl rfl rfl rfl rfl rfl au_sP au_sP au_sP au_sP au_sP ?_
              refine VX.meek rfl ?_
              refine VX.nil ?_
              refine VC.regN tab_ok [118] rfl ?_
              iterate 3 refine VX.meek rfl ?_
              first | refine VX.meek rfl ?_ | refine VX.loadI rfl rfl au_l ?_ | refine VX.loadP rfl rfl rfl au_l ?_
              refine VX.meek rfl ?_
              first | refine VX.meek rfl ?_ | refine VX.loadI rfl rfl au_l ?_ | refine VX.loadP rfl rfl rfl au_l ?_
              refine VX.meek rfl ?_
              first | refine VX.meek rfl ?_ | refine VX.loadI rfl rfl au_l ?_ | refine VX.loadP rfl rfl rfl au_l ?_
              first | refine VX.add rfl rfl (by omega) ?_ | refine VX.meek rfl ?_
              refine VX.meek rfl ?_
              first | refine VX.sub rfl rfl (by omega) ?_ | refine VX.meek rfl ?_
              refine VX.meek rfl ?_
              first | refine VX.meek rfl ?_ | refine VX.loadI rfl rfl au_l ?_ | refine VX.loadP rfl rfl rfl au_l ?_
              refine VX.meek rfl ?_
              refine VX.newI rfl rfl ?_
              first | refine VX.appendNil rfl rfl rfl rfl rfl rfl au_sP au_sP au_sP ?_ | refine VX.append rfl rfl rfl rfl rfl rfl rfl rfl au_sP au_sP au_sP au_sP au_sP ?_
              refine VX.meek rfl ?_
              refine VX.nil ?_
              refine VC.regN tab_ok [] rfl ?_
              refine VX.meek rfl ?_
              first | refine VX.add rfl rfl (by omega) ?_ | refine VX.meek rfl ?_
              refine VX.meek rfl ?_
              refine VX.nil ?_
              refine ⟨k + 1, [], [], by (try dsimp only); omega, ?_, (by refine ⟨[some 0, some 1, some 5, some 6], rfl, by first | trivial | decide, rfl, ?_, ?_⟩ <;> (repeat' first | exact trivial | exact CvB_n | exact CvB_d | refine CvE_app ?_ ?_ | refine CvE_cons rfl ?_ ?_ | refine CvH_cons ?_ ?_ | refine CvB_c rfl ?_ | fail) <;> first | exact au_v | (first | exact Cv.slcE rfl (by rw [hL, List.length_append]; rfl) (.inl rfl) | exact Cv.slcE rfl (by rw [hR, List.length_append]; rfl) (.inl rfl) | (rw [hL]; exact CvL.eq (app_r rfl rfl) (by rw [List.append_nil]; exact encL_pure cR _)) | (rw [hR]; exact CvL.eq (app_r rfl rfl) (by rw [List.append_nil]; exact encL_pure cR _)) | exact CvL.eq rfl (penC_pu _) | exact cv_g (Cv.pure (encL_pure cU _))))⟩
              exact ⟨by omega, htm2, by first | rfl | assumption, by first | rfl | assumption⟩
      · (try simp only [au_std] at hc2); obtain rfl : k = what.length := (by omega); have hlk := hlL what.length; have hrk := hlR what.length; rw [List.take_length] at htm hlk hrk ⊢
        have hin := parts_in (c := c) htm
        have hiL := left_i64 hcb hwi
        have hiR := right_i64 hcb hwi
        have hap : ∀ x y, inL (bandOf (what.flatMap (leftOf c))) x y → ¬ inL (bandOf (what.flatMap (rightOf c))) x y := fun x y a b => parts_apart a b
        generalize what.flatMap (leftOf c) = A at *
        generalize what.flatMap (rightOf c) = B at *
        have e1 : paintL w (fun x y => inL (bandOf clip) x y ∧ inL (bandOf what) x y) (mixF C C.fo) px = paintL w (fun x y => inL (bandOf clip) x y ∧ inL (bandOf B) x y) (mixF C C.fo) (paintL w (fun x y => inL (bandOf clip) x y ∧ inL (bandOf A) x y) (mixF C C.fo) px) := paint_two hl (fun x y => by rw [hin]; constructor; (rintro ⟨a, b | b⟩; exact .inl ⟨a, b⟩; exact .inr ⟨a, b⟩); (rintro (⟨a, b⟩ | ⟨a, b⟩); exact ⟨a, .inl b⟩; exact ⟨a, .inr b⟩)) (fun x y a b => hap x y a.2 b.2)
        have e2 : paintL w (fun x y => inL (bandOf what) x y ∧ inL (bandOf clip) x y) (mixF C C.fo) px = paintL w (fun x y => inL (bandOf clip) x y ∧ inL (bandOf what) x y) (mixF C C.fo) px := paint_congr hl (fun a b _ _ _ _ => and_comm) (fun _ _ _ _ _ _ _ => rfl)
        have hlA : (paintL w (fun x y => inL (bandOf clip) x y ∧ inL (bandOf A) x y) (mixF C C.fo) px).length = w * h := (paintL_len _ _ _ _).trans hl
        have hbA : ∀ v ∈ paintL w (fun x y => inL (bandOf clip) x y ∧ inL (bandOf A) x y) (mixF C C.fo) px, 0 ≤ v ∧ v < 256 := paintL_bd hb (mixF_bd _ _)
        have hlW : (paintL w (fun x y => inL (bandOf clip) x y ∧ inL (bandOf what) x y) (mixF C C.fo) px).length = w * h := (paintL_len _ _ _ _).trans hl
        have hbW : ∀ v ∈ paintL w (fun x y => inL (bandOf clip) x y ∧ inL (bandOf what) x y) (mixF C C.fo) px, 0 ≤ v ∧ v < 256 := paintL_bd hb (mixF_bd _ _)
        refine VC.view ([(17, .islc (encL cR A) A.length none), (18, .islc (encL cR B) B.length none), (15, .ptr 0 0), (16, .ptr 1 0)]) ([.c [I64 w, I64 h, .islc (encL cU px) px.length none], .c (penC C)]) [1, 2] rfl (by refine ⟨[some 0, some 1], rfl, by first | trivial | decide, rfl, ?_, ?_⟩ <;> (repeat' first | exact trivial | exact CvB_n | exact CvB_d | refine CvE_app ?_ ?_ | refine CvE_cons rfl ?_ ?_ | refine CvH_cons ?_ ?_ | refine CvB_c rfl ?_ | fail) <;> first | exact au_v | (first | exact Cv.fslcA ⟨rfl, by simp⟩ (CvL.pure (encL_pure cR _)) | exact CvL.eq rfl (penC_pu _) | exact cv_g (Cv.pure (encL_pure cU _)))) ?_
        refine VC.exit ?_
        refine VC.drw tab_ok [] [_, _, _, _, _, _, _, _] rfl (by kernel_rfl) (by kernel_rfl) ?_
        first | refine VX.meek rfl ?_ | refine VX.loadI rfl rfl au_l ?_ | refine VX.loadP rfl rfl rfl au_l ?_
        refine VX.meek rfl ?_
        refine VX.callP0 rfl rfl rfl (of_p clip (by omega) (rI_all hci)) ?_
        refine VX.meek rfl ?_
        refine VX.callP0 rfl rfl rfl (of_p what (by omega) (rI_all hwi)) ?_
        first | refine VX.meek rfl ?_ | refine VX.loadI rfl rfl au_l ?_ | refine VX.loadP rfl rfl rfl au_l ?_
        refine VX.callP0 rfl rfl rfl (region_w w h px _ (bandOf clip) (bandOf what) C (with_p w h px (bandOf clip) (bandOf what) C C.fo hw.2 hh.2 hl hb (Reg.of clip) (Reg.of what) (by omega) hoC hfC hpC)) ?_
        refine VX.new rfl rfl ?_
        refine VX.nil ?_
        refine VX.store rfl rfl rfl rfl rfl au_sP rfl ?_
        refine VX.nil ?_
        refine VC.drw tab_ok [] [_, _, _, _, _, _, _, _, _, _, _, _, _, _] rfl (by kernel_rfl) (by kernel_rfl) ?_
        first | refine VX.meek rfl ?_ | refine VX.loadI rfl rfl au_l ?_ | refine VX.loadP rfl rfl rfl au_l ?_
        refine VX.meek rfl ?_
        refine VX.callP0 rfl rfl rfl (of_p clip (by omega) (rI_all hci)) ?_
        refine VX.meek rfl ?_
        refine VX.callP0 rfl rfl rfl (of_p A (by omega) hiL) ?_
        first | refine VX.meek rfl ?_ | refine VX.loadI rfl rfl au_l ?_ | refine VX.loadP rfl rfl rfl au_l ?_
        refine VX.callP0 rfl rfl rfl (region_w w h px _ (bandOf clip) (bandOf A) C (with_p w h px (bandOf clip) (bandOf A) C C.fo hw.2 hh.2 hl hb (Reg.of clip) (Reg.of A) (by omega) hoC hfC hpC)) ?_
        refine VX.meek rfl ?_
        refine VX.callP0 rfl rfl rfl (of_p clip (by omega) (rI_all hci)) ?_
        refine VX.meek rfl ?_
        refine VX.callP0 rfl rfl rfl (of_p B (by omega) hiR) ?_
        first | refine VX.meek rfl ?_ | refine VX.loadI rfl rfl au_l ?_ | refine VX.loadP rfl rfl rfl au_l ?_
        refine VX.callP0 rfl rfl rfl (e1 ▸ region_w w h _ _ (bandOf clip) (bandOf B) C (with_p w h _ (bandOf clip) (bandOf B) C C.fo hw.2 hh.2 hlA hbA (Reg.of clip) (Reg.of B) (by omega) hoC hfC hpC)) ?_
        refine VX.new rfl rfl ?_
        refine VX.nil ?_
        refine VX.store rfl rfl rfl rfl rfl au_sP rfl ?_
        refine VX.nil ?_
        refine VC.drw tab_ok [] [_, _, _, _, _, _, _, _, _, _, _, _, _, _, _] rfl (by kernel_rfl) (by kernel_rfl) ?_
        first | refine VX.meek rfl ?_ | refine VX.loadI rfl rfl au_l ?_ | refine VX.loadP rfl rfl rfl au_l ?_
        first | refine VX.meek rfl ?_ | refine VX.loadI rfl rfl au_l ?_ | refine VX.loadP rfl rfl rfl au_l ?_
        refine VX.callP0 rfl rfl rfl (gsame_r w h _ _ hw.2 hh.2 hlW hlW hbW hbW rfl) ?_
        refine VX.meek rfl ?_
        refine' VX.merge (d := 153) [_, _, _, _, _, _, _, _, _, _] rfl ?_ rfl ?_
        rotate_left
        · refine VX.guard rfl rfl (fun hb22_3 => ?_) (fun hb22_3 => ?_)
          · have ghb22_3 := hb22_3
            try simp only [au_std, Bool.not_true, Bool.not_false] at ghb22_3
            first | refine VX.meek rfl ?_ | refine VX.loadI rfl rfl au_l ?_ | refine VX.loadP rfl rfl rfl au_l ?_
            refine VX.guardT rfl rfl hb22_3 ?_
            first | refine VX.meek rfl ?_ | refine VX.loadI rfl rfl au_l ?_ | refine VX.loadP rfl rfl rfl au_l ?_
            refine VX.guardT rfl rfl hb22_3 ?_
            refine VX.meek rfl ?_
            refine VX.guardT rfl rfl hb22_3 ?_
            refine VX.callP0 rfl rfl rfl (of_p what (by omega) (rI_all hwi)) ?_
            refine VX.guardT rfl rfl hb22_3 ?_
            refine VX.meek rfl ?_
            refine VX.guardT rfl rfl hb22_3 ?_
            refine VX.callP0 rfl rfl rfl (of_p clip (by omega) (rI_all hci)) ?_
            refine VX.guardT rfl rfl hb22_3 ?_
            first | refine VX.meek rfl ?_ | refine VX.loadI rfl rfl au_l ?_ | refine VX.loadP rfl rfl rfl au_l ?_
            refine VX.guardT rfl rfl hb22_3 ?_
            refine VX.callP0 rfl rfl rfl (e2 ▸ region_w w h px _ (bandOf what) (bandOf clip) C (with_p w h px (bandOf what) (bandOf clip) C C.fo hw.2 hh.2 hl hb (Reg.of what) (Reg.of clip) (by omega) hoC hfC hpC)) ?_
            refine VX.guardT rfl rfl hb22_3 ?_
            refine VX.callP0 rfl rfl rfl (gsame_r w h _ _ hw.2 hh.2 hlW hlW hbW hbW rfl) ?_
            refine VX.pickA rfl (fun _ => rfl) ?_
            exact VX.nil ⟨rfl, rfl⟩
          · refine VX.guardF rfl rfl hb22_3 ?_
            refine VX.guardF rfl rfl hb22_3 ?_
            refine VX.guardF rfl rfl hb22_3 ?_
            refine VX.guardF rfl rfl hb22_3 ?_
            refine VX.guardF rfl rfl hb22_3 ?_
            refine VX.guardF rfl rfl hb22_3 ?_
            refine VX.guardF rfl rfl hb22_3 ?_
            refine VX.guardF rfl rfl hb22_3 ?_
            exact VX.pickA rfl (fun h => absurd (h.symm.trans hb22_3) (by decide)) (VX.nil ⟨rfl, rfl⟩)
        refine VX.meek rfl ?_
        refine VX.nil ?_
        refine VX.nil ?_
        refine VC.ret ?_
        exact ⟨trivial, _, rfl, Cv.eq (by first | rfl | (simp [*]; done)) rfl⟩
end
section
open Go.ChangeShapes Go.WideShapes Go.ChangeAt Go.RowKit Go.WideElems
def rowed (P : Program) (ts : List TypeId) : Bool := ts.all fun t => P.readableRec t && decide (t < P.types.size)
theorem trodAll_below {H : Type} {enc : TypeId × Value → H} {P : Program} (hl : laidOutB P = true) {W W' : World} (hb : Below W.heap.size W W') :
    ∀ {ts : List TypeId} {vs : List Value} {ds : List (DataW H)} {p : List MemPlace}, rowed P ts = true → (∀ x ∈ p, x.block < W.heap.size) →
      DataW.TrodAll enc P W 0 (fun _ => true) true ts vs ds p → DataW.TrodAll enc P W' 0 (fun b => decide (b < W.heap.size)) true ts vs ds p
  | [], _, _, _, _, _, h => by
    obtain ⟨rfl, rfl, rfl⟩ := trodAll_nil h
    exact trodAll_mk0
  | t :: ts, _, _, _, hr, hlt, h => by
    obtain ⟨v, vs1, d, ds1, a, b, rfl, rfl, rfl, h1, h2⟩ := trodAll_cons h
    simp only [rowed, List.all_cons, Bool.and_eq_true, decide_eq_true_eq] at hr
    refine trodAll_cons_mk (Below.trod hl hr.1.1 hr.1.2 h1 hb (fun x hx => hlt x (by simp [hx]))) ?_
    exact trodAll_below hl hb (by simpa [rowed] using hr.2) (fun x hx => hlt x (by simp [hx])) h2
theorem post_law {H : Type} {enc : TypeId × Value → H} {P : Program} {f : Func} {s : ChangeSpec} {W W' : World} {args : Array Value} {ds gs : List (DataW H)} {before : List MemPlace} {tb : TypeId}
    (hl : laidOutB P = true) (hps : rowed P f.params.toList = true) (hvs : varsRowed P s.vars = true) (hres : f.resultTypes = #[tb]) (htb : P.underlying tb = some .bool)
    (hW : DataW.Whole enc P f.params.toList s.vars false W args.toList ds gs before)
    (h1 : (s.fn H (ds ++ gs)).results = [.lit (.bool true)]) (h2 : (s.fn H (ds ++ gs)).args = ds) (h3 : (s.fn H (ds ++ gs)).vars = gs)
    (hb : Below W.heap.size W W') : s.post enc P f false true false false W args (.bool true) W' := by
  have hlt := hW.lt
  have hW' := hW
  obtain ⟨p, q, hA, hV, rfl, hfz, hnd⟩ := hW
  refine ⟨ds, gs, p ++ q, [], p, q, hW', ?_, ?_, ?_, hb.frame _, fun h => by cases h⟩
  · rw [h1, hres]
    exact trodAll_cons_mk (shut_bool htb true) trodAll_mk0
  · rw [h2]
    exact trodAll_below hl hb hps (fun x hx => hlt x (by simp [hx])) hA
  · rw [h3]
    exact Below.trodVars hl hb hvs hV
end
end Go.Proofs.YtelhkfdpkjkpjaaGreat
