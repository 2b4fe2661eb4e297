/-
  The proof's lemmas, part 4.
-/
import Derived.Test.YtjnomaiejmgedaaTpdc
import Derived.OpenVars
import Derived.Carry
namespace Go.Proofs.Ytjnomaiejmgedaa
set_option linter.unusedSimpArgs false
set_option linter.unusedVariables false
section
open Go.RowKit
set_option maxRecDepth 10000
set_option maxHeartbeats 1000000
def movedB (S S' : Scr) : Bool := ((S.x : Int) != (S'.x : Int)) || ((S.y : Int) != (S'.y : Int))
def askB (S S' : Scr) (k : Nat) : Bool := (S.rowN k != S'.rowN k) || (movedB S S' && (((k : Int) == (S.y : Int)) || ((k : Int) == (S'.y : Int))))
def accL (ask : Nat → Bool) (t : Trm) (k : Nat) : List Rq := ((List.range k).filter ask).flatMap (drawnL t)
theorem accL_t {ask : Nat → Bool} {t : Trm} {k : Nat} (h : ask k = true) : accL ask t (k + 1) = accL ask t k ++ drawnL t k := by
  unfold accL
  rw [List.range_succ, List.filter_append, List.flatMap_append, List.filter_cons_of_pos h]
  simp
theorem accL_f {ask : Nat → Bool} {t : Trm} {k : Nat} (h : ask k = false) : accL ask t (k + 1) = accL ask t k := by
  unfold accL
  rw [List.range_succ, List.filter_append, List.flatMap_append, List.filter_cons_of_neg (by rw [h]; simp)]
  simp
theorem drawnL_len (t : Trm) (y : Nat) : (drawnL t y).length ≤ 2 := by unfold drawnL; split <;> simp
theorem accL_len (ask : Nat → Bool) (t : Trm) (k : Nat) : (accL ask t k).length ≤ 2 * k := by
  induction k with
  | zero => simp [accL]
  | succ k ih =>
    cases h : ask k with
    | true => rw [accL_t h, List.length_append]; have := drawnL_len t k; omega
    | false => rw [accL_f h]; omega
theorem scr_byte_size (S : Scr) (l : List UInt8) : (S.bytes l).cols = S.cols ∧ (S.bytes l).rows = S.rows := by
  have hk : ∀ (S : Scr) x, (S.keep x).cols = S.cols ∧ (S.keep x).rows = S.rows := fun S x => by unfold Scr.keep; split; exact ⟨rfl, rfl⟩; split <;> exact ⟨rfl, rfl⟩
  have hsc : ∀ S : Scr, S.scroll.cols = S.cols ∧ S.scroll.rows = S.rows := fun S => by unfold Scr.scroll Scr.withGrid; exact hk S _
  have hle : ∀ S : Scr, S.lineEnd.cols = S.cols ∧ S.lineEnd.rows = S.rows := fun S => by unfold Scr.lineEnd; split; exact ⟨rfl, rfl⟩; exact hsc _
  have hbl : ∀ (S : Scr) n f t, (S.blank n f t).cols = S.cols ∧ (S.blank n f t).rows = S.rows := by
    intro S n f t
    unfold Scr.blank Scr.clear
    repeat' split
    all_goals exact ⟨rfl, rfl⟩
  have hcm : ∀ (S : Scr) k n m, (S.cmd k n m).cols = S.cols ∧ (S.cmd k n m).rows = S.rows := by
    intro S k n m
    unfold Scr.cmd
    repeat' split
    all_goals first | exact ⟨rfl, rfl⟩ | exact hbl _ _ _ _
  have hb : ∀ (S : Scr) v, (S.byte v).cols = S.cols ∧ (S.byte v).rows = S.rows := fun S v => by
    unfold Scr.byte
    split
    · split <;> exact ⟨rfl, rfl⟩
    split
    · unfold Scr.told
      split
      · split
        · exact ⟨rfl, rfl⟩
        · split <;> exact ⟨rfl, rfl⟩
      split
      · exact ⟨rfl, rfl⟩
      · exact hcm _ _ _ _
    · unfold Scr.plain
      split
      · unfold Scr.letter; split
        · exact hle S
        · exact ⟨rfl, rfl⟩
      split
      · exact hle S
      repeat' split
      all_goals exact ⟨rfl, rfl⟩
  unfold Scr.bytes
  induction l generalizing S with
  | nil => exact ⟨rfl, rfl⟩
  | cons v l ih => rw [List.foldl_cons]; have := ih (S.byte v); rw [(hb S v).1, (hb S v).2] at this; exact this
abbrev wrote (t : Trm) (b : List UInt8) : Trm := { t with scr := t.scr.bytes b }
def writeL (t : Trm) (b : List UInt8) : List Rq := accL (askB t.scr (t.scr.bytes b)) (wrote t b) t.scr.rows
section
variable {q : Bool} {P : Program} {tab : Tab} {im : List Nat} {ds : List (Option Nat)} {l : List Oper} {E : Env} {H : Hp} {K : Env → Hp → Prop} {d : Nat} {ty : TypeId} {pos : String} {after : Array Edge}
theorem VX.strNeq [Dr] {x y : Operand} {t t2 : Nat} {a b : List UInt8} (hx : E.opd x = some (strT a)) (hy : E.opd y = some (strT b)) (k : VX q P tab im ds l ((d, BL (a != b)) :: E) H K) : VX q P tab im ds (⟨some d, .binOp .neq t x y t2, ty, pos, after, none⟩ :: l) E H K := by
  refine VX.meek (t := BL (a != b)) ?_ k
  simp only [opM, hx, hy, mBin, binStr]
  rw [str_beq]
  rfl
end
theorem twrite_p (w p f : Int) (S : Scr) (ty b : List UInt8) (ok : S.Ok) (hm : S.most = 0 ∨ 2 ≤ S.most) (hl : b.length ≤ 100000) : CallP Try.prog 12 [trmT ⟨true, w, p, f, S, ty⟩, strT b] (.tup [trmT ⟨true, w, p, f, S.bytes b, ty⟩, rqT (writeL ⟨true, w, p, f, S, ty⟩ b)]) := by
  have hwr := write_p S b ok hm hl
  have ok2 := ok.bytes b
  have hsz := scr_byte_size S b
  have hr2 := ok.r2
  have hr1 := ok.r1
  unfold writeL wrote
  show CallP _ _ _ (.tup [_, rqT (accL (askB S (S.bytes b)) ⟨true, w, p, f, S.bytes b, ty⟩ S.rows)])
  generalize S.bytes b = S' at *
  have hp1 := trm_pure ⟨true, w, p, f, S, ty⟩
  have hp2 := trm_pure ⟨true, w, p, f, S', ty⟩
  have hps := scr_pure S
  have hps2 := scr_pure S'
  have hmv : movedB S S' = (((S.x : Int) != (S'.x : Int)) || ((S.y : Int) != (S'.y : Int))) := rfl
  have hask : ∀ k, askB S S' k = ((S.rowN k != S'.rowN k) || (movedB S S' && (((k : Int) == (S.y : Int)) || ((k : Int) == (S'.y : Int))))) := fun k => rfl
  have hal := accL_len (askB S S') (⟨true, w, p, f, S', ty⟩ : Trm)
  have hsize : CallP Try.prog 22 [scrT S'] (.tup [I64 S.cols, I64 S.rows]) := by rw [← hsz.1, ← hsz.2]; exact size_c S'
  refine CallP.intro2 au_pu au_pu ?_
  refine CallT.intro tab_ok Try.func12 rfl (by kernel_rfl) (Nat.le_of_ble_eq_true rfl) ?_
  refine VC.reg tab_ok [] rfl ?_
  refine VX.new rfl rfl ?_
  refine VX.new rfl rfl ?_
  refine VX.meek rfl ?_
  refine VX.nil ?_
  refine VC.seq ?_
  refine VC.reg tab_ok [] rfl ?_
  refine VX.meek rfl ?_
  first | refine VX.meek rfl ?_ | refine VX.loadI rfl rfl au_l ?_ | refine VX.loadP rfl rfl rfl au_l ?_
  refine VX.meek rfl ?_
  refine VX.nil ?_
  refine VC.condF rfl ?_
  refine VC.skip ?_
  refine VC.reg tab_ok [] rfl ?_
  refine VX.meek rfl ?_
  first | refine VX.meek rfl ?_ | refine VX.loadI rfl rfl au_l ?_ | refine VX.loadP rfl rfl rfl au_l ?_
  refine VX.new rfl rfl ?_
  refine VX.store rfl rfl rfl rfl rfl au_sY rfl ?_
  refine VX.nil ?_
  refine VC.reg tab_ok [] rfl ?_
  first | refine VX.meek rfl ?_ | refine VX.loadI rfl rfl au_l ?_ | refine VX.loadP rfl rfl rfl au_l ?_
  refine VX.meek rfl ?_
  refine VX.callP0 rfl rfl rfl (hwr) ?_
  refine VX.meek rfl ?_
  refine VX.store rfl rfl rfl rfl rfl au_sY rfl ?_
  refine VX.nil ?_
  refine VC.reg tab_ok [] rfl ?_
  first | refine VX.meek rfl ?_ | refine VX.loadI rfl rfl au_l ?_ | refine VX.loadP rfl rfl rfl au_l ?_
  refine VX.callP0 rfl rfl rfl (cursor_p S) ?_
  iterate 5 refine VX.meek rfl ?_
  refine VX.nil ?_
  refine VC.reg tab_ok [] rfl ?_
  refine VX.meek rfl ?_
  first | refine VX.meek rfl ?_ | refine VX.loadI rfl rfl au_l ?_ | refine VX.loadP rfl rfl rfl au_l ?_
  refine VX.callP0 rfl rfl rfl (cursor_p S') ?_
  iterate 5 refine VX.meek rfl ?_
  refine VX.nil ?_
  refine VC.reg tab_ok [] rfl ?_
  iterate 4 refine VX.meek rfl ?_
  refine' VX.merge (d := 44) [_, _, _, _] rfl ?_ rfl ?_
  rotate_left
  · refine VX.guard rfl rfl (fun hb7_3 => ?_) (fun hb7_3 => ?_)
    · have ghb7_3 := hb7_3
      try simp only [au_std, Bool.not_true, Bool.not_false] at ghb7_3
      refine VX.meek rfl ?_
      refine VX.guardT rfl rfl hb7_3 ?_
      refine VX.meek rfl ?_
      refine VX.guardT rfl rfl hb7_3 ?_
      refine VX.meek rfl ?_
      refine VX.pickO rfl (fun _ => rfl) ?_
      exact VX.nil ⟨rfl, rfl⟩
    · refine VX.guardF rfl rfl hb7_3 ?_
      refine VX.guardF rfl rfl hb7_3 ?_
      exact VX.pickO rfl (fun h => absurd (h.symm.trans hb7_3) (by decide)) (VX.nil ⟨rfl, rfl⟩)
  refine VX.meek rfl ?_
  refine VX.nil ?_
  refine VC.reg tab_ok [] rfl ?_
  refine VX.meek rfl ?_
  refine VX.nil ?_
  refine VC.reg tab_ok [] rfl ?_
  refine VX.meek rfl ?_
  first | refine VX.meek rfl ?_ | refine VX.loadI rfl rfl au_l ?_ | refine VX.loadP rfl rfl rfl au_l ?_
  refine VX.callP0 rfl rfl rfl (hsize) ?_
  iterate 5 refine VX.meek rfl ?_
  refine VX.nil ?_
  refine VC.seq ?_
  refine VC.reg tab_ok [] rfl ?_
  iterate 2 refine VX.meek rfl ?_
  refine VX.nil ?_
  refine VC.block ?_
  refine VC.loopS (σ := Nat) (fun i => S.rows - i) (fun i => i ≤ S.rows) (fun i => [(52, I64 i), (51, I64 S.rows), (2, .ptr 0 0), (4, .ptr 1 0), (6, .ptr 2 0), (8, I64 S.y), (10, I64 S'.y), (11, BL (movedB S S')), (12, .slc 3 0 (accL (askB S S') (⟨true, w, p, f, S', ty⟩ : Trm) i).length 4 none)]) (fun i => [.c (trmC ⟨true, w, p, f, S', ty⟩), .c zTrm, .c (scrC S (.islc (encL cY S.grid) S.grid.length none) (.islc (encL cStr S.kept) S.kept.length none)), .c (encL cRq (accL (askB S S') (⟨true, w, p, f, S', ty⟩ : Trm) i))]) [] rfl (0) ?_ ?_ ?_
  · refine ⟨[some 0, some 1, some 2, none], rfl, by first | trivial | decide, rfl, ?_, ?_⟩ <;> (repeat' first | exact trivial | exact CvB_n | exact CvB_d | exact CvB_o rfl | refine CvE_app ?_ ?_ | refine CvE_cons rfl ?_ ?_ | refine CvH_cons ?_ ?_ | refine CvB_c rfl ?_ | fail) <;> first | exact au_v | (first | exact CvL.pure hps | exact CvL.eq (by kernel_rfl) (trm_pure _) | exact CvL.pure rfl)
  · (try dsimp only); omega
  rintro i hi
  refine VC.reg tab_ok [] rfl ?_
  refine VX.meek rfl ?_
  refine VX.nil ?_
  refine VC.seq ?_
  refine VC.cond rfl (fun hc1 => ?_) (fun hc1 => ?_)
  · (try simp only [au_std] at hc1); have hil : i < S.rows := (by omega); have hal2 := hal i
    have hrow := row_p S i ok hil
    have hrow2 := row_p S' i ok2 (by rw [hsz.2]; exact hil)
    have hdr := drawn_p (⟨true, w, p, f, S', ty⟩ : Trm) i ok2 (by show i < S'.rows; rw [hsz.2]; exact hil)
    have hdl := drawnL_len (⟨true, w, p, f, S', ty⟩ : Trm) i
    have haT := @accL_t (askB S S') (⟨true, w, p, f, S', ty⟩ : Trm) i
    have haF := @accL_f (askB S S') (⟨true, w, p, f, S', ty⟩ : Trm) i
    rw [hask] at haT haF
    refine VC.skip ?_
    refine VC.seq ?_
    refine VC.block ?_
    refine VC.reg tab_ok [] rfl ?_
    iterate 2 refine VX.meek rfl ?_
    refine VX.nil ?_
    refine VC.drw tab_ok [] [_, _, _, _, _, _, _, _, _, _, _, _, _, _, _, _, _, _, _, _, _] rfl (by kernel_rfl) (by kernel_rfl) ?_
    first | refine VX.meek rfl ?_ | refine VX.loadI rfl rfl au_l ?_ | refine VX.loadP rfl rfl rfl au_l ?_
    refine VX.meek rfl ?_
    refine VX.callP0 rfl rfl rfl (hrow) ?_
    refine VX.meek rfl ?_
    first | refine VX.meek rfl ?_ | refine VX.loadI rfl rfl au_l ?_ | refine VX.loadP rfl rfl rfl au_l ?_
    refine VX.meek rfl ?_
    refine VX.callP0 rfl rfl rfl (hrow2) ?_
    refine VX.strNeq rfl rfl ?_
    refine VX.meek rfl ?_
    refine' VX.merge (d := 75) [_, _, _, _, _, _, _, _, _, _, _, _] rfl ?_ rfl ?_
    rotate_left
    · refine VX.guard rfl rfl (fun hb13_8 => ?_) (fun hb13_8 => ?_)
      · have ghb13_8 := hb13_8
        try simp only [au_std, Bool.not_true, Bool.not_false] at ghb13_8
        refine VX.meek rfl ?_
        refine VX.guardT rfl rfl hb13_8 ?_
        refine VX.meek rfl ?_
        refine' VX.merge (d := 74) [_, _, _, _, _, _, _, _, _] rfl ?_ rfl ?_
        rotate_left
        · refine VX.guard rfl rfl (fun hb13_10 => ?_) (fun hb13_10 => ?_)
          · have ghb13_10 := hb13_10
            try simp only [au_std, Bool.not_true, Bool.not_false] at ghb13_10
            refine VX.meek rfl ?_
            refine VX.guardT rfl rfl hb13_10 ?_
            refine VX.meek rfl ?_
            refine VX.guardT rfl rfl hb13_10 ?_
            refine VX.meek rfl ?_
            refine VX.guardT rfl rfl hb13_10 ?_
            refine VX.meek rfl ?_
            refine' VX.merge (d := 73) [_, _, _, _] rfl ?_ rfl ?_
            rotate_left
            · refine VX.guard rfl rfl (fun hb13_14 => ?_) (fun hb13_14 => ?_)
              · have ghb13_14 := hb13_14
                try simp only [au_std, Bool.not_true, Bool.not_false] at ghb13_14
                refine VX.meek rfl ?_
                refine VX.guardT rfl rfl hb13_14 ?_
                refine VX.meek rfl ?_
                refine VX.guardT rfl rfl hb13_14 ?_
                refine VX.meek rfl ?_
                refine VX.guardT rfl rfl hb13_10 ?_
                refine VX.pickO rfl (fun _ => rfl) ?_
                exact VX.nil ⟨rfl, rfl⟩
              · refine VX.guardF rfl rfl hb13_14 ?_
                refine VX.guardF rfl rfl hb13_14 ?_
                refine VX.guardT rfl rfl hb13_10 ?_
                exact VX.pickO rfl (fun h => absurd (h.symm.trans hb13_14) (by decide)) (VX.nil ⟨rfl, rfl⟩)
            refine VX.guardT rfl rfl hb13_8 ?_
            refine VX.pickA rfl (fun _ => rfl) ?_
            exact VX.nil ⟨rfl, rfl⟩
          · refine VX.guardF rfl rfl hb13_10 ?_
            refine VX.guardF rfl rfl hb13_10 ?_
            refine VX.guardF rfl rfl hb13_10 ?_
            refine VX.guardU rfl rfl ?_
            refine VX.guardU rfl rfl ?_
            refine VX.guardU rfl rfl ?_
            refine VX.guardF rfl rfl hb13_10 ?_
            refine VX.guardT rfl rfl hb13_8 ?_
            exact VX.pickA rfl (fun h => absurd (h.symm.trans hb13_10) (by decide)) (VX.nil ⟨rfl, rfl⟩)
        refine VX.pickO rfl (fun _ => rfl) ?_
        exact VX.nil ⟨rfl, rfl⟩
      · refine VX.guardF rfl rfl hb13_8 ?_
        refine VX.guardU rfl rfl ?_
        refine VX.guardU rfl rfl ?_
        refine VX.guardU rfl rfl ?_
        refine VX.guardU rfl rfl ?_
        refine VX.guardU rfl rfl ?_
        refine VX.guardU rfl rfl ?_
        refine VX.guardU rfl rfl ?_
        refine VX.guardU rfl rfl ?_
        refine VX.guardF rfl rfl hb13_8 ?_
        exact VX.pickO rfl (fun h => absurd (h.symm.trans hb13_8) (by decide)) (VX.nil ⟨rfl, rfl⟩)
    refine VX.nil ?_
    refine VX.nil ?_
    refine VC.cond rfl (fun hc2 => ?_) (fun hc2 => ?_)
    · have haT2 := haT (by simpa using hc2)
      refine VC.regN tab_ok [] rfl ?_
      refine VX.meek rfl ?_
      first | refine VX.meek rfl ?_ | refine VX.loadI rfl rfl au_l ?_ | refine VX.loadP rfl rfl rfl au_l ?_
      refine VX.meek rfl ?_
      refine VX.callP0 rfl rfl rfl (hdr) ?_
      refine' VX.append rfl rfl rfl rfl rfl rfl (src_c cRq rfl rfl rfl rfl) rfl ?h1 ?h2 ?h3 ?h4 ?h5 ?_
      case h1 => rw [encL_len, cRq_sz]; omega
      case h2 => exact Nat.le_trans (Nat.mul_le_mul_right _ (show _ ≤ 1000 by omega)) (by decide)
      case h3 => omega
      case h4 => rw [encL_len]; rfl
      case h5 => exact encL_cb _ _
      refine VX.meek rfl ?_
      refine VX.nil ?_
      refine VC.regN tab_ok [] rfl ?_
      first | refine VX.add rfl rfl (by omega) ?_ | refine VX.meek rfl ?_
      refine VX.meek rfl ?_
      refine VX.nil ?_
      refine ⟨i + 1, by (try dsimp only); omega, ?_, (by refine ⟨[some 0, some 1, some 2, some 4], rfl, by first | trivial | decide, rfl, ?_, ?_⟩ <;> (repeat' first | exact trivial | exact CvB_n | exact CvB_d | exact CvB_o rfl | refine CvE_app ?_ ?_ | refine CvE_cons rfl ?_ ?_ | refine CvH_cons ?_ ?_ | refine CvB_c rfl ?_ | fail) <;> first | exact au_v | (first | exact CvL.pure hps | exact CvL.pure (trm_pure _) | exact CvL.pure rfl | exact Cv.slc (by rw [haT2, List.length_append]; rfl) (.inl rfl) | (rw [haT2, List.length_append]; exact Cv.slc rfl (.inr rfl)) | exact CvL.eq (by rw [haT2, encL_append, List.drop_zero, List.take_of_length_le (by rw [encL_len, cRq_sz]; exact Nat.le_refl _)]) (encL_pure _ _)))⟩
      (try dsimp only); omega
    · have haF2 := haF (by simpa using hc2)
      refine VC.skip ?_
      refine VC.regN tab_ok [] rfl ?_
      first | refine VX.add rfl rfl (by omega) ?_ | refine VX.meek rfl ?_
      refine VX.meek rfl ?_
      refine VX.nil ?_
      refine ⟨i + 1, by (try dsimp only); omega, ?_, (by refine ⟨[some 0, some 1, some 2, some 3], rfl, by first | trivial | decide, rfl, ?_, ?_⟩ <;> (repeat' first | exact trivial | exact CvB_n | exact CvB_d | exact CvB_o rfl | refine CvE_app ?_ ?_ | refine CvE_cons rfl ?_ ?_ | refine CvH_cons ?_ ?_ | refine CvB_c rfl ?_ | fail) <;> first | exact au_v | (first | exact CvL.pure hps | exact CvL.pure (trm_pure _) | exact CvL.pure rfl | (rw [haF2]; exact Cv.slc rfl (.inl rfl)) | exact CvL.eq (by rw [haF2]) (encL_pure _ _)))⟩
      (try dsimp only); omega
  · (try simp only [au_std] at hc1); obtain rfl : i = S.rows := (by omega)
    refine VC.exit ?_
    refine VC.reg tab_ok [] rfl ?_
    first | refine VX.meek rfl ?_ | refine VX.loadI rfl rfl au_l ?_ | refine VX.loadP rfl rfl rfl au_l ?_
    refine VX.meek rfl ?_
    refine VX.store rfl rfl rfl rfl rfl au_sY rfl ?_
    refine VX.meek rfl ?_
    refine VX.nil ?_
    refine VC.ret ?_
    exact ⟨trivial, _, rfl, Cv.tup (CvL.cons (Cv.agg (CvL.pure (trm_pure _))) (CvL.cons (Cv.fslc0 ⟨rfl, by simp⟩ (CvL.pure (encL_pure _ _))) CvL.nil))⟩
end
section
open Go.RowKit
set_option maxRecDepth 10000
set_option maxHeartbeats 1000000
def trmA : Trm := ⟨true, 2097153, 2097154, 2097155, blankScr 2 1 100, []⟩
theorem awake57_p : CallP Try.prog 8 [] (BL true) := by
  have hnew : CallP Try.prog 4 [I64 2, I64 2, I64 1] (.tup [trmT trmA, (.islc (openC 2097152 2 1) 6 (some 6)), I64 0]) := tnew_p 2 2 1 (by decide) (by decide) (by decide) (by decide) (by decide) (by decide)
  have hwl : writeL trmA [65] = rowL 2097153 2097154 0 [65, 32] 1 := by decide +kernel
  have hwr : CallP Try.prog 12 [trmT trmA, strT [65]] (.tup [trmT ⟨true, 2097153, 2097154, 2097155, (blankScr 2 1 100).bytes [65], []⟩, rqT (rowL 2097153 2097154 0 [65, 32] 1)]) := by
    have := twrite_p 2097153 2097154 2097155 (blankScr 2 1 100) [] [65] (blank_ok (by decide) (by decide) (by decide) (by decide) (by decide)) (.inr (by decide)) (by decide)
    rw [show writeL ⟨true, 2097153, 2097154, 2097155, blankScr 2 1 100, []⟩ [65] = rowL 2097153 2097154 0 [65, 32] 1 from hwl] at this
    exact this
  have hrow := refRow_p 2097153 2097154 0 [65, 32] 1 (by decide) (by decide) (by decide) (by decide)
  have hsame := same_p (rowL 2097153 2097154 0 [65, 32] 1) (by decide +kernel) (by decide +kernel)
  have hp1 := trm_pure trmA
  have hp2 := trm_pure ⟨true, 2097153, 2097154, 2097155, (blankScr 2 1 100).bytes [65], []⟩
  generalize trmA = tA at *
  generalize (blankScr 2 1 100).bytes [65] = S at *
  generalize rowL 2097153 2097154 0 [65, 32] 1 = L at *
  generalize openC 2097152 2 1 = O at *
  refine CallP.intro2 au_pu au_pu ?_
  refine CallT.intro tab_ok Try.func8 rfl (by kernel_rfl) (Nat.le_of_ble_eq_true rfl) ?_
  refine VC.reg tab_ok [] rfl ?_
  refine VX.meek rfl ?_
  refine VX.nil ?_
  refine VC.reg tab_ok [] rfl ?_
  refine VX.callP0 rfl rfl rfl (hnew) ?_
  iterate 4 refine VX.meek rfl ?_
  refine VX.new rfl rfl ?_
  refine VX.store rfl rfl rfl rfl rfl au_sY rfl ?_
  iterate 2 refine VX.meek rfl ?_
  refine VX.nil ?_
  refine VC.reg tab_ok [] rfl ?_
  first | refine VX.meek rfl ?_ | refine VX.loadI rfl rfl au_l ?_ | refine VX.loadP rfl rfl rfl au_l ?_
  refine VX.callP0 rfl rfl rfl (hwr) ?_
  iterate 3 refine VX.meek rfl ?_
  refine VX.new rfl rfl ?_
  refine VX.store rfl rfl rfl rfl rfl au_sY rfl ?_
  refine VX.meek rfl ?_
  refine VX.nil ?_
  refine VC.reg tab_ok [] rfl ?_
  iterate 3 refine VX.meek rfl ?_
  refine' VX.merge (d := 22) [_, _, _, _] rfl ?_ rfl ?_
  rotate_left
  · refine VX.guard rfl rfl (fun hb3_2 => ?_) (fun hb3_2 => ?_)
    · have ghb3_2 := hb3_2
      try simp only [au_std, Bool.not_true, Bool.not_false] at ghb3_2
      refine VX.meek rfl ?_
      refine VX.guardT rfl rfl hb3_2 ?_
      refine VX.meek rfl ?_
      refine VX.guardT rfl rfl hb3_2 ?_
      refine VX.meek rfl ?_
      refine VX.pickA rfl (fun _ => rfl) ?_
      exact VX.nil ⟨rfl, rfl⟩
    · refine VX.guardF rfl rfl hb3_2 ?_
      refine VX.guardF rfl rfl hb3_2 ?_
      exact VX.pickA rfl (fun h => absurd (h.symm.trans hb3_2) (by decide)) (VX.nil ⟨rfl, rfl⟩)
  refine VX.meek rfl ?_
  refine' VX.merge (d := 27) [_, _, _, _] rfl ?_ rfl ?_
  rotate_left
  · refine VX.guard rfl rfl (fun hb3_7 => ?_) (fun hb3_7 => ?_)
    · have ghb3_7 := hb3_7
      try simp only [au_std, Bool.not_true, Bool.not_false] at ghb3_7
      refine VX.meek rfl ?_
      refine VX.guardT rfl rfl hb3_7 ?_
      refine VX.callP0 rfl rfl rfl (hrow) ?_
      refine VX.guardT rfl rfl hb3_7 ?_
      refine VX.callP0 rfl rfl rfl (hsame) ?_
      refine VX.pickA rfl (fun _ => rfl) ?_
      exact VX.nil ⟨rfl, rfl⟩
    · refine VX.guardF rfl rfl hb3_7 ?_
      refine VX.guardF rfl rfl hb3_7 ?_
      exact VX.pickA rfl (fun h => absurd (h.symm.trans hb3_7) (by decide)) (VX.nil ⟨rfl, rfl⟩)
  refine VX.meek rfl ?_
  refine VX.nil ?_
  refine VC.ret ?_
  exact ⟨trivial, _, rfl, Cv.eq (by first | rfl | (simp [*]; done)) rfl⟩
end
section
open Go.RowKit
def visH (fl : Bool) (F : Hp) : Hp := if fl then F else List.replicate F.length .d
theorem visH_len (fl : Bool) (F : Hp) : (visH fl F).length = F.length := by unfold visH; cases fl <;> simp
theorem blkH_dead : ∀ (n b : Nat), blkH (List.replicate n .d) b = .d
  | 0, _ => rfl
  | n + 1, 0 => rfl
  | n + 1, b + 1 => blkH_dead n b
def wOkG : List Wr → Hp → Prop
  | [], _ => True
  | (b, o, xs) :: W, F => match lookH F b with
    | some cs => o + xs.length ≤ cs.length ∧ xs.all cellB = true ∧ wOkG W (setH F b (.c (putL cs o xs)))
    | none => False
theorem appW_snocG {b o : Nat} {xs : List T} : ∀ (W V : List Wr) (F : Hp), wOkG (W ++ (b, o, xs) :: V) F → ∃ cs, lookH (appW W F) b = some cs ∧ o + xs.length ≤ cs.length ∧ xs.all cellB = true ∧ appW (W ++ [(b, o, xs)]) F = setH (appW W F) b (.c (putL cs o xs))
  | [], V, F, h => by
    simp only [List.nil_append, wOkG] at h
    split at h
    · rename_i cs hc
      exact ⟨cs, hc, h.1, h.2.1, by simp only [List.nil_append, appW, hc]⟩
    · exact h.elim
  | (b', o', xs') :: W, V, F, h => by
    simp only [List.cons_append, wOkG] at h
    split at h
    · rename_i cs hc
      obtain ⟨cs2, k1, k2, k3, k4⟩ := appW_snocG W V _ h.2.2
      refine ⟨cs2, ?_, k2, k3, ?_⟩
      · simp only [appW, hc]; exact k1
      · simp only [List.cons_append, appW, hc]; exact k4
    · exact h.elim
inductive RunT [Dr] (P : Program) (tab : Tab) (im : List Nat) (ops : Array Oper) : List Oper → Env → Hp → List Stp → List Bool → List (Option Wr) → Env → Hp → Prop
  | nil (E : Env) (F : Hp) : RunT P tab im ops [] E F [] [] [] E F
  | one {o : Oper} {l : List Oper} {E : Env} {F : Hp} {s : Stp} {f : Bool} {r : List Stp} {fs : List Bool} {ws : List (Option Wr)} {E' : Env} {F' : Hp} (h : StpOk P tab im ops o E (visH f F) s)
      (k : RunT P tab im ops l (E.put o.dst s.t) (F ++ newsOf s.nb) r fs ws E' F') : RunT P tab im ops (o :: l) E F (s :: r) (f :: fs) (none :: ws) E' F'
  | sto {o : Oper} {l : List Oper} {E : Env} {F : Hp} {t : Nat} {a x : Operand} {b q : Nat} {tx : T} {i : TyI} {r : List Stp} {fs : List Bool} {ws : List (Option Wr)} {E' : Env} {F' : Hp} (hg : o.guard = none) (hd : o.dst = none) (ho : o.op = .store t a x) (hT : tab t = some i) (ha : E.opd a = some (.ptr b q)) (hx : E.opd x = some tx)
      (hl : (flat tx).length = i.sz) (k : RunT P tab im ops l E F r fs ws E' F') : RunT P tab im ops (o :: l) E F (⟨.v undef, none⟩ :: r) (false :: fs) (some (b, q, flat tx) :: ws) E' F'
theorem runT_at [Dr] {P : Program} {tab : Tab} {im : List Nat} {ops : Array Oper} {l : List Oper} {E : Env} {F : Hp} {r : List Stp} {fs : List Bool} {ws : List (Option Wr)} {E' : Env} {F' : Hp} (h : RunT P tab im ops l E F r fs ws E' F') :
    r.length = l.length ∧ fs.length = l.length ∧ ws.length = l.length ∧ E' = envAt l r E l.length ∧ F' = hpAt r F l.length ∧
      (∀ k o s f w, l[k]? = some o → r[k]? = some s → fs[k]? = some f → ws[k]? = some w → StpS P tab im ops o (envAt l r E k) (visH f (hpAt r F k)) s w) := by
  induction h with
  | nil E F => exact ⟨rfl, rfl, rfl, rfl, rfl, fun k o s f w h => by simp at h⟩
  | @one o l E F s f r fs ws E' F' h k ih =>
    obtain ⟨h1, h2, h3, h4, h5, h6⟩ := ih
    refine ⟨by simp [h1], by simp [h2], by simp [h3], h4, h5, fun j o' s' f' w ho hs' hh hw => ?_⟩
    cases j with
    | zero => simp at ho hs' hh hw; subst ho hs' hh hw; exact h
    | succ j => exact h6 j o' s' f' w (by simpa using ho) (by simpa using hs') (by simpa using hh) (by simpa using hw)
  | @sto o l E F t a x b q tx i r fs ws E' F' hg hd ho hT ha hx hl k ih =>
    obtain ⟨h1, h2, h3, h4, h5, h6⟩ := ih
    refine ⟨by simp [h1], by simp [h2], by simp [h3], ?_, ?_, fun j o' s' f' w ho' hs' hh hw => ?_⟩
    · rw [h4]; show _ = envAt l r (E.put o.dst _) l.length; rw [hd]; rfl
    · rw [h5]; show _ = hpAt r (F ++ newsOf none) l.length; simp [newsOf]
    · cases j with
      | zero => simp at ho' hs' hh hw; subst ho' hs' hh hw; exact ⟨rfl, hg, hd, t, a, x, tx, i, ho, hT, ha, hx, rfl, hl⟩
      | succ j =>
        have := h6 j o' s' f' w (by simpa using ho') (by simpa using hs') (by simpa using hh) (by simpa using hw)
        have e : envAt (o :: l) (⟨.v undef, none⟩ :: r) E (j + 1) = envAt l r E j := by show envAt l r (E.put o.dst _) j = _; rw [hd]; rfl
        have e2 : hpAt (⟨.v undef, none⟩ :: r) F (j + 1) = hpAt r F j := by show hpAt r (F ++ newsOf none) j = _; simp [newsOf]
        rw [e, e2]; exact this
def lateB (l : List Oper) (fs : List Bool) : Bool := (List.range l.length).all fun k' => !stB l[k']? || (List.range fs.length).all fun k => !(fs.getD k false) || ((masks l []).getD k' 0).testBit k
section
variable {z : Bool} {P : Program} {tab : Tab} {n m kb lb : Nat} {l : List Oper} {E : Env} {H : Hp} {r : List Stp} {fs : List Bool} {ws : List (Option Wr)} {X0 : Nat → Prop} {M0 : Mp} {im : List Nat}
structure RunG [Dr] (P : Program) (tab : Tab) (im : List Nat) (l : List Oper) (m : Nat) (E : Env) (H : Hp) (r : List Stp) (fs : List Bool) (ws : List (Option Wr)) : Prop where
  rl : r.length = (l.take m).length
  hl : fs.length = (l.take m).length
  wl : ws.length = (l.take m).length
  st : ∀ k o s f w, (l.take m)[k]? = some o → r[k]? = some s → fs[k]? = some f → ws[k]? = some w → StpS P tab im l.toArray o (envAt (l.take m) r E k) (visH f (hpAt r H k)) s w
  ok : wOkG (ws.filterMap id) (hpAt r H r.length)
  late : lateB l fs = true
theorem JdS.lookT [Dr] {L : Nat → Prop} {a : Act} {M : Mp} {j : Nat} (hO : OrdB l m) (hF : RunG P tab im l m E H r fs ws) (h : JdS n kb (l.take m) r ws E H X0 j L a M) (hc : Closed l L) {k : Nat} (hk : ¬ L k) {f : Bool} (hkk : fs[k]? = some f) : LookAt M (lookH (visH f (hpAt r H k))) := by
  have hkl : k < (l.take m).length := by rw [← hF.hl]; exact (List.getElem?_eq_some_iff.1 hkk).1
  intro b B O cells hb hcc
  cases f with
  | false => rw [lookH_c] at hcc; unfold visH at hcc; rw [if_neg (by decide), blkH_dead] at hcc; cases hcc
  | true =>
    have hcc' : lookH (hpAt r H k) b = some cells := hcc
    refine Sim.look h.sim b B O cells hb ?_
    have hd := h.sim.D_of hb
    rw [lookH_c] at hcc'
    rw [cells_some]
    unfold lookG
    rw [if_pos hd, appW_other _ _ fun w hw e => ?_]
    · have hlt : b < (hpAt r H k).length := blkH_lt (by rw [hcc']; simp)
      have hkeep := (hpAt_keep (r := r) (H := H) k r.length (by have := hF.rl; omega) (Nat.le_refl _)).2 b hlt
      rw [hkeep]; exact hcc'
    · obtain ⟨i, hi⟩ := List.getElem?_of_mem hw
      have hij : i < j := by
        have := (List.getElem?_eq_some_iff.1 hi).1
        rw [List.length_take] at this; omega
      rw [List.getElem?_take, if_pos hij] at hi
      have hlt : i < cntW ws ws.length := by unfold cntW; rw [List.take_length]; exact (List.getElem?_eq_some_iff.1 hi).1
      obtain ⟨k', w', q1, q2, q3⟩ := cntW_pos hlt
      have hL : L k' := (h.cnt k' w' q2).2 (by omega)
      have hk'l : k' < (l.take m).length := by rw [← hF.wl]; exact q1
      have hol : l[k']? = some (l.take m)[k'] := by have := List.getElem?_eq_getElem hk'l; rw [List.getElem?_take] at this; split at this; exact this; cases this
      have hst := hF.st k' _ _ _ _ (List.getElem?_eq_getElem hk'l) (List.getElem?_eq_getElem (by rw [hF.rl]; exact hk'l)) (List.getElem?_eq_getElem (by rw [hF.hl]; exact hk'l)) q2
      obtain ⟨b', q', xs'⟩ := w'
      obtain ⟨-, -, -, t', x', y', tx', i', hoc', -⟩ := hst
      have hlate := hF.late
      unfold lateB at hlate
      rw [List.all_eq_true] at hlate
      have h1 := hlate k' (List.mem_range.2 (List.getElem?_eq_some_iff.1 hol).1)
      have hsb : stB l[k']? = true := by rw [hol]; generalize (l.take m)[k'] = ok at hoc'; simp [stB, hoc']
      rw [hsb] at h1
      simp only [Bool.not_true, Bool.false_or] at h1
      rw [List.all_eq_true] at h1
      have h2 := h1 k (List.mem_range.2 (List.getElem?_eq_some_iff.1 hkk).1)
      have hfk : fs.getD k false = true := by simp [List.getD, hkk]
      rw [hfk] at h2
      simp only [Bool.not_true, Bool.false_or] at h2
      exact hk (mask_listed hO.back hc k' hL k h2)
theorem JdS.stepT [Dr] (hT : TabOk P tab) (hO : OrdB l m) (hch : chainB l m = true) (hF : RunG P tab im l m E H r fs ws)
    {L : Nat → Prop} {a : Act} {M : Mp} {j : Nat} (h : JdS n kb (l.take m) r ws E H X0 j L a M) (hc : Closed l L) {k : Nat} {o : Oper} (ho : (l.take m)[k]? = some o) (hk : ¬ L k) (hpre : ∀ e ∈ o.after, Region.binds .any e = true → L e.on) (hd : ∀ d, o.dst = some d → d < n)
    {r0 : Option Nat} {Q : Exit → Act → World → Prop} {K : Act → World → Prop} (hK : ∀ a' M' j', Evo X0 M M' → JdS n kb (l.take m) r ws E H X0 j' (fun i => L i ∨ i = k) a' M' → K a' M'.w) : wpOpIn (FW r0) 0 P l.toArray Q k K a M.w := by
  have hr := hF.rl
  have hkl : k < (l.take m).length := (List.getElem?_eq_some_iff.1 ho).1
  have hol : l[k]? = some o := by rw [List.getElem?_take] at ho; split at ho; exact ho; cases ho
  have hkm : k < m := by rw [List.length_take] at hkl; omega
  have hs' : r[k]? = some r[k] := List.getElem?_eq_getElem (by omega)
  obtain ⟨f', hh'⟩ : ∃ x, fs[k]? = some x := ⟨_, List.getElem?_eq_getElem (by rw [hF.hl]; omega)⟩
  obtain ⟨w, hw'⟩ : ∃ x, ws[k]? = some x := ⟨_, List.getElem?_eq_getElem (by rw [hF.wl]; omega)⟩
  have hstp := hF.st k o _ _ _ ho hs' hh' hw'
  generalize r[k] = s at hs' hstp
  have hlook := h.lookT hO hF hc hk hh'
  have hrd := fun (d : Nat) (t : T) => h.read hO hr hc ho hk hpre (d := d) (t := t)
  have hop : ∀ x ∈ o.op.operands.toList, ∀ t, (envAt (l.take m) r E k).opd x = some t → Rep M t (a.eval x) := by
    intro x hx t ht
    cases x with
    | tmp d =>
      obtain ⟨u, h1, h2⟩ := hrd d t (by simp only [readsOf, Oper.looksAt, List.mem_append, List.mem_filterMap]; exact .inl ⟨.tmp d, hx, rfl⟩) ht
      have : a.eval (.tmp d) = u := by show a.tmps.getD d undef = u; simp [h1]
      rw [this]; exact h2
    | const v => simp only [Env.opd] at ht; injection ht with ht; subst ht; exact rep_ofV v
    | func f => simp only [Env.opd] at ht; injection ht with ht; subst ht; exact ⟨[], [], rfl, rfl, rfl⟩
    | global g => simp only [Env.opd] at ht; injection ht with ht; subst ht; exact rfl
  unfold wpOpIn
  simp only [List.getElem?_toArray, hol]
  cases w with
  | some w =>
    obtain ⟨b, q, xs⟩ := w
    obtain ⟨rfl, hg, hdn, t, x, y, tx, i, hoc, hti, hx, hy, rfl, hxl⟩ := hstp
    have hw : Region.wanted o (yielded l.toArray a.tmps) = true := by simp [Region.wanted, hg]
    rw [hw, if_pos rfl]
    have hix := cntW_lt hw'
    have hij : cntW ws k = j := by
      have h1 : ¬ cntW ws k < j := fun hh => hk ((h.cnt k _ hw').2 hh)
      refine Nat.le_antisymm (Nat.le_of_not_lt fun hh => ?_) (by omega)
      obtain ⟨k', w', q1, q2, q3⟩ := cntW_pos hh
      have hk'l : k' < (l.take m).length := by rw [← hF.wl]; exact (List.getElem?_eq_some_iff.1 q2).1
      have ho' : (l.take m)[k']? = some (l.take m)[k'] := List.getElem?_eq_getElem hk'l
      have hst' := hF.st k' _ _ _ _ ho' (List.getElem?_eq_getElem (by omega)) (List.getElem?_eq_getElem (by rw [hF.hl]; omega)) q2
      obtain ⟨b', q', xs'⟩ := w'
      obtain ⟨-, -, -, t', x', y', tx', i', hoc', -⟩ := hst'
      have hol' : l[k']? = some (l.take m)[k'] := by have := ho'; rw [List.getElem?_take] at this; split at this; exact this; cases this
      have hL := mask_next hO.back hc hol hpre (chain_at hch hkm q1 hol hol' hoc hoc')
      have := (h.cnt k' _ q2).1 hL
      omega
    rw [hij] at hix
    have hsp : ws.filterMap id = (ws.filterMap id).take j ++ (b, q, flat tx) :: (ws.filterMap id).drop (j + 1) := by
      have h1 := (List.getElem?_eq_some_iff.1 hix)
      rw [← h1.2, ← List.drop_eq_getElem_cons h1.1, List.take_append_drop]
    have hok := hF.ok
    rw [hsp] at hok
    obtain ⟨cs, k1, k2, k3, k4⟩ := appW_snocG _ _ _ hok
    have htk : (ws.filterMap id).take (j + 1) = (ws.filterMap id).take j ++ [(b, q, flat tx)] := by rw [List.take_add_one, hix]; rfl
    have hrx := hop x (by rw [hoc]; simp [Op.operands]) _ hx
    have hry := hop y (by rw [hoc]; simp [Op.operands]) _ hy
    have hbb : b < H.length ∨ made r H L b := by obtain ⟨B, O, hb, -⟩ := hrx; exact h.sim.D_of hb
    have hbk : lookG r H (appW ((ws.filterMap id).take j) (hpAt r H r.length)) L b = .c cs := by unfold lookG; rw [if_pos hbb]; exact lookH_c.1 k1
    obtain ⟨M', e1, e2, e3⟩ := Sim.stored (P := P) hT h.sim hti hbk hrx hry hxl k2 k3
    have hnd : ∀ c, o.op ≠ .defer c := by rw [hoc]; simp
    refine wpIn_of hnd ?_
    obtain ⟨dst, op, ty, pos, after, guard⟩ := o
    simp only at hoc hdn
    subst hoc hdn
    have hrr : (execOp a.eval ⟨none, .store t x y, ty, pos, after, guard⟩).run P M.w = .ok .skip M'.w := by simp [execOp, e1]
    rw [hrr]
    refine hK _ _ (j + 1) e2 (h.next hO ho hs' hk hd e2 (e3.congr (fun c => ?_) (fun c => by rw [made_none hs' rfl])) (u := undef) rfl (fun k2' w2 hw2 => ?_) (fun w2 hw2 => ?_))
    · rw [lookG_none hs' rfl, htk, k4]
      unfold lookG updL
      by_cases hcb : c = b
      · subst hcb; rw [if_pos hbb, if_pos rfl, blkH_set _ _ _ _ (lookH_lt k1), if_pos rfl]
      · rw [if_neg hcb]
        dsimp only
        by_cases hcd : c < H.length ∨ made r H L c
        · rw [if_pos hcd, if_pos hcd, blkH_set _ _ _ _ (lookH_lt k1), if_neg hcb]
        · rw [if_neg hcd, if_neg hcd]
    · rw [h.cnt k2' w2 hw2]
      constructor
      · rintro (q1 | rfl) <;> omega
      · intro hh
        by_cases h2 : cntW ws k2' < j
        · exact .inl h2
        · refine .inr ?_
          rcases Nat.lt_trichotomy k2' k with q1 | q1 | q1
          · have := cntW_mono q1 hw2; omega
          · exact q1
          · have := cntW_mono q1 hw'; omega
    · rw [htk] at hw2
      rcases List.mem_append.1 hw2 with q1 | q1
      · exact (h.mkd w2 q1).imp id made_or
      · rw [List.mem_singleton] at q1; subst q1; exact hbb.imp id made_or
  | none =>
    have hcn : ∀ k' w, ws[k']? = some (some w) → ((L k' ∨ k' = k) ↔ cntW ws k' < j) := fun k' w hwk => by
      rw [← h.cnt k' w hwk]
      exact ⟨fun hh => hh.resolve_right (fun e => by subst e; rw [hw'] at hwk; injection hwk with hwk; cases hwk), Or.inl⟩
    have hmk : ∀ w ∈ (ws.filterMap id).take j, w.1 < H.length ∨ made r H (fun i => L i ∨ i = k) w.1 := fun w hw => (h.mkd w hw).imp id made_or
    have hgd : ∀ g want d b, o.guard = some (g, want) → (l.toArray[g]?).bind (·.dst) = some d → (envAt (l.take m) r E k).get d = some (.v (.bool b)) → yielded l.toArray a.tmps g = some b := by
      intro g want d b hg hgd hb
      have hgd' : (l[g]?.bind fun x => x.dst) = some d := by simpa using hgd
      obtain ⟨u, h1, h2⟩ := hrd d _ (by simp [readsOf, Oper.looksAt, hg]; exact .inr hgd') hb
      obtain rfl := h2
      simp [yielded, hgd', h1]
    rcases hstp with ⟨h1, h2, g, want, d, x, hg, hgdst, hb, hne⟩ | ⟨hg, hst⟩
    · have hw : Region.wanted o (yielded l.toArray a.tmps) = false := by
        have hgd' : (l[g]?.bind fun x => x.dst) = some d := by simpa using hgdst
        obtain ⟨u, q1, q2⟩ := hrd d _ (by simp [readsOf, Oper.looksAt, hg]; exact .inr hgd') hb
        obtain rfl := q2
        have hy : yielded l.toArray a.tmps g = match u with | .bool b => some b | _ => none := by simp only [yielded, List.getElem?_toArray, hgd', Option.bind_some, q1]; cases u <;> rfl
        simp only [Region.wanted, hg, hy]
        cases u <;> first | rfl | skip
        rename_i b
        cases b <;> cases want <;> first | rfl | exact absurd rfl hne
      rw [hw]
      refine ⟨fun _ _ => trivial, hK _ M j (Evo.refl _ _) (h.next hO ho hs' hk hd (Evo.refl _ _) (h.sim.congr (fun b => lookG_none hs' h2 b) fun b => by rw [made_none hs' h2]) (by rw [h1]; rfl) hcn hmk)⟩
    · have hw : Region.wanted o (yielded l.toArray a.tmps) = true := by
        rcases hg with hg | ⟨g, want, d, hg, hgdst, hb⟩
        · simp [Region.wanted, hg]
        · have hy := hgd g want d want hg hgdst hb
          simp [Region.wanted, hg, hy]
      rw [hw, if_pos rfl]
      have hnd : ∀ c, o.op ≠ .defer c := by
        rcases hst with ⟨t, nb, hm, -⟩ | ⟨f, args, ats, g, fs, cs, ts, hoc, -⟩
        · exact opM_op hm
        · rw [hoc]; simp
      refine wpIn_of hnd ?_
      rcases hst with ⟨t, nb, hm, hst⟩ | ⟨f, args, ats, g, fs, cs, ts, hoc, hf, hts, hcall, hnb⟩
      · have hmk' := opM_ok (M := M) (ρ' := a.eval) hT hlook hop hm
        rcases hst with ⟨hst, hnb⟩ | ⟨⟨e, cs⟩, rfl, hst, hnb⟩
        case inr =>
          obtain ⟨u, w', q1, q2, q3, q4⟩ := imm_new h.sim hmk' (opM_new hm)
          rw [q1]
          exact hK _ _ j q2 (h.next hO ho hs' hk hd q2 ((h.sim.world q2 q3).congr (fun b => lookG_none hs' hnb b) fun b => by rw [made_none hs' hnb]) (by rw [hst]; exact q4) hcn hmk)
        subst hst
        cases nb with
        | none =>
          obtain ⟨u, h1, h2⟩ := hmk'
          rw [h1]
          exact hK _ M j (Evo.refl _ _) (h.next hO ho hs' hk hd (Evo.refl _ _) (h.sim.congr (fun b => lookG_none hs' hnb b) fun b => by rw [made_none hs' hnb]) h2 hcn hmk)
        | some p =>
          obtain ⟨e, cs⟩ := p
          simp only [Option.map_some] at hnb
          rw [visH_len] at hmk'
          obtain ⟨u, ar, h1, h2, h3⟩ := hmk'
          rw [h1]
          have hid : ¬ (hpAt r H k).length < H.length := by have := (hp_start (r := r) (H := H) (k := k) (by omega)).1; omega
          have hnd' : ¬ made r H L (hpAt r H k).length := by
            rintro ⟨j', s', q1, q2, q3, q4⟩
            exact hk (new_ne q1 q2 hs' (by rw [hnb]; simp) q4 ▸ q3)
          have hnd : ¬ ((hpAt r H k).length < H.length ∨ made r H L (hpAt r H k).length) := fun hh => hh.elim hid hnd'
          obtain ⟨Ev, S, hsh⟩ := h.sim.new (nx := (hpAt r H k).length) hnd (w := { M.w with heap := M.w.heap.push (.cells ar e) }) rfl rfl ⟨rfl, fun _ => Nat.le_refl _⟩ rfl (fun j _ hj => by simp at hj) h2
          have hmade : ∀ b, made r H (fun j => L j ∨ j = k) b ↔ made r H L b ∨ b = (hpAt r H k).length := fun b => by
            constructor
            · rintro ⟨j, s', q1, q2, q3 | q3, q4⟩
              · exact .inl ⟨j, s', q1, q2, q3, q4⟩
              · subst q3; exact .inr q4.symm
            · rintro (⟨j, s', q1, q2, q3, q4⟩ | q)
              · exact ⟨j, s', q1, q2, .inl q3, q4⟩
              · exact ⟨k, s, hs', by rw [hnb]; simp, .inr rfl, q.symm⟩
          refine hK _ (newM M _ _) j Ev (h.next hO ho hs' hk hd Ev (S.congr (fun b => ?_) (fun b => ?_)) (h3 _ (if_pos rfl) hsh) hcn hmk)
          · unfold lookG
            by_cases hb : b = (hpAt r H k).length
            · subst hb
              rw [if_pos (.inr ((hmade _).2 (.inr rfl))), if_pos rfl, appW_other _ _ fun w hw e => ?_]
              · exact (new_at hs' hnb).2
              · have := h.mkd w hw
                rw [e] at this
                exact hnd this
            · rw [if_neg hb]
              by_cases hbD : b < H.length ∨ made r H L b
              · rw [if_pos hbD, if_pos (hbD.imp id fun hh => (hmade b).2 (.inl hh))]
              · rw [if_neg hbD, if_neg fun hh => hbD (hh.imp id fun q => ((hmade b).1 q).resolve_right hb)]
          · rw [hmade, or_assoc]
      · obtain ⟨dst, op, ty, pos, after, guard⟩ := o
        simp only at hoc hop hd
        subst hoc
        obtain ⟨us, vs, e1, r1, r2⟩ := hop f (by simp [Op.operands, Call.operands]) _ hf
        have r3 := optL_ok (M := M) (ρ' := a.eval) _ _ (fun x hx t ht => hop x (by simp [Op.operands, Call.operands]; exact .inr (by simpa using hx)) t ht) hts
        have hrr : (execOp a.eval ⟨dst, .call ⟨.value f, args, ats⟩, ty, pos, after, guard⟩).run P M.w = .ok (.enter g (us ++ args.toList.map a.eval ++ vs).toArray) M.w := by
          simp only [execOp, resolve, Sem.run_bind, e1, Deferred.ofValue, Sem.run_pure, Result.andThen_ok, invoke]
          rw [run_goFunc _ _ _ hcall.2.2.1, ← map_arr]
          simp
        rw [hrr]
        refine ⟨fun hh => (by cases hh), callsIn_wide.2 ((hcall.run X0 M _ h.sim.bnd (RepL.append (RepL.append r1 r3) r2)).mono ?_)⟩
        rintro e w' ⟨u, rfl, k1, k2, k3⟩
        exact hK _ _ j k1 (h.next hO ho hs' hk hd k1 ((h.sim.world k1 k3).congr (fun b => lookG_none hs' hnb b) fun b => by rw [made_none hs' hnb]) k2 hcn hmk)
theorem JdS.finT [Dr] {L : Nat → Prop} {a : Act} {M : Mp} {j : Nat} (hO : OrdB l m) (hF : RunG P tab im l m E H r fs ws) (h : JdS n kb (l.take m) r ws E H X0 j L a M) (hL : ∀ k, k < (l.take m).length → L k) : St n kb (envAt (l.take m) r E (l.take m).length) (appW (ws.filterMap id) (hpAt r H (l.take m).length)) X0 a M := by
  have hr := hF.rl
  have hdis : ∀ (i j : Nat) (oi oj : Oper), (l.take m)[i]? = some oi → (l.take m)[j]? = some oj → i ≠ j → ∀ d, oi.dst = some d → oj.dst ≠ some d := fun i j oi oj hi hj hij d hdi => (hO.pair j oj i oi hj hi hij d hdi).1
  have hmd : ∀ b, made r H L b ↔ ¬ b < H.length ∧ b < (hpAt r H r.length).length := fun b => by
    constructor
    · rintro ⟨k, s, q1, q2, -, q4⟩
      have hk := (List.getElem?_eq_some_iff.1 q1).1
      obtain ⟨cs, hcs⟩ := Option.ne_none_iff_exists'.1 q2
      have h1 := (new_at (H := H) q1 hcs).1
      have h2 := (hpAt_keep (r := r) (H := H) (k + 1) r.length hk (Nat.le_refl _)).1
      have h3 := (hp_start (r := r) (H := H) (k := k) (by omega)).1
      omega
    · rintro ⟨h1, h2⟩
      obtain ⟨j, s, q1, q2, q3, q4⟩ := made_all (Nat.le_refl _) h2 h1
      exact ⟨j, s, q2, q3, hL j (by omega), q4⟩
  have htk : (ws.filterMap id).take j = ws.filterMap id := by
    refine List.take_of_length_le (Nat.le_of_not_lt fun hh => ?_)
    have e : (ws.filterMap id).length = cntW ws ws.length := by unfold cntW; rw [List.take_length]
    rw [e] at hh
    obtain ⟨k', w, q1, q2, q3⟩ := cntW_pos hh
    have := (h.cnt k' w q2).1 (hL k' (by rw [← hF.wl]; exact q1))
    omega
  refine ⟨fun d t ht => ?_, h.sz, h.df, h.ge, h.sim.congr (fun b => ?_) (fun b => ?_)⟩
  · obtain ⟨g1, g2⟩ := env_get (E := E) (d := d) hr (Nat.le_refl _) hdis
    by_cases hw : ∃ j oj, j < (l.take m).length ∧ (l.take m)[j]? = some oj ∧ oj.dst = some d
    · obtain ⟨j, oj, hj, hoj, hdj⟩ := hw
      have hs : r[j]? = some r[j] := List.getElem?_eq_getElem (by omega)
      rw [g1 j oj _ hj hoj hs hdj] at ht
      injection ht with ht; subst ht
      exact h.slot j oj _ d hoj hs (hL j hj) hdj
    · rw [g2 fun j oj hj hoj hdj => hw ⟨j, oj, hj, hoj, hdj⟩] at ht
      exact h.old d t ht fun j oj hoj _ hdj => hw ⟨j, oj, (List.getElem?_eq_some_iff.1 hoj).1, hoj, hdj⟩
  · rw [← hr, htk]
    unfold lookG
    by_cases hb : b < H.length ∨ made r H L b
    · rw [if_pos hb]
    · rw [if_neg hb]
      refine Classical.byContradiction fun hne => hb ?_
      have hlt := blkH_lt hne
      rw [appW_len] at hlt
      by_cases hbH : b < H.length
      · exact .inl hbH
      · exact .inr ((hmd b).2 ⟨hbH, hlt⟩)
  · rw [← hr, appW_len, hmd]
    have := (hp_start (r := r) (H := H) (k := r.length) (Nat.le_refl _)).1
    omega
theorem draw_anyT [Dr] (hT : TabOk P tab) (hO : OrdB l m) (hch : chainB l m = true) (hd : dstB n l = true) (hF : RunG P tab im l m E H r fs ws)
    {r0 : Option Nat} {Q : Exit → Act → World → Prop} (hQ : ∀ a M, Evo X0 M0 M → St n kb (envAt (l.take m) r E (l.take m).length) (appW (ws.filterMap id) (hpAt r H (l.take m).length)) X0 a M → wpListIn (FW r0) 0 P l.toArray Q (l.drop m) a M.w) :
    ∀ (fuel : Nat) (listed : Array Bool) (a : Act) (M : Mp) (j : Nat), leftB l listed ≤ fuel → listed.size = l.length → Closed l (lsd listed) → (∀ k, m ≤ k → ¬ lsd listed k) → Evo X0 M0 M → JdS n kb (l.take m) r ws E H X0 j (lsd listed) a M → wpAnyIn (FW r0) 0 P .any l.toArray Q fuel listed a M.w := by
  have hml : (l.take m).length = m := by rw [List.length_take]; have := hO.le; omega
  intro fuel
  have fin : ∀ (fuel : Nat) (listed : Array Bool) (a : Act) (M : Mp) (j : Nat), leftB l listed ≤ fuel → listed.size = l.length → (∀ k, m ≤ k → ¬ lsd listed k) → (∀ k, k < m → lsd listed k) → Evo X0 M0 M → JdS n kb (l.take m) r ws E H X0 j (lsd listed) a M → wpAnyIn (FW r0) 0 P .any l.toArray Q fuel listed a M.w := by
    intro fuel listed a M j hf hsz hno hall hE hJ
    refine tail_any hO fuel listed m a M.w ?_ hsz (Nat.le_refl _) hO.le (fun k => ⟨fun h => ?_, hall k⟩) (hQ a M hE (hJ.finT hO hF fun k hk => hall k (by omega)))
    · have h1 : leftB l listed = l.length - m := by
        unfold leftB
        have e : List.range l.length = List.range m ++ (List.range (l.length - m)).map (m + ·) := by
          rw [← List.range_add, show m + (l.length - m) = l.length from by have := hO.le; omega]
        rw [e, List.countP_append]
        have e1 : (List.range m).countP (fun k => !listed.getD k false) = 0 := by
          rw [List.countP_eq_zero]
          intro k hk
          have := hall k (List.mem_range.1 hk)
          unfold lsd at this
          simpa using this
        have e2 : ((List.range (l.length - m)).map (m + ·)).countP (fun k => !listed.getD k false) = l.length - m := by
          rw [List.countP_eq_length.2]
          · simp
          · intro k hk
            rw [List.mem_map] at hk
            obtain ⟨q, -, rfl⟩ := hk
            have := hno (m + q) (by omega)
            unfold lsd at this
            simpa using this
        omega
      omega
    · exact Nat.lt_of_not_le fun hk => hno k hk h
  induction fuel with
  | zero =>
    intro listed a M j hf hsz hc hno hE hJ
    by_cases hall : ∀ k, k < m → lsd listed k
    · exact fin 0 listed a M j hf hsz hno hall hE hJ
    · exfalso
      have h0 : leftB l listed = 0 := by omega
      unfold leftB at h0
      rw [List.countP_eq_zero] at h0
      apply hall
      intro k hk
      have := h0 k (List.mem_range.2 (by have := hO.le; omega))
      unfold lsd
      simpa using this
  | succ fuel ih =>
    intro listed a M j hf hsz hc hno hE hJ
    by_cases hall : ∀ k, k < m → lsd listed k
    · exact fin _ listed a M j hf hsz hno hall hE hJ
    · have hnext : ∃ i o, i < m ∧ l[i]? = some o ∧ ¬ lsd listed i ∧ ∀ e ∈ o.after, Region.binds .any e = true → lsd listed e.on := by
        have hex : ∃ k, k < m ∧ ¬ lsd listed k := by
          apply Classical.byContradiction
          intro h
          exact hall fun k hk => Classical.byContradiction fun hn => h ⟨k, hk, hn⟩
        obtain ⟨i, ⟨h1, h2⟩, hmin⟩ := least_nat hex
        have hile : i < l.length := by have := hO.le; omega
        have ho : l[i]? = some l[i] := List.getElem?_eq_getElem hile
        refine ⟨i, _, h1, ho, h2, fun e he hb => ?_⟩
        have hlt := back_at l 0 i _ hO.back ho e he hb
        exact Classical.byContradiction fun hn => by have := hmin e.on ⟨by omega, hn⟩; omega
      refine ⟨fun hr0 => ?_, fun i hi => ?_⟩
      · obtain ⟨i, o, h1, h2, h3, h4⟩ := hnext
        have := ready_of hsz h2 h3 h4
        rw [hr0] at this; cases this
      · obtain ⟨o, ho, hn, hp⟩ := ready_facts hsz hi
        have hil := (List.getElem?_eq_some_iff.1 ho).1
        have him : i < m := by
          refine Nat.lt_of_not_le fun hmi => ?_
          apply hall
          intro k hk
          exact mask_next hO.back hc ho hp (hO.full i hmi hil k (by omega))
        have hop : (l.take m)[i]? = some o := by rw [List.getElem?_take, if_pos him]; exact ho
        have hdo : ∀ d, o.dst = some d → d < n := fun d hdd => by
          unfold dstB at hd
          rw [List.all_eq_true] at hd
          have := hd o (List.mem_of_getElem? ho)
          rw [hdd] at this; simpa using this
        refine JdS.stepT hT hO hch hF hJ hc hop hn hp hdo fun a' M' j' hE' hJ' => ?_
        have hiff : ∀ k, lsd (listed.setIfInBounds i true) k ↔ lsd listed k ∨ k = i := lsd_set (by omega)
        have hfun : lsd (listed.setIfInBounds i true) = fun k => lsd listed k ∨ k = i := funext fun k => propext (hiff k)
        refine ih _ a' M' j' ?_ (by simpa using hsz) (fun k ok hok hk e he hb => ?_) (fun k hk h => ?_) (hE.trans hE') (by rw [hfun]; exact hJ')
        · have := leftB_set hsz hil hn; omega
        · rw [hiff] at hk ⊢
          rcases hk with hk | rfl
          · exact .inl (hc k ok hok hk e he hb)
          · rw [ho] at hok; injection hok with hok; subst hok; exact .inl (hp e he hb)
        · rcases (hiff k).1 h with h | h
          · exact hno k hk h
          · omega
theorem VC.drawT [Dr] {id : Nat} {QT : Exit → Env → Hp → Prop} (hT : TabOk P tab) (im : List Nat) (m : Nat) (hm : P.follows .mixedOrders = true) (hB : drawB n m l = true) (hch : chainB l m = true)
    (h : ∃ r fs ws E' F', RunT P tab im l.toArray (l.take m) E H r fs ws E' F' ∧ lateB l fs = true ∧ wOkG (ws.filterMap (·)) F' ∧ vcSeq P tab im (l.map (·.dst)) (l.drop m) E' (appW (ws.filterMap (·)) F') (QT .normal)) : VC z P n lb (.region id l.toArray true) QT E H := by
  intro X0 M a r0 kb hz hs
  obtain ⟨hO, hd⟩ := ord_of hB
  obtain ⟨r, fs, ws, E', F', hrun, hlate, hok, hk⟩ := h
  obtain ⟨h1, h2, h3, h4, h5, h6⟩ := runT_at hrun
  have hF : RunG P tab im l m E H r fs ws := ⟨h1, h2, h3, h6, by rw [h1, ← h5]; exact hok, hlate⟩
  refine wpIn_region_any hm ?_
  let M1 : Mp := ⟨M.β, M.X, { M.w with drawn := M.w.drawn + 1 }⟩
  have hE1 : Evo X0 M M1 := ⟨fun _ _ h => h, fun _ _ h => h, fun _ _ _ => rfl, fun _ _ h => h, rfl, ⟨rfl, fun _ => Nat.le_succ _⟩, rfl, Nat.le_refl _⟩
  have hs1 : St n kb E H X0 a M1 := ⟨fun d t ht => by obtain ⟨u, q1, q2⟩ := hs.tm d t ht; exact ⟨u, q1, Rep.stays hE1.stays _ _ q2⟩, hs.sz, hs.df.evo hE1, hs.ge, hs.sim.world hE1 fun _ _ => rfl⟩
  have hno : ∀ k, ¬ lsd (Array.replicate l.toArray.size false) k := fun k hk => by
    unfold lsd at hk
    by_cases hlt : k < l.length
    · simp [hlt] at hk
    · simp [hlt] at hk
  have hmd : ∀ b, ¬ made r H (lsd (Array.replicate l.toArray.size false)) b := fun b ⟨k, s, _, _, hk, _⟩ => hno k hk
  have := draw_anyT (r0 := r0) (X0 := X0) (M0 := M) (Q := Lift n kb lb X0 M QT) hT hO hch hd hF (fun a' M' hE' hs' => by
    rw [← h4, ← h5] at hs'
    refine vcSeq_ok (im := im) hT _ ?_ hs' (fun E2 H2 a2 M2 k1 k2 k3 => ⟨E2, H2, M2, k1, rfl, (hE'.trans k2).toK lb, k3⟩) hk
    unfold dstB at hd ⊢
    rw [List.all_eq_true] at hd ⊢
    exact fun o ho => hd o (List.mem_of_mem_drop ho)) l.toArray.size (Array.replicate l.toArray.size false) a M1 0 (Nat.le_trans List.countP_le_length (by simp)) (by simp) (fun k o _ hk => absurd hk (hno k)) (fun k _ => hno k) hE1
    ⟨hs1.sim.congr (fun b => by
        unfold lookG
        rw [List.take_zero]
        by_cases hb : b < H.length
        · rw [if_pos (.inl hb)]; exact (hp_start (Nat.le_refl _)).2 b hb
        · rw [if_neg fun hh => hh.elim hb (hmd b)]
          exact Classical.byContradiction fun hne => hb (blkH_lt fun e => hne (by rw [e]))) (fun b => ⟨fun h => h.elim (fun h => h) fun h => absurd h (hmd b), .inl⟩),
     fun k o s d _ _ hk => absurd hk (hno k), fun d t ht _ => hs1.tm d t ht, hs1.sz, hs1.df, hs1.ge, fun k w _ => ⟨fun hk => absurd hk (hno k), fun hh => by omega⟩, fun w hw => by rw [List.take_zero] at hw; cases hw⟩
  exact this
end
def VT [Dr] (P : Program) (tab : Tab) (im : List Nat) (ops : Array Oper) (l : List Oper) (E : Env) (F : Hp) (W : List Wr) (fl : List Bool) (K : Env → Hp → List Bool → Prop) : Prop :=
  ∀ E2, Sub E E2 → ∃ r fs ws E' F', RunT P tab im ops l E2 F r fs ws E' F' ∧ wOkG (W ++ ws.filterMap (·)) F' ∧ ∃ E1, Sub E1 E' ∧ K E1 (appW (W ++ ws.filterMap (·)) F') (fl ++ fs)
section
variable {z : Bool} {P : Program} {tab : Tab} {n lb : Nat} {im : List Nat} {ops : Array Oper} {l : List Oper} {E : Env} {F : Hp} {W : List Wr} {fl : List Bool} {K : Env → Hp → List Bool → Prop}
theorem VT.nil [Dr] (hw : wOkG W F) (h : K E (appW W F) fl) : VT P tab im ops [] E F W fl K := fun E2 he =>
  ⟨[], [], [], E2, F, .nil _ _, by simpa using hw, E, he, by simpa using h⟩
theorem VT.sto [Dr] {t : Nat} {a x : Operand} {ty : TypeId} {pos : String} {after : Array Edge} {b q : Nat} {tx : T} {i : TyI} (hT : tab t = some i) (ha : E.opd a = some (.ptr b q)) (hx : E.opd x = some tx) (hl : (flat tx).length = i.sz) (k : VT P tab im ops l E F (W ++ [(b, q, flat tx)]) (fl ++ [false]) K) : VT P tab im ops (⟨none, .store t a x, ty, pos, after, none⟩ :: l) E F W fl K := fun E2 he => by
  obtain ⟨r, fs, ws, E', F', h1, h2, E1, h3, h4⟩ := k _ he
  refine ⟨⟨.v undef, none⟩ :: r, false :: fs, some (b, q, flat tx) :: ws, E', F', .sto rfl rfl rfl hT (he.opd ha) (he.opd hx) hl h1, ?_, E1, h3, ?_⟩
  · simpa using h2
  · simpa using h4
theorem run_runT [Dr] {f : Bool} {l1 l2 : List Oper} {E1 : Env} {H1 : Hp} {H0 : Hp} {r1 : List Stp} (h : Run P tab im ops l1 E H0 r1 E1 H1) (hno : H1 = H0) (hf : H0 = visH f F) : ∀ {r : List Stp} {fs : List Bool} {ws : List (Option Wr)} {E' : Env} {F' : Hp}, RunT P tab im ops l2 E1 F r fs ws E' F' →
    ∃ r' fs' ws', RunT P tab im ops (l1 ++ l2) E F r' fs' ws' E' F' ∧ ws'.filterMap (·) = ws.filterMap (·) ∧ fs' = List.replicate l1.length f ++ fs := by
  induction h with
  | nil E H => intro r fs ws E' F' k; exact ⟨r, fs, ws, k, rfl, rfl⟩
  | @cons o l E H s r1 E1 H1 h k ih =>
    intro r fs ws E' F' k2
    obtain ⟨x, hx⟩ := run_ext k
    have e : newsOf s.nb = [] := by
      rw [hno, List.append_assoc] at hx
      have := List.append_cancel_left (show H ++ [] = H ++ (newsOf s.nb ++ x) by rw [List.append_nil]; exact hx)
      exact (List.append_eq_nil_iff.1 this.symm).1
    rw [e, List.append_nil] at k ih
    obtain ⟨r', fs', ws', g1, g2, g3⟩ := ih hno hf k2
    refine ⟨s :: r', f :: fs', none :: ws', .one (hf ▸ h) (by rw [e, List.append_nil]; exact g1), by simpa using g2, by rw [g3]; rfl⟩
theorem VT.seg [Dr] {l1 l2 : List Oper} (f : Bool) (hl : l = l1 ++ l2) (h : VX true P tab im (ops.toList.map (·.dst)) l1 E (visH f F) fun E1 H1 => H1 = visH f F ∧ VT P tab im ops l2 E1 F W (fl ++ List.replicate l1.length f) K) : VT P tab im ops l E F W fl K := fun E2 he => by
  subst hl
  obtain ⟨r1, E1, H1, hr, E3, he3, hh, hv⟩ := vcDraw_run (ops := ops) _ _ _ (h E2 he)
  obtain ⟨r, fs, ws, E', F', k1, k2, E4, k3, k4⟩ := hv _ he3
  obtain ⟨r', fs', ws', g1, g2, g3⟩ := run_runT (f := f) hr hh rfl k1
  exact ⟨r', fs', ws', E', F', g1, by rw [g2]; exact k2, E4, k3, by rw [g2, g3, ← List.append_assoc]; exact k4⟩
end
section
variable {z : Bool} {P : Program} {tab : Tab} {n lb : Nat} {E : Env} {H : Hp} {QT : Exit → Env → Hp → Prop}
theorem VC.drwTN [Dr] {id : Nat} {l l2 : List Oper} (hT : TabOk P tab) (im : List Nat) (l1 : List Oper) (fl : List Bool) (hl : l = l1 ++ l2) (hm : P.follows .mixedOrders = true) (hB : drawB n l1.length l = true) (hch : chainB l l1.length = true) (hlt : lateB l fl = true) (h : VT P tab im l.toArray l1 E H [] [] fun E H f => f = fl ∧ VX false P tab im (l.map (·.dst)) l2 E H (QT .normal)) : VC z P n lb (.region id l.toArray true) QT E H := by
  have e1 : l.take l1.length = l1 := by rw [hl, List.take_left]
  have e2 : l.drop l1.length = l2 := by rw [hl, List.drop_left]
  obtain ⟨r, fs, ws, E', F', h1, h2, E1, h3, h5, h4⟩ := h E (Sub.refl E)
  have h5' : fs = fl := by simpa using h5
  refine VC.eqv (VC.drawT hT im l1.length hm hB hch ⟨r, fs, ws, E', F', by rw [e1]; exact h1, by rw [h5']; exact hlt, by simpa using h2, ?_⟩)
  rw [e2]
  have := h4 E' h3
  simpa using this
theorem VC.drwT [Dr] {id : Nat} {l l2 : List Oper} {c : Code} (hT : TabOk P tab) (im : List Nat) (l1 : List Oper) (fl : List Bool) (hl : l = l1 ++ l2) (hm : P.follows .mixedOrders = true) (hB : drawB n l1.length l = true) (hch : chainB l l1.length = true) (hlt : lateB l fl = true) (h : VT P tab im l.toArray l1 E H [] [] fun E H f => f = fl ∧ VX false P tab im (l.map (·.dst)) l2 E H fun E H => VC z P n lb c QT E H) : VC z P n lb (.seq (.region id l.toArray true) c) QT E H := VC.seq (VC.drwTN hT im l1 fl hl hm hB hch hlt h)
end
end
section
open Go.RowKit
set_option maxRecDepth 10000
set_option maxHeartbeats 1000000
section
variable {q : Bool} {P : Program} {tab : Tab} {im : List Nat} {ds : List (Option Nat)} {l : List Oper} {E : Env} {H : Hp} {K : Env → Hp → Prop} {d : Nat} {ty : TypeId} {pos : String} {after : Array Edge}
theorem VX.strHead [Dr] {x hi : Operand} {t : Nat} {k : IntKind} {m : Nat} {xs ys : List UInt8} {i : TyI} (hT : tab t = some i) (hk : i.k = .str) (hx : E.opd x = some (strT xs)) (hh : E.opd hi = some (.v (.int k (m : Int)))) (hm : m ≤ xs.length) (he : (⟨xs.toArray⟩ : ByteArray).extract 0 m = ⟨ys.toArray⟩) (kk : VX q P tab im ds l ((d, strT ys) :: E) H K) : VX q P tab im ds (⟨some d, .slice t x none (some hi) none, ty, pos, after, none⟩ :: l) E H K := by
  refine VX.meek (t := strT ys) ?_ kk
  have hs : (m : Int) ≤ ((⟨xs.toArray⟩ : ByteArray).size : Int) := by show (m : Int) ≤ (xs.length : Int); omega
  simp only [opM, hx, optI, hh, mSlice, hT, hk, Option.isSome_none, Bool.false_eq_true, if_false, Option.getD_some, Option.getD_none]
  rw [if_pos ⟨Int.le_refl 0, Int.natCast_nonneg m, hs⟩, Int.toNat_natCast, Int.toNat_zero, he]
end
abbrev trmB (S : Scr) (l : List UInt8) : Trm := ⟨true, 1048577, 1048578, 1048579, S, l⟩
def qs (i : Nat) : List UInt8 := List.replicate (min i 1000) 113
theorem typ_q (i : Nat) : typ (qs i) 113 0 = qs (i + 1) := by
  have e1 : sok 113 = false := by decide
  have e2 : lok 113 0 = true := by decide
  have e3 : lbU 113 0 = 113 := by decide
  unfold typ qs
  rw [List.length_replicate]
  by_cases h : 1000 ≤ min i 1000
  · rw [if_pos h, show min (i + 1) 1000 = min i 1000 from by omega]
  · rw [if_neg h, if_neg (by rw [e1]; simp), if_pos e2, e3, show min (i + 1) 1000 = min i 1000 + 1 from by omega, List.replicate_succ']
theorem termTyped_all : CallP Try.prog 3 [] (BL true) := by
  obtain ⟨S, hS⟩ : ∃ S, S = blankScr 3 2 100 := ⟨_, rfl⟩
  have hnew : CallP Try.prog 4 [I64 1, I64 3, I64 2] (.tup [trmT (trmB S []), (.islc (openC 1048576 3 2) 6 (some 6)), I64 0]) := by rw [hS]; exact tnew_p 1 3 2 (by decide) (by decide) (by decide) (by decide) (by decide) (by decide)
  generalize openC 1048576 3 2 = O at *
  clear hS
  have hql : ∀ i, (qs i).length ≤ 100000 := fun i => by unfold qs; rw [List.length_replicate]; omega
  have hst : ∀ i, CallP Try.prog 5 [trmT (trmB S (qs i)), outT 2 1 (keyN 1048577 113 0)] (.tup [trmT (trmB S (qs (i + 1))), .islc [] 0 none]) := fun i => by
    have := tstep_p 1048577 1048578 1048579 S (qs i) 113 0 (by decide) (hql i)
    rw [show (0 : Int) % 256 = 0 from by decide, typ_q] at this
    exact this
  have hst2 : CallP Try.prog 5 [trmT (trmB S []), outT 2 1 (keyN 1048577 113 257)] (.tup [trmT (trmB S [81]), .islc [] 0 none]) := by
    have := tstep_p 1048577 1048578 1048579 S [] 113 257 (by decide) (by decide)
    rw [show typ [] 113 ((257 : Int) % 256) = [81] from by decide] at this
    exact this
  have hty : CallP Try.prog 7 [trmT (trmB S (qs 1100))] (.tup [trmT (trmB S []), strT (qs 1100)]) := typed_p _
  have hty2 : CallP Try.prog 7 [trmT (trmB S [81])] (.tup [trmT (trmB S []), strT [81]]) := typed_p _
  have hpp : ∀ l, T.pureL (trmC (trmB S l)) = true := fun l => trm_pure _
  have hlen : (qs 1100).length = 1000 := by decide +kernel
  have hcut : (⟨(qs 1100).toArray⟩ : ByteArray).extract 0 3 = ⟨#[113, 113, 113]⟩ := by decide +kernel
  have hq0 : qs 0 = [] := rfl
  generalize hQ : qs 1100 = Q at *
  refine CallP.intro2 au_pu au_pu ?_
  refine CallT.intro tab_ok Try.func3 rfl (by kernel_rfl) (Nat.le_of_ble_eq_true rfl) ?_
  refine VC.reg tab_ok [] rfl ?_
  refine VX.meek rfl ?_
  refine VX.nil ?_
  refine VC.reg tab_ok [] rfl ?_
  refine VX.callP0 rfl rfl rfl (hnew) ?_
  iterate 4 refine VX.meek rfl ?_
  refine VX.new rfl rfl ?_
  refine VX.store rfl rfl rfl rfl rfl au_sY rfl ?_
  iterate 2 refine VX.meek rfl ?_
  refine VX.nil ?_
  refine VC.seq ?_
  refine VC.reg tab_ok [] rfl ?_
  refine VX.meek rfl ?_
  refine VX.nil ?_
  refine VC.block ?_
  refine VC.loopS (σ := Nat) (fun i => 1100 - i) (fun i => i ≤ 1100) (fun i => [(12, I64 i), (1, .ptr 0 0), (3, I64 0)]) (fun i => [.c (trmC (trmB S (qs i)))]) [] rfl (0) ?_ ?_ ?_
  · refine ⟨[some 0], rfl, by first | trivial | decide, rfl, ?_, ?_⟩ <;> (repeat' first | exact trivial | exact CvB_n | exact CvB_d | exact CvB_o rfl | refine CvE_app ?_ ?_ | refine CvE_cons rfl ?_ ?_ | refine CvH_cons ?_ ?_ | refine CvB_c rfl ?_ | fail) <;> first | exact au_v | (first | exact CvL.pure (hpp _) | exact CvL.eq (by kernel_rfl) (hpp _))
  · (try dsimp only); omega
  rintro i hi
  refine VC.reg tab_ok [] rfl ?_
  refine VX.meek rfl ?_
  refine VX.nil ?_
  refine VC.seq ?_
  refine VC.cond rfl (fun hc0 => ?_) (fun hc0 => ?_)
  · (try simp only [au_std] at hc0); have hil : i < 1100 := (by omega); have hsti := hst i
    refine VC.skip ?_
    refine VC.seq ?_
    refine VC.block ?_
    refine VC.drwTN tab_ok [] [_, _, _, _, _, _, _, _] [true, true, true, true, true, true, false, false] rfl (by kernel_rfl) (by kernel_rfl) (by kernel_rfl) (by kernel_rfl) ?_
    refine VT.seg true (l1 := [_, _, _, _, _, _]) rfl ?_
    first | refine VX.meek rfl ?_ | refine VX.loadI rfl rfl au_l ?_ | refine VX.loadP rfl rfl rfl au_l ?_
    refine VX.meek rfl ?_
    refine VX.callP0 rfl rfl rfl (outk_p 3 [] 0 0 113 0 1048577 (by decide) (by decide) (by decide) (by decide)) ?_
    refine VX.callP0 rfl rfl rfl (hsti) ?_
    iterate 2 refine VX.meek rfl ?_
    refine VX.nil ⟨rfl, ?_⟩
    refine VT.seg false (l1 := [_]) rfl ?_
    refine VX.meek rfl ?_
    refine VX.nil ⟨rfl, ?_⟩
    refine VT.sto rfl rfl rfl rfl ?_
    refine VT.nil (⟨Nat.le_of_ble_eq_true rfl, rfl, trivial⟩) ⟨rfl, ?_⟩
    refine VX.nil ?_
    refine VC.regN tab_ok [] rfl ?_
    first | refine VX.add rfl rfl (by omega) ?_ | refine VX.meek rfl ?_
    refine VX.meek rfl ?_
    refine VX.nil ?_
    refine ⟨i + 1, by (try dsimp only); omega, ?_, (by refine ⟨[some 0], rfl, by first | trivial | decide, rfl, ?_, ?_⟩ <;> (repeat' first | exact trivial | exact CvB_n | exact CvB_d | exact CvB_o rfl | refine CvE_app ?_ ?_ | refine CvE_cons rfl ?_ ?_ | refine CvH_cons ?_ ?_ | refine CvB_c rfl ?_ | fail) <;> first | exact au_v | (first | exact CvL.pure (hpp _) | exact CvL.eq (by kernel_rfl) (hpp _)))⟩
    (try dsimp only); omega
  · (try simp only [au_std] at hc0); obtain rfl : i = 1100 := (by omega); rw [hQ]
    refine VC.exit ?_
    refine VC.reg tab_ok [] rfl ?_
    first | refine VX.meek rfl ?_ | refine VX.loadI rfl rfl au_l ?_ | refine VX.loadP rfl rfl rfl au_l ?_
    refine VX.callP0 rfl rfl rfl (hty) ?_
    iterate 3 refine VX.meek rfl ?_
    refine VX.store rfl rfl rfl rfl rfl au_sY rfl ?_
    refine VX.meek rfl ?_
    refine VX.nil ?_
    refine VC.drwT tab_ok [] [_, _, _, _, _, _, _, _] [true, true, true, true, true, true, false, false] rfl (by kernel_rfl) (by kernel_rfl) (by kernel_rfl) (by kernel_rfl) ?_
    refine VT.seg true (l1 := [_, _, _, _, _, _]) rfl ?_
    first | refine VX.meek rfl ?_ | refine VX.loadI rfl rfl au_l ?_ | refine VX.loadP rfl rfl rfl au_l ?_
    refine VX.meek rfl ?_
    refine VX.callP0 rfl rfl rfl (outk_p 3 [] 0 0 113 257 1048577 (by decide) (by decide) (by decide) (by decide)) ?_
    refine VX.callP0 rfl rfl rfl (hst2) ?_
    iterate 2 refine VX.meek rfl ?_
    refine VX.nil ⟨rfl, ?_⟩
    refine VT.seg false (l1 := [_]) rfl ?_
    refine VX.meek rfl ?_
    refine VX.nil ⟨rfl, ?_⟩
    refine VT.sto rfl rfl rfl rfl ?_
    refine VT.nil (⟨Nat.le_of_ble_eq_true rfl, rfl, trivial⟩) ⟨rfl, ?_⟩
    refine VX.nil ?_
    refine VC.reg tab_ok [] rfl ?_
    first | refine VX.meek rfl ?_ | refine VX.loadI rfl rfl au_l ?_ | refine VX.loadP rfl rfl rfl au_l ?_
    refine VX.callP0 rfl rfl rfl (hty2) ?_
    iterate 3 refine VX.meek rfl ?_
    refine VX.new rfl rfl ?_
    refine VX.store rfl rfl rfl rfl rfl au_sY rfl ?_
    refine VX.meek rfl ?_
    refine VX.nil ?_
    refine VC.reg tab_ok [] rfl ?_
    iterate 3 refine VX.meek rfl ?_
    refine' VX.merge (d := 45) [_, _, _, _] rfl ?_ rfl ?_
    rotate_left
    · refine VX.guard rfl rfl (fun hb9_2 => ?_) (fun hb9_2 => ?_)
      · have ghb9_2 := hb9_2
        try simp only [au_std, Bool.not_true, Bool.not_false] at ghb9_2
        refine VX.meek rfl ?_
        refine VX.guardT rfl rfl hb9_2 ?_
        refine VX.meek (t := I64 1000) (by show some (I64 (Q.length : Nat), (none : Option (Nat × List T))) = _; rw [hlen]; rfl) ?_
        refine VX.guardT rfl rfl hb9_2 ?_
        refine VX.meek rfl ?_
        refine VX.pickA rfl (fun _ => rfl) ?_
        exact VX.nil ⟨rfl, rfl⟩
      · refine VX.guardF rfl rfl hb9_2 ?_
        refine VX.guardF rfl rfl hb9_2 ?_
        exact VX.pickA rfl (fun h => absurd (h.symm.trans hb9_2) (by decide)) (VX.nil ⟨rfl, rfl⟩)
    refine VX.meek rfl ?_
    refine' VX.merge (d := 50) [_, _, _, _] rfl ?_ rfl ?_
    rotate_left
    · refine VX.guard rfl rfl (fun hb9_7 => ?_) (fun hb9_7 => ?_)
      · have ghb9_7 := hb9_7
        try simp only [au_std, Bool.not_true, Bool.not_false] at ghb9_7
        refine VX.meek rfl ?_
        refine VX.guardT rfl rfl hb9_7 ?_
        refine VX.strHead (m := 3) (xs := Q) (ys := [113, 113, 113]) rfl rfl rfl rfl (by omega) hcut ?_
        refine VX.guardT rfl rfl hb9_7 ?_
        refine VX.meek rfl ?_
        refine VX.pickA rfl (fun _ => rfl) ?_
        exact VX.nil ⟨rfl, rfl⟩
      · refine VX.guardF rfl rfl hb9_7 ?_
        refine VX.guardF rfl rfl hb9_7 ?_
        exact VX.pickA rfl (fun h => absurd (h.symm.trans hb9_7) (by decide)) (VX.nil ⟨rfl, rfl⟩)
    refine VX.meek rfl ?_
    refine' VX.merge (d := 54) [_, _, _] rfl ?_ rfl ?_
    rotate_left
    · refine VX.guard rfl rfl (fun hb9_12 => ?_) (fun hb9_12 => ?_)
      · have ghb9_12 := hb9_12
        try simp only [au_std, Bool.not_true, Bool.not_false] at ghb9_12
        refine VX.meek rfl ?_
        refine VX.guardT rfl rfl hb9_12 ?_
        refine VX.meek rfl ?_
        refine VX.pickA rfl (fun _ => rfl) ?_
        exact VX.nil ⟨rfl, rfl⟩
      · refine VX.guardF rfl rfl hb9_12 ?_
        exact VX.pickA rfl (fun h => absurd (h.symm.trans hb9_12) (by decide)) (VX.nil ⟨rfl, rfl⟩)
    refine VX.meek rfl ?_
    refine' VX.merge (d := 57) [_, _] rfl ?_ rfl ?_
    rotate_left
    · refine VX.guard rfl rfl (fun hb9_16 => ?_) (fun hb9_16 => ?_)
      · have ghb9_16 := hb9_16
        try simp only [au_std, Bool.not_true, Bool.not_false] at ghb9_16
        refine VX.callP0 rfl rfl rfl (awake57_p) ?_
        refine VX.pickA rfl (fun _ => rfl) ?_
        exact VX.nil ⟨rfl, rfl⟩
      · exact VX.pickA rfl (fun h => absurd (h.symm.trans hb9_16) (by decide)) (VX.nil ⟨rfl, rfl⟩)
    refine VX.meek rfl ?_
    refine VX.nil ?_
    refine VC.ret ?_
    exact ⟨trivial, _, rfl, Cv.eq (by first | rfl | (simp [*]; done)) rfl⟩
end
section
open Go.ChangeShapes Go.WideShapes Go.ChangeAt Go.RowKit Go.WideElems
def rowed (P : Program) (ts : List TypeId) : Bool := ts.all fun t => P.readableRec t && decide (t < P.types.size)
theorem trodAll_below {H : Type} {enc : TypeId × Value → H} {P : Program} (hl : laidOutB P = true) {W W' : World} (hb : Below W.heap.size W W') :
    ∀ {ts : List TypeId} {vs : List Value} {ds : List (DataW H)} {p : List MemPlace}, rowed P ts = true → (∀ x ∈ p, x.block < W.heap.size) →
      DataW.TrodAll enc P W 0 (fun _ => true) true ts vs ds p → DataW.TrodAll enc P W' 0 (fun b => decide (b < W.heap.size)) true ts vs ds p
  | [], _, _, _, _, _, h => by
    obtain ⟨rfl, rfl, rfl⟩ := trodAll_nil h
    exact trodAll_mk0
  | t :: ts, _, _, _, hr, hlt, h => by
    obtain ⟨v, vs1, d, ds1, a, b, rfl, rfl, rfl, h1, h2⟩ := trodAll_cons h
    simp only [rowed, List.all_cons, Bool.and_eq_true, decide_eq_true_eq] at hr
    refine trodAll_cons_mk (Below.trod hl hr.1.1 hr.1.2 h1 hb (fun x hx => hlt x (by simp [hx]))) ?_
    exact trodAll_below hl hb (by simpa [rowed] using hr.2) (fun x hx => hlt x (by simp [hx])) h2
theorem post_law {H : Type} {enc : TypeId × Value → H} {P : Program} {f : Func} {s : ChangeSpec} {W W' : World} {args : Array Value} {ds gs : List (DataW H)} {before : List MemPlace} {tb : TypeId}
    (hl : laidOutB P = true) (hps : rowed P f.params.toList = true) (hvs : varsRowed P s.vars = true) (hres : f.resultTypes = #[tb]) (htb : P.underlying tb = some .bool)
    (hW : DataW.Whole enc P f.params.toList s.vars false W args.toList ds gs before)
    (h1 : (s.fn H (ds ++ gs)).results = [.lit (.bool true)]) (h2 : (s.fn H (ds ++ gs)).args = ds) (h3 : (s.fn H (ds ++ gs)).vars = gs)
    (hb : Below W.heap.size W W') : s.post enc P f false true false false W args (.bool true) W' := by
  have hlt := hW.lt
  have hW' := hW
  obtain ⟨p, q, hA, hV, rfl, hfz, hnd⟩ := hW
  refine ⟨ds, gs, p ++ q, [], p, q, hW', ?_, ?_, ?_, hb.frame _, fun h => by cases h⟩
  · rw [h1, hres]
    exact trodAll_cons_mk (shut_bool htb true) trodAll_mk0
  · rw [h2]
    exact trodAll_below hl hb hps (fun x hx => hlt x (by simp [hx])) hA
  · rw [h3]
    exact Below.trodVars hl hb hvs hV
end
end Go.Proofs.Ytjnomaiejmgedaa
