/-
  The proof's lemmas, part 6.
-/
import Derived.Test.YtelhkfdpkjkpjaaGreatZle
namespace Go.Proofs.YtelhkfdpkjkpjaaGreat
set_option linter.unusedSimpArgs false
set_option linter.unusedVariables false
section
open Go.RowKit Go.Sort
set_option maxRecDepth 10000
set_option maxHeartbeats 4000000
theorem rest_eq (a n : Int) (hn : 0 < n) : (a.tmod n + n).tmod n = a % n := by
  have h1 : -n < a.tmod n := by have := Int.lt_tmod_of_pos a hn; omega
  rw [Int.tmod_eq_emod_of_nonneg (by omega), Int.add_emod_right]
  have h2 : a.tmod n = a + n * (-(a.tdiv n)) := by have := Int.mul_tdiv_add_tmod a n; rw [Int.mul_neg]; omega
  rw [h2, Int.add_mul_emod_self_left]
section
variable {q : Bool} {P : Program} {tab : Tab} {im : List Nat} {ds : List (Option Nat)} {l : List Oper} {E : Env} {H : Hp} {K : Env → Hp → Prop} {d : Nat} {ty : TypeId} {pos : String} {after : Array Edge}
theorem VX.quo {x y : Operand} {t t2 : Nat} {a c : Int} (hx : E.opd x = some (I64 a)) (hy : E.opd y = some (I64 c)) (ha : 0 ≤ a) (ha2 : a ≤ 9000000000000000000) (hc : 0 < c) (k : VX q P tab im ds l ((d, I64 (a / c)) :: E) H K) : VX q P tab im ds (⟨some d, .binOp .quo t x y t2, ty, pos, after, none⟩ :: l) E H K := by
  refine VX.meek (t := I64 (a / c)) ?_ k
  have h1 : a / c ≤ a := Int.ediv_le_self c ha
  have h2 : 0 ≤ a / c := Int.ediv_nonneg ha (by omega)
  have hc' : ¬ c = 0 := by omega
  simp only [opM, hx, hy, mBin, binInt]
  rw [if_neg hc', Int.tdiv_eq_ediv_of_nonneg ha, wrap_in (by omega)]
  rfl
theorem VX.rem {x y : Operand} {t t2 : Nat} {a c : Int} (hx : E.opd x = some (I64 a)) (hy : E.opd y = some (I64 c)) (ha : 0 ≤ a) (hc : 0 < c) (k : VX q P tab im ds l ((d, I64 (a % c)) :: E) H K) : VX q P tab im ds (⟨some d, .binOp .rem t x y t2, ty, pos, after, none⟩ :: l) E H K := by
  refine VX.meek (t := I64 (a % c)) ?_ k
  have hc' : ¬ c = 0 := by omega
  simp only [opM, hx, hy, mBin, binInt]
  rw [if_neg hc', Int.tmod_eq_emod_of_nonneg ha]
  rfl
theorem VX.rem0 {x y : Operand} {t t2 : Nat} {a c : Int} (hx : E.opd x = some (I64 a)) (hy : E.opd y = some (I64 c)) (hc : c ≠ 0) (k : VX q P tab im ds l ((d, I64 (a.tmod c)) :: E) H K) : VX q P tab im ds (⟨some d, .binOp .rem t x y t2, ty, pos, after, none⟩ :: l) E H K := by
  refine VX.meek (t := I64 (a.tmod c)) ?_ k
  simp only [opM, hx, hy, mBin, binInt]
  rw [if_neg hc]
  rfl
end
theorem rest_p (a n : Int) (hn : 0 < n ∧ n ≤ 128) : CallP Tryz.prog 73 [I64 a, I64 n] (I64 (a % n)) := by
  have hr := rest_eq a n hn.1
  have h1 : -n < a.tmod n := by have := Int.lt_tmod_of_pos a hn.1; omega
  have h2 : a.tmod n < n := Int.tmod_lt_of_pos a hn.1
  rw [← hr]
  refine CallP.intro2 au_pu au_pu ?_
  refine CallT.intro tab_ok Tryz.func73 rfl (by kernel_rfl) (Nat.le_of_ble_eq_true rfl) ?_
  refine VC.reg tab_ok [] rfl ?_
  refine VX.meek rfl ?_
  refine VX.nil ?_
  refine VC.reg tab_ok [] rfl ?_
  iterate 2 refine VX.meek rfl ?_
  refine VX.rem0 rfl rfl (by omega) ?_
  refine VX.meek rfl ?_
  first | refine VX.add rfl rfl (by omega) ?_ | refine VX.meek rfl ?_
  refine VX.meek rfl ?_
  refine VX.rem0 rfl rfl (by omega) ?_
  refine VX.meek rfl ?_
  refine VX.nil ?_
  refine VC.ret ?_
  exact ⟨trivial, _, rfl, Cv.eq (by first | rfl | (simp [*]; done)) rfl⟩
def coordB (n : Int) : Bool := decide (-1048576 ≤ n) && decide (n ≤ 1048576)
theorem coord_p (n : Int) : CallP Tryz.prog 65 [I64 n] (BL (coordB n)) := by
  refine CallP.intro2 au_pu au_pu ?_
  refine CallT.intro tab_ok Tryz.func65 rfl (by kernel_rfl) (Nat.le_of_ble_eq_true rfl) ?_
  refine VC.reg tab_ok [] rfl ?_
  refine VX.meek rfl ?_
  refine VX.nil ?_
  refine VC.reg tab_ok [] rfl ?_
  iterate 3 refine VX.meek rfl ?_
  refine' VX.merge (d := 8) [_, _, _] rfl ?_ rfl ?_
  rotate_left
  · refine VX.guard rfl rfl (fun hb1_2 => ?_) (fun hb1_2 => ?_)
    · have ghb1_2 := hb1_2
      try simp only [au_std, Bool.not_true, Bool.not_false] at ghb1_2
      refine VX.meek rfl ?_
      refine VX.guardT rfl rfl hb1_2 ?_
      refine VX.meek rfl ?_
      refine VX.pickA rfl (fun _ => rfl) ?_
      exact VX.nil ⟨rfl, rfl⟩
    · refine VX.guardF rfl rfl hb1_2 ?_
      exact VX.pickA rfl (fun h => absurd (h.symm.trans hb1_2) (by decide)) (VX.nil ⟨rfl, rfl⟩)
  refine VX.meek rfl ?_
  refine VX.nil ?_
  refine VC.ret ?_
  exact ⟨trivial, _, rfl, Cv.eq (by first | rfl | (simp [*]; done)) rfl⟩
abbrev plP (w h : Nat) (px : List Int) : T := .iptr (plC w h px (.islc (encL cU px) px.length none)) 0
theorem plC_pure (w h : Nat) (px : List Int) : T.pureL (plC w h px (.islc (encL cU px) px.length none)) = true := by simp only [T.pureL, T.pure, encL_pure]; rfl
theorem planeOf_p (w h : Nat) (px : List Int) (hw : w ≤ 128) (hh : h ≤ 128) (hl : px.length = w * h) (hb : ∀ v ∈ px, 0 ≤ v ∧ v < 256) : CallP Tryz.prog 66 [gT w h px] (plP w h px) :=
  CallP.intro2 (by simp only [T.pureL, T.pure, encL_pure]; rfl) (plC_pure w h px) ((planeOf_t w h px hw hh hl hb).mono fun t H' ⟨h1, h2⟩ => by
    subst h1 h2; exact Cv.iptr (cv_pl (Cv.pure (encL_pure cU _)) (Cv.fslc0 ⟨rfl, by simp⟩ (CvL.pure (encL_pure cU _)))))
def tileF (tw th : Nat) (tpx : List Int) (x y : Int) : Int → Int → Int → Int := fun a b _ => tpx[(((b - y) % (th : Int)) * tw + (a - x) % (tw : Int)).toNat]!
theorem tile1_t (w h tw th : Nat) (px s tpx : List Int) (x y a b : Int) (hw : w ≤ 128) (hh : h ≤ 128) (hl : px.length = w * h) (hs : s.length = w * h) (htw : 1 ≤ tw ∧ tw ≤ 128) (hth : 1 ≤ th ∧ th ≤ 128) (htl : tpx.length = tw * th) (hx : -1048576 ≤ x ∧ x ≤ 1048576) (hy : -1048576 ≤ y ∧ y ≤ 1048576) (ha : 0 ≤ a) (ha2 : a < w) (hb : 0 ≤ b) (hb2 : b < h) :
    CallT Tryz.prog 70 ([] ++ [I64 a, I64 b] ++ (.iptr [plT 0 w h px] 0 :: [.iptr [plP tw th tpx] 0, .iptr [I64 x] 0, .iptr [I64 y] 0])) [.c (encL cU s)] (fun t H' => t = .tup [] ∧ H' = [.c (encL cU (s.set (b * w + a).toNat (tileF tw th tpx x y a b s[(b * w + a).toNat]!)))]) := by
  have hm1 := Int.emod_nonneg (a - x) (show (tw : Int) ≠ 0 by omega)
  have hm2 := Int.emod_lt_of_pos (a - x) (show (0 : Int) < tw by omega)
  have hm3 := Int.emod_nonneg (b - y) (show (th : Int) ≠ 0 by omega)
  have hm4 := Int.emod_lt_of_pos (b - y) (show (0 : Int) < th by omega)
  have hwas : CallP Tryz.prog 72 [plP tw th tpx, I64 ((a - x) % (tw : Int)), I64 ((b - y) % (th : Int))] (U8 (tileF tw th tpx x y a b s[(b * w + a).toNat]!)) :=
    CallP.intro2 (by simp only [T.pureL, T.pure, encL_pure]; rfl) rfl ((was_t tw th tpx (.islc (encL cU tpx) tpx.length none) [] _ _ htw.2 hth.2 htl hm1 hm2 hm3 hm4).mono fun t H' ⟨h1, h2⟩ => by subst h1; exact Cv.eq rfl rfl)
  refine CallT.intro tab_ok Tryz.func70 rfl (by kernel_rfl) (Nat.le_of_ble_eq_true rfl) ?_
  refine VC.drwN tab_ok [] [_, _, _, _, _, _, _, _, _, _, _, _, _, _, _, _, _, _, _, _, _] rfl (by kernel_rfl) (by kernel_rfl) ?_
  first | refine VX.meek rfl ?_ | refine VX.loadI rfl rfl au_l ?_ | refine VX.loadP rfl rfl rfl au_l ?_
  iterate 2 refine VX.meek rfl ?_
  first | refine VX.meek rfl ?_ | refine VX.loadI rfl rfl au_l ?_ | refine VX.loadP rfl rfl rfl au_l ?_
  refine VX.meek rfl ?_
  first | refine VX.meek rfl ?_ | refine VX.loadI rfl rfl au_l ?_ | refine VX.loadP rfl rfl rfl au_l ?_
  first | refine VX.sub rfl rfl (by omega) ?_ | refine VX.meek rfl ?_
  first | refine VX.meek rfl ?_ | refine VX.loadI rfl rfl au_l ?_ | refine VX.loadP rfl rfl rfl au_l ?_
  iterate 2 refine VX.meek rfl ?_
  first | refine VX.meek rfl ?_ | refine VX.loadI rfl rfl au_l ?_ | refine VX.loadP rfl rfl rfl au_l ?_
  refine VX.callP0 rfl rfl rfl (rest_p (a - x) tw ⟨by omega, by omega⟩) ?_
  refine VX.meek rfl ?_
  first | refine VX.meek rfl ?_ | refine VX.loadI rfl rfl au_l ?_ | refine VX.loadP rfl rfl rfl au_l ?_
  first | refine VX.sub rfl rfl (by omega) ?_ | refine VX.meek rfl ?_
  first | refine VX.meek rfl ?_ | refine VX.loadI rfl rfl au_l ?_ | refine VX.loadP rfl rfl rfl au_l ?_
  iterate 2 refine VX.meek rfl ?_
  first | refine VX.meek rfl ?_ | refine VX.loadI rfl rfl au_l ?_ | refine VX.loadP rfl rfl rfl au_l ?_
  refine VX.callP0 rfl rfl rfl (rest_p (b - y) th ⟨by omega, by omega⟩) ?_
  refine VX.callP0 rfl rfl rfl (hwas) ?_
  refine VX.nil ?_
  refine VX.callT rfl rfl (CallT.frame (set_t w h px s a b _ hw hh hl hs ha ha2 hb hb2) [0] rfl au_ci au_ci ?_)
  rintro _ _ ⟨rfl, rfl⟩
  refine frK au_co au_co ?_
  refine VX.nil ?_
  exact ⟨trivial, _, rfl, rfl, rfl⟩
theorem reg_pure (l : List Rect) : T.pureL [.islc (encL cR l) l.length none] = true := by simp only [T.pureL, T.pure, encL_pure, Bool.and_self]
theorem plP_pure (w h : Nat) (px : List Int) : T.pureL [plP w h px] = true := by simp only [T.pureL, T.pure, encL_pure]; rfl
theorem tile_leaf {lb : Nat} {E : Env} {H : Hp} {w h tw th : Nat} {px tpx : List Int} {clip what : List Rect} {x y : Int} (a b c : Nat) (hlb : lbOk lb 0 [some 0, some c])
    (h6 : E.get 6 = some (.iptr [I64 w, I64 h, .islc (encL cU px) px.length none] 0)) (h7 : E.get 7 = some (.iptr [.islc (encL cR clip) clip.length none] 0)) (h8 : E.get 8 = some (.iptr [.islc (encL cR what) what.length none] 0))
    (h10 : E.get 10 = some (.iptr [I64 x] 0)) (h11 : E.get 11 = some (.iptr [I64 y] 0)) (h12 : E.get 12 = some (.ptr 0 0)) (h13 : E.get 13 = some (.ptr a 0)) (h14 : E.get 14 = some (.ptr b 0))
    (k0 : lookH H 0 = some [I64 0, I64 0, NIL]) (ka : lookH H a = some [plT c w h px]) (kb : lookH H b = some [plP tw th tpx]) (kc : lookH H c = some (encL cU px))
    (n0 : (decide (c ≠ 0) && decide (a ≠ 0) && decide (a ≠ c) && decide (b ≠ 0) && decide (b ≠ c)) = true) :
    Conv lb E H ([(6, .iptr [I64 w, I64 h, .islc (encL cU px) px.length none] 0), (7, .iptr [.islc (encL cR clip) clip.length none] 0), (8, .iptr [.islc (encL cR what) what.length none] 0), (10, .iptr [I64 x] 0), (11, .iptr [I64 y] 0), (12, .ptr 0 0), (13, .iptr [plT 1 w h px] 0), (14, .iptr [plP tw th tpx] 0)] ++ []) [.c [I64 0, I64 0, NIL], .c (encL cU px)] := by
  simp only [Bool.and_eq_true, decide_eq_true_eq] at n0
  obtain ⟨⟨⟨⟨m1, m2⟩, m3⟩, m4⟩, m5⟩ := n0
  have hgp : T.pureL [I64 w, I64 h, .islc (encL cU px) px.length none] = true := by simp only [T.pureL, T.pure, encL_pure, Bool.and_self]
  refine ⟨[some 0, some c], by have e : Nat.beq 0 c = false := (by cases c with | zero => exact absurd rfl m1 | succ c => rfl); simp [injB, noneIn, e], hlb, rfl, ?_, ?_⟩
  · refine CvE_cons h6 (Cv.pure hgp) (CvE_cons h7 (Cv.pure (reg_pure clip)) (CvE_cons h8 (Cv.pure (reg_pure what)) (CvE_cons h10 (Cv.pure rfl) (CvE_cons h11 (Cv.pure rfl) (CvE_cons h12 (Cv.ptr rfl) (CvE_cons h13 ?_ (CvE_cons h14 ?_ trivial)))))))
    · exact Cv.fptr ⟨ka, by simp; omega⟩ (CvL.cons (Cv.iptr (cv_pl (Cv.pure (encL_pure cU _)) (Cv.slc rfl (.inl rfl)))) CvL.nil)
    · exact Cv.fptr ⟨kb, by simp; omega⟩ (CvL.pure (plP_pure tw th tpx))
  · refine CvH_cons (CvB_c k0 (CvL.pure rfl)) (CvH_cons (CvB_c kc (CvL.pure (encL_pure cU _))) ?_)
    exact trivial
theorem tileF_bd {tw th : Nat} {tpx : List Int} {x y : Int} (hb : ∀ v ∈ tpx, 0 ≤ v ∧ v < 256) : ∀ a b o, 0 ≤ o ∧ o < 256 → 0 ≤ tileF tw th tpx x y a b o ∧ tileF tw th tpx x y a b o < 256 := fun a b o _ => bang_bd hb _
theorem tile_p {n m : Nat} (w h tw th : Nat) (px tpx : List Int) (clip what : List Rect) (x y : Int) (hw : w ≤ 128) (hh : h ≤ 128) (hl : px.length = w * h) (hpb : ∀ v ∈ px, 0 ≤ v ∧ v < 256) (htw2 : tw ≤ 128) (hth2 : th ≤ 128) (htl : tpx.length = tw * th) (htz : (tw = 0 ∧ th = 0) ∨ (1 ≤ tw ∧ 1 ≤ th)) (htb : ∀ v ∈ tpx, 0 ≤ v ∧ v < 256)
    (hc : Reg n clip) (ht : Reg m what) (hnm : n + m ≤ 498) (hx : coordB x = true) (hy : coordB y = true) :
    CallP Tryz.prog 18 [gT w h px, regT clip, regT what, gT tw th tpx, I64 x, I64 y] (gT w h (if tw = 0 then px else paintL w (fun a b => inL clip a b ∧ inL what a b) (tileF tw th tpx x y) px)) := by
  have hgp : T.pureL [I64 w, I64 h, .islc (encL cU px) px.length none] = true := by simp only [T.pureL, T.pure, encL_pure, Bool.and_self]
  have hm := opL_reg (k := and) rfl hc ht
  have hr := opL_reg (k := and) rfl hm (Reg.of [⟨0, 0, w, h⟩])
  have hlen : (opL and (opL and clip what) (bandOf [⟨0, 0, (w : Int), (h : Int)⟩])).length ≤ 1048576 := Nat.le_trans hr.len (Nat.le_trans (Nat.mul_le_mul (by simp; omega) (by simp; omega)) (show 500 * 500 ≤ 1048576 by decide))
  have hins : ∀ x y, inL (opL and (opL and clip what) (bandOf [⟨0, 0, (w : Int), (h : Int)⟩])) x y → 0 ≤ x ∧ x < w ∧ 0 ≤ y ∧ y < h := fun x y hi => (in_plane0 hw hh x y).1 (opL_sub2 hm (Reg.of _) hi).2
  have hres : paintL w (inL (opL and (opL and clip what) (bandOf [⟨0, 0, (w : Int), (h : Int)⟩]))) (tileF tw th tpx x y) px = paintL w (fun x y => inL clip x y ∧ inL what x y) (tileF tw th tpx x y) px := paint_congr hl (fun a b h1 h2 h3 h4 => by rw [opL_and hm (Reg.of _), opL_and hc ht, in_plane0 hw hh]; simp [h1, h2, h3, h4]) (fun _ _ _ _ _ _ _ => rfl)
  rw [← hres]
  have hwi : CallP Tryz.prog 68 [regT (opL and clip what), rectT ⟨0, 0, w, h⟩] (regT (opL and (opL and clip what) (bandOf [⟨0, 0, (w : Int), (h : Int)⟩]))) := within_p hm ⟨0, 0, w, h⟩ ⟨by unfold i64; dsimp only; omega, by unfold i64; dsimp only; omega⟩ (by omega)
  generalize opL and (opL and clip what) (bandOf [⟨0, 0, (w : Int), (h : Int)⟩]) = R at *
  have hbd := paintL_bd (w := w) (V := inL R) hpb (tileF_bd (tw := tw) (th := th) (x := x) (y := y) htb)
  have hpl := paintL_len w (inL R) (tileF tw th tpx x y) px
  have hx2 : -1048576 ≤ x ∧ x ≤ 1048576 := by unfold coordB at hx; simp at hx; omega
  have hy2 : -1048576 ≤ y ∧ y ≤ 1048576 := by unfold coordB at hy; simp at hy; omega
  have hcs : T.pureL [.iptr [plP tw th tpx] 0, .iptr [I64 x] 0, .iptr [I64 y] 0] = true := by simp only [T.pureL, T.pure, encL_pure]; rfl
  refine CallP.intro2 au_pu au_pu ?_
  refine CallT.intro tab_ok Tryz.func18 rfl (by kernel_rfl) (Nat.le_of_ble_eq_true rfl) ?_
  refine VC.reg tab_ok [6, 7, 8, 9, 10, 11] rfl ?_
  refine VX.newI rfl rfl ?_
  refine VX.newI rfl rfl ?_
  refine VX.newI rfl rfl ?_
  refine VX.newI rfl rfl ?_
  refine VX.newI rfl rfl ?_
  refine VX.newI rfl rfl ?_
  refine VX.new rfl rfl ?_
  refine VX.nil ?_
  refine VC.seq ?_
  refine VC.reg tab_ok [] rfl ?_
  first | refine VX.meek rfl ?_ | refine VX.loadI rfl rfl au_l ?_ | refine VX.loadP rfl rfl rfl au_l ?_
  refine VX.callP0 rfl rfl rfl (coord_p x) ?_
  iterate 2 refine VX.meek rfl ?_
  refine' VX.merge (d := 22) [_, _, _, _] rfl ?_ rfl ?_
  rotate_left
  · refine VX.guard rfl rfl (fun hb1_3 => ?_) (fun hb1_3 => ?_)
    · have ghb1_3 := hb1_3
      try simp only [au_std, Bool.not_true, Bool.not_false] at ghb1_3
      first | refine VX.meek rfl ?_ | refine VX.loadI rfl rfl au_l ?_ | refine VX.loadP rfl rfl rfl au_l ?_
      refine VX.guardT rfl rfl hb1_3 ?_
      refine VX.callP0 rfl rfl rfl (coord_p y) ?_
      refine VX.guardT rfl rfl hb1_3 ?_
      refine VX.meek rfl ?_
      refine VX.pickO rfl (fun _ => rfl) ?_
      exact VX.nil ⟨rfl, rfl⟩
    · refine VX.guardF rfl rfl hb1_3 ?_
      refine VX.guardF rfl rfl hb1_3 ?_
      exact VX.pickO rfl (fun h => absurd (h.symm.trans hb1_3) (by decide)) (VX.nil ⟨rfl, rfl⟩)
  refine VX.nil ?_
  refine VC.cond rfl (fun hc0 => ?_) (fun hc0 => ?_)
  · exact absurd hc0 (by rw [hx, hy]; decide)
  · (try simp only [au_std] at hc0)
    refine VC.skip ?_
    refine VC.drwAll tab_ok [] (by kernel_rfl) rfl ([(6, .iptr [I64 w, I64 h, .islc (encL cU px) px.length none] 0), (7, .iptr [.islc (encL cR clip) clip.length none] 0), (8, .iptr [.islc (encL cR what) what.length none] 0), (10, .iptr [I64 x] 0), (11, .iptr [I64 y] 0), (12, .ptr 0 0), (13, .iptr [plT 1 w h px] 0), (14, .iptr [plP tw th tpx] 0)]) ([.c [I64 0, I64 0, NIL], .c (encL cU px)]) [] rfl ?_ ?_
    · refine AnyV.more [0, 2, 4, 5] (by kernel_rfl) (by simp) ?_
      refine allI_cons ?_ ?_
      · refine anyV_op rfl ?_
        first | refine VX.meek rfl ?_ | refine VX.loadI rfl rfl au_l ?_ | refine VX.loadP rfl rfl rfl au_l ?_
        refine VX.nil ?_
        refine AnyV.more [1, 2, 4, 5] (by kernel_rfl) (by simp) ?_
        refine allI_cons ?_ ?_
        · refine anyV_op rfl ?_
          refine VX.callT rfl rfl (CallT.frame (planeOf_t w h px hw hh hl hpb) [] rfl au_ci au_ci ?_)
          rintro _ _ ⟨rfl, rfl⟩
          refine frK au_co au_co ?_
          refine VX.nil ?_
          refine AnyV.more [2, 4, 5] (by kernel_rfl) (by simp) ?_
          refine allI_cons ?_ ?_
          · refine anyV_op rfl ?_
            first | refine VX.meek rfl ?_ | refine VX.loadI rfl rfl au_l ?_ | refine VX.loadP rfl rfl rfl au_l ?_
            refine VX.nil ?_
            refine AnyV.more [3, 4, 5] (by kernel_rfl) (by simp) ?_
            refine allI_cons ?_ ?_
            · refine anyV_op rfl ?_
              refine VX.callP0 rfl rfl rfl (planeOf_p tw th tpx htw2 hth2 htl htb) ?_
              refine VX.nil ?_
              refine AnyV.more [4, 5] (by kernel_rfl) (by simp) ?_
              refine allI_cons ?_ ?_
              · refine anyV_op rfl ?_
                refine VX.new rfl rfl ?_
                refine VX.nil ?_
                refine AnyV.more [5] (by kernel_rfl) (by simp) ?_
                refine allI_cons ?_ ?_
                · refine anyV_op rfl ?_
                  refine VX.new rfl rfl ?_
                  refine VX.nil ?_
                  refine AnyV.more [6] (by kernel_rfl) (by simp) ?_
                  refine allI_cons ?_ ?_
                  · refine anyV_op rfl ?_
                    refine VX.store rfl rfl rfl rfl rfl au_sR rfl ?_
                    refine VX.nil ?_
                    refine AnyV.more [7] (by kernel_rfl) (by simp) ?_
                    refine allI_cons ?_ ?_
                    · refine anyV_op rfl ?_
                      refine VX.store rfl rfl rfl rfl rfl au_sR rfl ?_
                      refine VX.nil ?_
                      exact AnyV.fin (by kernel_rfl) (tile_leaf 2 3 1 trivial rfl rfl rfl rfl rfl rfl rfl rfl rfl rfl rfl rfl rfl)
                    exact trivial
                  exact trivial
                exact trivial
              refine allI_cons ?_ ?_
              · refine anyV_op rfl ?_
                refine VX.new rfl rfl ?_
                refine VX.nil ?_
                refine AnyV.more [4] (by kernel_rfl) (by simp) ?_
                refine allI_cons ?_ ?_
                · refine anyV_op rfl ?_
                  refine VX.new rfl rfl ?_
                  refine VX.nil ?_
                  refine AnyV.more [6] (by kernel_rfl) (by simp) ?_
                  refine allI_cons ?_ ?_
                  · refine anyV_op rfl ?_
                    refine VX.store rfl rfl rfl rfl rfl au_sR rfl ?_
                    refine VX.nil ?_
                    refine AnyV.more [7] (by kernel_rfl) (by simp) ?_
                    refine allI_cons ?_ ?_
                    · refine anyV_op rfl ?_
                      refine VX.store rfl rfl rfl rfl rfl au_sR rfl ?_
                      refine VX.nil ?_
                      exact AnyV.fin (by kernel_rfl) (tile_leaf 3 2 1 trivial rfl rfl rfl rfl rfl rfl rfl rfl rfl rfl rfl rfl rfl)
                    exact trivial
                  exact trivial
                exact trivial
              exact trivial
            refine allI_cons ?_ ?_
            · refine anyV_op rfl ?_
              refine VX.new rfl rfl ?_
              refine VX.nil ?_
              refine AnyV.more [3, 5] (by kernel_rfl) (by simp) ?_
              refine allI_cons ?_ ?_
              · refine anyV_op rfl ?_
                refine VX.callP0 rfl rfl rfl (planeOf_p tw th tpx htw2 hth2 htl htb) ?_
                refine VX.nil ?_
                refine AnyV.more [5] (by kernel_rfl) (by simp) ?_
                refine allI_cons ?_ ?_
                · refine anyV_op rfl ?_
                  refine VX.new rfl rfl ?_
                  refine VX.nil ?_
                  refine AnyV.more [6] (by kernel_rfl) (by simp) ?_
                  refine allI_cons ?_ ?_
                  · refine anyV_op rfl ?_
                    refine VX.store rfl rfl rfl rfl rfl au_sR rfl ?_
                    refine VX.nil ?_
                    refine AnyV.more [7] (by kernel_rfl) (by simp) ?_
                    refine allI_cons ?_ ?_
                    · refine anyV_op rfl ?_
                      refine VX.store rfl rfl rfl rfl rfl au_sR rfl ?_
                      refine VX.nil ?_
                      exact AnyV.fin (by kernel_rfl) (tile_leaf 2 3 1 trivial rfl rfl rfl rfl rfl rfl rfl rfl rfl rfl rfl rfl rfl)
                    exact trivial
                  exact trivial
                exact trivial
              refine allI_cons ?_ ?_
              · refine anyV_op rfl ?_
                refine VX.new rfl rfl ?_
                refine VX.nil ?_
                refine AnyV.more [3] (by kernel_rfl) (by simp) ?_
                refine allI_cons ?_ ?_
                · refine anyV_op rfl ?_
                  refine VX.callP0 rfl rfl rfl (planeOf_p tw th tpx htw2 hth2 htl htb) ?_
                  refine VX.nil ?_
                  refine AnyV.more [6] (by kernel_rfl) (by simp) ?_
                  refine allI_cons ?_ ?_
                  · refine anyV_op rfl ?_
                    refine VX.store rfl rfl rfl rfl rfl au_sR rfl ?_
                    refine VX.nil ?_
                    refine AnyV.more [7] (by kernel_rfl) (by simp) ?_
                    refine allI_cons ?_ ?_
                    · refine anyV_op rfl ?_
                      refine VX.store rfl rfl rfl rfl rfl au_sR rfl ?_
                      refine VX.nil ?_
                      exact AnyV.fin (by kernel_rfl) (tile_leaf 2 3 1 trivial rfl rfl rfl rfl rfl rfl rfl rfl rfl rfl rfl rfl rfl)
                    exact trivial
                  exact trivial
                exact trivial
              exact trivial
            refine allI_cons ?_ ?_
            · refine anyV_op rfl ?_
              refine VX.new rfl rfl ?_
              refine VX.nil ?_
              refine AnyV.more [3, 4] (by kernel_rfl) (by simp) ?_
              refine allI_cons ?_ ?_
              · refine anyV_op rfl ?_
                refine VX.callP0 rfl rfl rfl (planeOf_p tw th tpx htw2 hth2 htl htb) ?_
                refine VX.nil ?_
                refine AnyV.more [4] (by kernel_rfl) (by simp) ?_
                refine allI_cons ?_ ?_
                · refine anyV_op rfl ?_
                  refine VX.new rfl rfl ?_
                  refine VX.nil ?_
                  refine AnyV.more [6] (by kernel_rfl) (by simp) ?_
                  refine allI_cons ?_ ?_
                  · refine anyV_op rfl ?_
                    refine VX.store rfl rfl rfl rfl rfl au_sR rfl ?_
                    refine VX.nil ?_
                    refine AnyV.more [7] (by kernel_rfl) (by simp) ?_
                    refine allI_cons ?_ ?_
                    · refine anyV_op rfl ?_
                      refine VX.store rfl rfl rfl rfl rfl au_sR rfl ?_
                      refine VX.nil ?_
                      exact AnyV.fin (by kernel_rfl) (tile_leaf 3 2 1 trivial rfl rfl rfl rfl rfl rfl rfl rfl rfl rfl rfl rfl rfl)
                    exact trivial
                  exact trivial
                exact trivial
              refine allI_cons ?_ ?_
              · refine anyV_op rfl ?_
                refine VX.new rfl rfl ?_
                refine VX.nil ?_
                refine AnyV.more [3] (by kernel_rfl) (by simp) ?_
                refine allI_cons ?_ ?_
                · refine anyV_op rfl ?_
                  refine VX.callP0 rfl rfl rfl (planeOf_p tw th tpx htw2 hth2 htl htb) ?_
                  refine VX.nil ?_
                  refine AnyV.more [6] (by kernel_rfl) (by simp) ?_
                  refine allI_cons ?_ ?_
                  · refine anyV_op rfl ?_
                    refine VX.store rfl rfl rfl rfl rfl au_sR rfl ?_
                    refine VX.nil ?_
                    refine AnyV.more [7] (by kernel_rfl) (by simp) ?_
                    refine allI_cons ?_ ?_
                    · refine anyV_op rfl ?_
                      refine VX.store rfl rfl rfl rfl rfl au_sR rfl ?_
                      refine VX.nil ?_
                      exact AnyV.fin (by kernel_rfl) (tile_leaf 3 2 1 trivial rfl rfl rfl rfl rfl rfl rfl rfl rfl rfl rfl rfl rfl)
                    exact trivial
                  exact trivial
                exact trivial
              exact trivial
            exact trivial
          refine allI_cons ?_ ?_
          · refine anyV_op rfl ?_
            refine VX.new rfl rfl ?_
            refine VX.nil ?_
            refine AnyV.more [2, 5] (by kernel_rfl) (by simp) ?_
            refine allI_cons ?_ ?_
            · refine anyV_op rfl ?_
              first | refine VX.meek rfl ?_ | refine VX.loadI rfl rfl au_l ?_ | refine VX.loadP rfl rfl rfl au_l ?_
              refine VX.nil ?_
              refine AnyV.more [3, 5] (by kernel_rfl) (by simp) ?_
              refine allI_cons ?_ ?_
              · refine anyV_op rfl ?_
                refine VX.callP0 rfl rfl rfl (planeOf_p tw th tpx htw2 hth2 htl htb) ?_
                refine VX.nil ?_
                refine AnyV.more [5] (by kernel_rfl) (by simp) ?_
                refine allI_cons ?_ ?_
                · refine anyV_op rfl ?_
                  refine VX.new rfl rfl ?_
                  refine VX.nil ?_
                  refine AnyV.more [6] (by kernel_rfl) (by simp) ?_
                  refine allI_cons ?_ ?_
                  · refine anyV_op rfl ?_
                    refine VX.store rfl rfl rfl rfl rfl au_sR rfl ?_
                    refine VX.nil ?_
                    refine AnyV.more [7] (by kernel_rfl) (by simp) ?_
                    refine allI_cons ?_ ?_
                    · refine anyV_op rfl ?_
                      refine VX.store rfl rfl rfl rfl rfl au_sR rfl ?_
                      refine VX.nil ?_
                      exact AnyV.fin (by kernel_rfl) (tile_leaf 2 3 1 trivial rfl rfl rfl rfl rfl rfl rfl rfl rfl rfl rfl rfl rfl)
                    exact trivial
                  exact trivial
                exact trivial
              refine allI_cons ?_ ?_
              · refine anyV_op rfl ?_
                refine VX.new rfl rfl ?_
                refine VX.nil ?_
                refine AnyV.more [3] (by kernel_rfl) (by simp) ?_
                refine allI_cons ?_ ?_
                · refine anyV_op rfl ?_
                  refine VX.callP0 rfl rfl rfl (planeOf_p tw th tpx htw2 hth2 htl htb) ?_
                  refine VX.nil ?_
                  refine AnyV.more [6] (by kernel_rfl) (by simp) ?_
                  refine allI_cons ?_ ?_
                  · refine anyV_op rfl ?_
                    refine VX.store rfl rfl rfl rfl rfl au_sR rfl ?_
                    refine VX.nil ?_
                    refine AnyV.more [7] (by kernel_rfl) (by simp) ?_
                    refine allI_cons ?_ ?_
                    · refine anyV_op rfl ?_
                      refine VX.store rfl rfl rfl rfl rfl au_sR rfl ?_
                      refine VX.nil ?_
                      exact AnyV.fin (by kernel_rfl) (tile_leaf 2 3 1 trivial rfl rfl rfl rfl rfl rfl rfl rfl rfl rfl rfl rfl rfl)
                    exact trivial
                  exact trivial
                exact trivial
              exact trivial
            refine allI_cons ?_ ?_
            · refine anyV_op rfl ?_
              refine VX.new rfl rfl ?_
              refine VX.nil ?_
              refine AnyV.more [2] (by kernel_rfl) (by simp) ?_
              refine allI_cons ?_ ?_
              · refine anyV_op rfl ?_
                first | refine VX.meek rfl ?_ | refine VX.loadI rfl rfl au_l ?_ | refine VX.loadP rfl rfl rfl au_l ?_
                refine VX.nil ?_
                refine AnyV.more [3] (by kernel_rfl) (by simp) ?_
                refine allI_cons ?_ ?_
                · refine anyV_op rfl ?_
                  refine VX.callP0 rfl rfl rfl (planeOf_p tw th tpx htw2 hth2 htl htb) ?_
                  refine VX.nil ?_
                  refine AnyV.more [6] (by kernel_rfl) (by simp) ?_
                  refine allI_cons ?_ ?_
                  · refine anyV_op rfl ?_
                    refine VX.store rfl rfl rfl rfl rfl au_sR rfl ?_
                    refine VX.nil ?_
                    refine AnyV.more [7] (by kernel_rfl) (by simp) ?_
                    refine allI_cons ?_ ?_
                    · refine anyV_op rfl ?_
                      refine VX.store rfl rfl rfl rfl rfl au_sR rfl ?_
                      refine VX.nil ?_
                      exact AnyV.fin (by kernel_rfl) (tile_leaf 2 3 1 trivial rfl rfl rfl rfl rfl rfl rfl rfl rfl rfl rfl rfl rfl)
                    exact trivial
                  exact trivial
                exact trivial
              exact trivial
            exact trivial
          refine allI_cons ?_ ?_
          · refine anyV_op rfl ?_
            refine VX.new rfl rfl ?_
            refine VX.nil ?_
            refine AnyV.more [2, 4] (by kernel_rfl) (by simp) ?_
            refine allI_cons ?_ ?_
            · refine anyV_op rfl ?_
              first | refine VX.meek rfl ?_ | refine VX.loadI rfl rfl au_l ?_ | refine VX.loadP rfl rfl rfl au_l ?_
              refine VX.nil ?_
              refine AnyV.more [3, 4] (by kernel_rfl) (by simp) ?_
              refine allI_cons ?_ ?_
              · refine anyV_op rfl ?_
                refine VX.callP0 rfl rfl rfl (planeOf_p tw th tpx htw2 hth2 htl htb) ?_
                refine VX.nil ?_
                refine AnyV.more [4] (by kernel_rfl) (by simp) ?_
                refine allI_cons ?_ ?_
                · refine anyV_op rfl ?_
                  refine VX.new rfl rfl ?_
                  refine VX.nil ?_
                  refine AnyV.more [6] (by kernel_rfl) (by simp) ?_
                  refine allI_cons ?_ ?_
                  · refine anyV_op rfl ?_
                    refine VX.store rfl rfl rfl rfl rfl au_sR rfl ?_
                    refine VX.nil ?_
                    refine AnyV.more [7] (by kernel_rfl) (by simp) ?_
                    refine allI_cons ?_ ?_
                    · refine anyV_op rfl ?_
                      refine VX.store rfl rfl rfl rfl rfl au_sR rfl ?_
                      refine VX.nil ?_
                      exact AnyV.fin (by kernel_rfl) (tile_leaf 3 2 1 trivial rfl rfl rfl rfl rfl rfl rfl rfl rfl rfl rfl rfl rfl)
                    exact trivial
                  exact trivial
                exact trivial
              refine allI_cons ?_ ?_
              · refine anyV_op rfl ?_
                refine VX.new rfl rfl ?_
                refine VX.nil ?_
                refine AnyV.more [3] (by kernel_rfl) (by simp) ?_
                refine allI_cons ?_ ?_
                · refine anyV_op rfl ?_
                  refine VX.callP0 rfl rfl rfl (planeOf_p tw th tpx htw2 hth2 htl htb) ?_
                  refine VX.nil ?_
                  refine AnyV.more [6] (by kernel_rfl) (by simp) ?_
                  refine allI_cons ?_ ?_
                  · refine anyV_op rfl ?_
                    refine VX.store rfl rfl rfl rfl rfl au_sR rfl ?_
                    refine VX.nil ?_
                    refine AnyV.more [7] (by kernel_rfl) (by simp) ?_
                    refine allI_cons ?_ ?_
                    · refine anyV_op rfl ?_
                      refine VX.store rfl rfl rfl rfl rfl au_sR rfl ?_
                      refine VX.nil ?_
                      exact AnyV.fin (by kernel_rfl) (tile_leaf 3 2 1 trivial rfl rfl rfl rfl rfl rfl rfl rfl rfl rfl rfl rfl rfl)
                    exact trivial
                  exact trivial
                exact trivial
              exact trivial
            refine allI_cons ?_ ?_
            · refine anyV_op rfl ?_
              refine VX.new rfl rfl ?_
              refine VX.nil ?_
              refine AnyV.more [2] (by kernel_rfl) (by simp) ?_
              refine allI_cons ?_ ?_
              · refine anyV_op rfl ?_
                first | refine VX.meek rfl ?_ | refine VX.loadI rfl rfl au_l ?_ | refine VX.loadP rfl rfl rfl au_l ?_
                refine VX.nil ?_
                refine AnyV.more [3] (by kernel_rfl) (by simp) ?_
                refine allI_cons ?_ ?_
                · refine anyV_op rfl ?_
                  refine VX.callP0 rfl rfl rfl (planeOf_p tw th tpx htw2 hth2 htl htb) ?_
                  refine VX.nil ?_
                  refine AnyV.more [6] (by kernel_rfl) (by simp) ?_
                  refine allI_cons ?_ ?_
                  · refine anyV_op rfl ?_
                    refine VX.store rfl rfl rfl rfl rfl au_sR rfl ?_
                    refine VX.nil ?_
                    refine AnyV.more [7] (by kernel_rfl) (by simp) ?_
                    refine allI_cons ?_ ?_
                    · refine anyV_op rfl ?_
                      refine VX.store rfl rfl rfl rfl rfl au_sR rfl ?_
                      refine VX.nil ?_
                      exact AnyV.fin (by kernel_rfl) (tile_leaf 3 2 1 trivial rfl rfl rfl rfl rfl rfl rfl rfl rfl rfl rfl rfl rfl)
                    exact trivial
                  exact trivial
                exact trivial
              exact trivial
            exact trivial
          exact trivial
        refine allI_cons ?_ ?_
        · refine anyV_op rfl ?_
          first | refine VX.meek rfl ?_ | refine VX.loadI rfl rfl au_l ?_ | refine VX.loadP rfl rfl rfl au_l ?_
          refine VX.nil ?_
          refine AnyV.more [1, 4, 5] (by kernel_rfl) (by simp) ?_
          refine allI_cons ?_ ?_
          · refine anyV_op rfl ?_
            refine VX.callT rfl rfl (CallT.frame (planeOf_t w h px hw hh hl hpb) [] rfl au_ci au_ci ?_)
            rintro _ _ ⟨rfl, rfl⟩
            refine frK au_co au_co ?_
            refine VX.nil ?_
            refine AnyV.more [3, 4, 5] (by kernel_rfl) (by simp) ?_
            refine allI_cons ?_ ?_
            · refine anyV_op rfl ?_
              refine VX.callP0 rfl rfl rfl (planeOf_p tw th tpx htw2 hth2 htl htb) ?_
              refine VX.nil ?_
              refine AnyV.more [4, 5] (by kernel_rfl) (by simp) ?_
              refine allI_cons ?_ ?_
              · refine anyV_op rfl ?_
                refine VX.new rfl rfl ?_
                refine VX.nil ?_
                refine AnyV.more [5] (by kernel_rfl) (by simp) ?_
                refine allI_cons ?_ ?_
                · refine anyV_op rfl ?_
                  refine VX.new rfl rfl ?_
                  refine VX.nil ?_
                  refine AnyV.more [6] (by kernel_rfl) (by simp) ?_
                  refine allI_cons ?_ ?_
                  · refine anyV_op rfl ?_
                    refine VX.store rfl rfl rfl rfl rfl au_sR rfl ?_
                    refine VX.nil ?_
                    refine AnyV.more [7] (by kernel_rfl) (by simp) ?_
                    refine allI_cons ?_ ?_
                    · refine anyV_op rfl ?_
                      refine VX.store rfl rfl rfl rfl rfl au_sR rfl ?_
                      refine VX.nil ?_
                      exact AnyV.fin (by kernel_rfl) (tile_leaf 2 3 1 trivial rfl rfl rfl rfl rfl rfl rfl rfl rfl rfl rfl rfl rfl)
                    exact trivial
                  exact trivial
                exact trivial
              refine allI_cons ?_ ?_
              · refine anyV_op rfl ?_
                refine VX.new rfl rfl ?_
                refine VX.nil ?_
                refine AnyV.more [4] (by kernel_rfl) (by simp) ?_
                refine allI_cons ?_ ?_
                · refine anyV_op rfl ?_
                  refine VX.new rfl rfl ?_
                  refine VX.nil ?_
                  refine AnyV.more [6] (by kernel_rfl) (by simp) ?_
                  refine allI_cons ?_ ?_
                  · refine anyV_op rfl ?_
                    refine VX.store rfl rfl rfl rfl rfl au_sR rfl ?_
                    refine VX.nil ?_
                    refine AnyV.more [7] (by kernel_rfl) (by simp) ?_
                    refine allI_cons ?_ ?_
                    · refine anyV_op rfl ?_
                      refine VX.store rfl rfl rfl rfl rfl au_sR rfl ?_
                      refine VX.nil ?_
                      exact AnyV.fin (by kernel_rfl) (tile_leaf 3 2 1 trivial rfl rfl rfl rfl rfl rfl rfl rfl rfl rfl rfl rfl rfl)
                    exact trivial
                  exact trivial
                exact trivial
              exact trivial
            refine allI_cons ?_ ?_
            · refine anyV_op rfl ?_
              refine VX.new rfl rfl ?_
              refine VX.nil ?_
              refine AnyV.more [3, 5] (by kernel_rfl) (by simp) ?_
              refine allI_cons ?_ ?_
              · refine anyV_op rfl ?_
                refine VX.callP0 rfl rfl rfl (planeOf_p tw th tpx htw2 hth2 htl htb) ?_
                refine VX.nil ?_
                refine AnyV.more [5] (by kernel_rfl) (by simp) ?_
                refine allI_cons ?_ ?_
                · refine anyV_op rfl ?_
                  refine VX.new rfl rfl ?_
                  refine VX.nil ?_
                  refine AnyV.more [6] (by kernel_rfl) (by simp) ?_
                  refine allI_cons ?_ ?_
                  · refine anyV_op rfl ?_
                    refine VX.store rfl rfl rfl rfl rfl au_sR rfl ?_
                    refine VX.nil ?_
                    refine AnyV.more [7] (by kernel_rfl) (by simp) ?_
                    refine allI_cons ?_ ?_
                    · refine anyV_op rfl ?_
                      refine VX.store rfl rfl rfl rfl rfl au_sR rfl ?_
                      refine VX.nil ?_
                      exact AnyV.fin (by kernel_rfl) (tile_leaf 2 3 1 trivial rfl rfl rfl rfl rfl rfl rfl rfl rfl rfl rfl rfl rfl)
                    exact trivial
                  exact trivial
                exact trivial
              refine allI_cons ?_ ?_
              · refine anyV_op rfl ?_
                refine VX.new rfl rfl ?_
                refine VX.nil ?_
                refine AnyV.more [3] (by kernel_rfl) (by simp) ?_
                refine allI_cons ?_ ?_
                · refine anyV_op rfl ?_
                  refine VX.callP0 rfl rfl rfl (planeOf_p tw th tpx htw2 hth2 htl htb) ?_
                  refine VX.nil ?_
                  refine AnyV.more [6] (by kernel_rfl) (by simp) ?_
                  refine allI_cons ?_ ?_
                  · refine anyV_op rfl ?_
                    refine VX.store rfl rfl rfl rfl rfl au_sR rfl ?_
                    refine VX.nil ?_
                    refine AnyV.more [7] (by kernel_rfl) (by simp) ?_
                    refine allI_cons ?_ ?_
                    · refine anyV_op rfl ?_
                      refine VX.store rfl rfl rfl rfl rfl au_sR rfl ?_
                      refine VX.nil ?_
                      exact AnyV.fin (by kernel_rfl) (tile_leaf 2 3 1 trivial rfl rfl rfl rfl rfl rfl rfl rfl rfl rfl rfl rfl rfl)
                    exact trivial
                  exact trivial
                exact trivial
              exact trivial
            refine allI_cons ?_ ?_
            · refine anyV_op rfl ?_
              refine VX.new rfl rfl ?_
              refine VX.nil ?_
              refine AnyV.more [3, 4] (by kernel_rfl) (by simp) ?_
              refine allI_cons ?_ ?_
              · refine anyV_op rfl ?_
                refine VX.callP0 rfl rfl rfl (planeOf_p tw th tpx htw2 hth2 htl htb) ?_
                refine VX.nil ?_
                refine AnyV.more [4] (by kernel_rfl) (by simp) ?_
                refine allI_cons ?_ ?_
                · refine anyV_op rfl ?_
                  refine VX.new rfl rfl ?_
                  refine VX.nil ?_
                  refine AnyV.more [6] (by kernel_rfl) (by simp) ?_
                  refine allI_cons ?_ ?_
                  · refine anyV_op rfl ?_
                    refine VX.store rfl rfl rfl rfl rfl au_sR rfl ?_
                    refine VX.nil ?_
                    refine AnyV.more [7] (by kernel_rfl) (by simp) ?_
                    refine allI_cons ?_ ?_
                    · refine anyV_op rfl ?_
                      refine VX.store rfl rfl rfl rfl rfl au_sR rfl ?_
                      refine VX.nil ?_
                      exact AnyV.fin (by kernel_rfl) (tile_leaf 3 2 1 trivial rfl rfl rfl rfl rfl rfl rfl rfl rfl rfl rfl rfl rfl)
                    exact trivial
                  exact trivial
                exact trivial
              refine allI_cons ?_ ?_
              · refine anyV_op rfl ?_
                refine VX.new rfl rfl ?_
                refine VX.nil ?_
                refine AnyV.more [3] (by kernel_rfl) (by simp) ?_
                refine allI_cons ?_ ?_
                · refine anyV_op rfl ?_
                  refine VX.callP0 rfl rfl rfl (planeOf_p tw th tpx htw2 hth2 htl htb) ?_
                  refine VX.nil ?_
                  refine AnyV.more [6] (by kernel_rfl) (by simp) ?_
                  refine allI_cons ?_ ?_
                  · refine anyV_op rfl ?_
                    refine VX.store rfl rfl rfl rfl rfl au_sR rfl ?_
                    refine VX.nil ?_
                    refine AnyV.more [7] (by kernel_rfl) (by simp) ?_
                    refine allI_cons ?_ ?_
                    · refine anyV_op rfl ?_
                      refine VX.store rfl rfl rfl rfl rfl au_sR rfl ?_
                      refine VX.nil ?_
                      exact AnyV.fin (by kernel_rfl) (tile_leaf 3 2 1 trivial rfl rfl rfl rfl rfl rfl rfl rfl rfl rfl rfl rfl rfl)
                    exact trivial
                  exact trivial
                exact trivial
              exact trivial
            exact trivial
          refine allI_cons ?_ ?_
          · refine anyV_op rfl ?_
            refine VX.new rfl rfl ?_
            refine VX.nil ?_
            refine AnyV.more [1, 5] (by kernel_rfl) (by simp) ?_
            refine allI_cons ?_ ?_
            · refine anyV_op rfl ?_
              refine VX.callT rfl rfl (CallT.frame (planeOf_t w h px hw hh hl hpb) [] rfl au_ci au_ci ?_)
              rintro _ _ ⟨rfl, rfl⟩
              refine frK au_co au_co ?_
              refine VX.nil ?_
              refine AnyV.more [3, 5] (by kernel_rfl) (by simp) ?_
              refine allI_cons ?_ ?_
              · refine anyV_op rfl ?_
                refine VX.callP0 rfl rfl rfl (planeOf_p tw th tpx htw2 hth2 htl htb) ?_
                refine VX.nil ?_
                refine AnyV.more [5] (by kernel_rfl) (by simp) ?_
                refine allI_cons ?_ ?_
                · refine anyV_op rfl ?_
                  refine VX.new rfl rfl ?_
                  refine VX.nil ?_
                  refine AnyV.more [6] (by kernel_rfl) (by simp) ?_
                  refine allI_cons ?_ ?_
                  · refine anyV_op rfl ?_
                    refine VX.store rfl rfl rfl rfl rfl au_sR rfl ?_
                    refine VX.nil ?_
                    refine AnyV.more [7] (by kernel_rfl) (by simp) ?_
                    refine allI_cons ?_ ?_
                    · refine anyV_op rfl ?_
                      refine VX.store rfl rfl rfl rfl rfl au_sR rfl ?_
                      refine VX.nil ?_
                      exact AnyV.fin (by kernel_rfl) (tile_leaf 1 3 2 trivial rfl rfl rfl rfl rfl rfl rfl rfl rfl rfl rfl rfl rfl)
                    exact trivial
                  exact trivial
                exact trivial
              refine allI_cons ?_ ?_
              · refine anyV_op rfl ?_
                refine VX.new rfl rfl ?_
                refine VX.nil ?_
                refine AnyV.more [3] (by kernel_rfl) (by simp) ?_
                refine allI_cons ?_ ?_
                · refine anyV_op rfl ?_
                  refine VX.callP0 rfl rfl rfl (planeOf_p tw th tpx htw2 hth2 htl htb) ?_
                  refine VX.nil ?_
                  refine AnyV.more [6] (by kernel_rfl) (by simp) ?_
                  refine allI_cons ?_ ?_
                  · refine anyV_op rfl ?_
                    refine VX.store rfl rfl rfl rfl rfl au_sR rfl ?_
                    refine VX.nil ?_
                    refine AnyV.more [7] (by kernel_rfl) (by simp) ?_
                    refine allI_cons ?_ ?_
                    · refine anyV_op rfl ?_
                      refine VX.store rfl rfl rfl rfl rfl au_sR rfl ?_
                      refine VX.nil ?_
                      exact AnyV.fin (by kernel_rfl) (tile_leaf 1 3 2 trivial rfl rfl rfl rfl rfl rfl rfl rfl rfl rfl rfl rfl rfl)
                    exact trivial
                  exact trivial
                exact trivial
              exact trivial
            refine allI_cons ?_ ?_
            · refine anyV_op rfl ?_
              refine VX.new rfl rfl ?_
              refine VX.nil ?_
              refine AnyV.more [1] (by kernel_rfl) (by simp) ?_
              refine allI_cons ?_ ?_
              · refine anyV_op rfl ?_
                refine VX.callT rfl rfl (CallT.frame (planeOf_t w h px hw hh hl hpb) [] rfl au_ci au_ci ?_)
                rintro _ _ ⟨rfl, rfl⟩
                refine frK au_co au_co ?_
                refine VX.nil ?_
                refine AnyV.more [3] (by kernel_rfl) (by simp) ?_
                refine allI_cons ?_ ?_
                · refine anyV_op rfl ?_
                  refine VX.callP0 rfl rfl rfl (planeOf_p tw th tpx htw2 hth2 htl htb) ?_
                  refine VX.nil ?_
                  refine AnyV.more [6] (by kernel_rfl) (by simp) ?_
                  refine allI_cons ?_ ?_
                  · refine anyV_op rfl ?_
                    refine VX.store rfl rfl rfl rfl rfl au_sR rfl ?_
                    refine VX.nil ?_
                    refine AnyV.more [7] (by kernel_rfl) (by simp) ?_
                    refine allI_cons ?_ ?_
                    · refine anyV_op rfl ?_
                      refine VX.store rfl rfl rfl rfl rfl au_sR rfl ?_
                      refine VX.nil ?_
                      exact AnyV.fin (by kernel_rfl) (tile_leaf 1 2 3 trivial rfl rfl rfl rfl rfl rfl rfl rfl rfl rfl rfl rfl rfl)
                    exact trivial
                  exact trivial
                exact trivial
              exact trivial
            exact trivial
          refine allI_cons ?_ ?_
          · refine anyV_op rfl ?_
            refine VX.new rfl rfl ?_
            refine VX.nil ?_
            refine AnyV.more [1, 4] (by kernel_rfl) (by simp) ?_
            refine allI_cons ?_ ?_
            · refine anyV_op rfl ?_
              refine VX.callT rfl rfl (CallT.frame (planeOf_t w h px hw hh hl hpb) [] rfl au_ci au_ci ?_)
              rintro _ _ ⟨rfl, rfl⟩
              refine frK au_co au_co ?_
              refine VX.nil ?_
              refine AnyV.more [3, 4] (by kernel_rfl) (by simp) ?_
              refine allI_cons ?_ ?_
              · refine anyV_op rfl ?_
                refine VX.callP0 rfl rfl rfl (planeOf_p tw th tpx htw2 hth2 htl htb) ?_
                refine VX.nil ?_
                refine AnyV.more [4] (by kernel_rfl) (by simp) ?_
                refine allI_cons ?_ ?_
                · refine anyV_op rfl ?_
                  refine VX.new rfl rfl ?_
                  refine VX.nil ?_
                  refine AnyV.more [6] (by kernel_rfl) (by simp) ?_
                  refine allI_cons ?_ ?_
                  · refine anyV_op rfl ?_
                    refine VX.store rfl rfl rfl rfl rfl au_sR rfl ?_
                    refine VX.nil ?_
                    refine AnyV.more [7] (by kernel_rfl) (by simp) ?_
                    refine allI_cons ?_ ?_
                    · refine anyV_op rfl ?_
                      refine VX.store rfl rfl rfl rfl rfl au_sR rfl ?_
                      refine VX.nil ?_
                      exact AnyV.fin (by kernel_rfl) (tile_leaf 3 1 2 trivial rfl rfl rfl rfl rfl rfl rfl rfl rfl rfl rfl rfl rfl)
                    exact trivial
                  exact trivial
                exact trivial
              refine allI_cons ?_ ?_
              · refine anyV_op rfl ?_
                refine VX.new rfl rfl ?_
                refine VX.nil ?_
                refine AnyV.more [3] (by kernel_rfl) (by simp) ?_
                refine allI_cons ?_ ?_
                · refine anyV_op rfl ?_
                  refine VX.callP0 rfl rfl rfl (planeOf_p tw th tpx htw2 hth2 htl htb) ?_
                  refine VX.nil ?_
                  refine AnyV.more [6] (by kernel_rfl) (by simp) ?_
                  refine allI_cons ?_ ?_
                  · refine anyV_op rfl ?_
                    refine VX.store rfl rfl rfl rfl rfl au_sR rfl ?_
                    refine VX.nil ?_
                    refine AnyV.more [7] (by kernel_rfl) (by simp) ?_
                    refine allI_cons ?_ ?_
                    · refine anyV_op rfl ?_
                      refine VX.store rfl rfl rfl rfl rfl au_sR rfl ?_
                      refine VX.nil ?_
                      exact AnyV.fin (by kernel_rfl) (tile_leaf 3 1 2 trivial rfl rfl rfl rfl rfl rfl rfl rfl rfl rfl rfl rfl rfl)
                    exact trivial
                  exact trivial
                exact trivial
              exact trivial
            refine allI_cons ?_ ?_
            · refine anyV_op rfl ?_
              refine VX.new rfl rfl ?_
              refine VX.nil ?_
              refine AnyV.more [1] (by kernel_rfl) (by simp) ?_
              refine allI_cons ?_ ?_
              · refine anyV_op rfl ?_
                refine VX.callT rfl rfl (CallT.frame (planeOf_t w h px hw hh hl hpb) [] rfl au_ci au_ci ?_)
                rintro _ _ ⟨rfl, rfl⟩
                refine frK au_co au_co ?_
                refine VX.nil ?_
                refine AnyV.more [3] (by kernel_rfl) (by simp) ?_
                refine allI_cons ?_ ?_
                · refine anyV_op rfl ?_
                  refine VX.callP0 rfl rfl rfl (planeOf_p tw th tpx htw2 hth2 htl htb) ?_
                  refine VX.nil ?_
                  refine AnyV.more [6] (by kernel_rfl) (by simp) ?_
                  refine allI_cons ?_ ?_
                  · refine anyV_op rfl ?_
                    refine VX.store rfl rfl rfl rfl rfl au_sR rfl ?_
                    refine VX.nil ?_
                    refine AnyV.more [7] (by kernel_rfl) (by simp) ?_
                    refine allI_cons ?_ ?_
                    · refine anyV_op rfl ?_
                      refine VX.store rfl rfl rfl rfl rfl au_sR rfl ?_
                      refine VX.nil ?_
                      exact AnyV.fin (by kernel_rfl) (tile_leaf 2 1 3 trivial rfl rfl rfl rfl rfl rfl rfl rfl rfl rfl rfl rfl rfl)
                    exact trivial
                  exact trivial
                exact trivial
              exact trivial
            exact trivial
          exact trivial
        refine allI_cons ?_ ?_
        · refine anyV_op rfl ?_
          refine VX.new rfl rfl ?_
          refine VX.nil ?_
          refine AnyV.more [1, 2, 5] (by kernel_rfl) (by simp) ?_
          refine allI_cons ?_ ?_
          · refine anyV_op rfl ?_
            refine VX.callT rfl rfl (CallT.frame (planeOf_t w h px hw hh hl hpb) [] rfl au_ci au_ci ?_)
            rintro _ _ ⟨rfl, rfl⟩
            refine frK au_co au_co ?_
            refine VX.nil ?_
            refine AnyV.more [2, 5] (by kernel_rfl) (by simp) ?_
            refine allI_cons ?_ ?_
            · refine anyV_op rfl ?_
              first | refine VX.meek rfl ?_ | refine VX.loadI rfl rfl au_l ?_ | refine VX.loadP rfl rfl rfl au_l ?_
              refine VX.nil ?_
              refine AnyV.more [3, 5] (by kernel_rfl) (by simp) ?_
              refine allI_cons ?_ ?_
              · refine anyV_op rfl ?_
                refine VX.callP0 rfl rfl rfl (planeOf_p tw th tpx htw2 hth2 htl htb) ?_
                refine VX.nil ?_
                refine AnyV.more [5] (by kernel_rfl) (by simp) ?_
                refine allI_cons ?_ ?_
                · refine anyV_op rfl ?_
                  refine VX.new rfl rfl ?_
                  refine VX.nil ?_
                  refine AnyV.more [6] (by kernel_rfl) (by simp) ?_
                  refine allI_cons ?_ ?_
                  · refine anyV_op rfl ?_
                    refine VX.store rfl rfl rfl rfl rfl au_sR rfl ?_
                    refine VX.nil ?_
                    refine AnyV.more [7] (by kernel_rfl) (by simp) ?_
                    refine allI_cons ?_ ?_
                    · refine anyV_op rfl ?_
                      refine VX.store rfl rfl rfl rfl rfl au_sR rfl ?_
                      refine VX.nil ?_
                      exact AnyV.fin (by kernel_rfl) (tile_leaf 1 3 2 trivial rfl rfl rfl rfl rfl rfl rfl rfl rfl rfl rfl rfl rfl)
                    exact trivial
                  exact trivial
                exact trivial
              refine allI_cons ?_ ?_
              · refine anyV_op rfl ?_
                refine VX.new rfl rfl ?_
                refine VX.nil ?_
                refine AnyV.more [3] (by kernel_rfl) (by simp) ?_
                refine allI_cons ?_ ?_
                · refine anyV_op rfl ?_
                  refine VX.callP0 rfl rfl rfl (planeOf_p tw th tpx htw2 hth2 htl htb) ?_
                  refine VX.nil ?_
                  refine AnyV.more [6] (by kernel_rfl) (by simp) ?_
                  refine allI_cons ?_ ?_
                  · refine anyV_op rfl ?_
                    refine VX.store rfl rfl rfl rfl rfl au_sR rfl ?_
                    refine VX.nil ?_
                    refine AnyV.more [7] (by kernel_rfl) (by simp) ?_
                    refine allI_cons ?_ ?_
                    · refine anyV_op rfl ?_
                      refine VX.store rfl rfl rfl rfl rfl au_sR rfl ?_
                      refine VX.nil ?_
                      exact AnyV.fin (by kernel_rfl) (tile_leaf 1 3 2 trivial rfl rfl rfl rfl rfl rfl rfl rfl rfl rfl rfl rfl rfl)
                    exact trivial
                  exact trivial
                exact trivial
              exact trivial
            refine allI_cons ?_ ?_
            · refine anyV_op rfl ?_
              refine VX.new rfl rfl ?_
              refine VX.nil ?_
              refine AnyV.more [2] (by kernel_rfl) (by simp) ?_
              refine allI_cons ?_ ?_
              · refine anyV_op rfl ?_
                first | refine VX.meek rfl ?_ | refine VX.loadI rfl rfl au_l ?_ | refine VX.loadP rfl rfl rfl au_l ?_
                refine VX.nil ?_
                refine AnyV.more [3] (by kernel_rfl) (by simp) ?_
                refine allI_cons ?_ ?_
                · refine anyV_op rfl ?_
                  refine VX.callP0 rfl rfl rfl (planeOf_p tw th tpx htw2 hth2 htl htb) ?_
                  refine VX.nil ?_
                  refine AnyV.more [6] (by kernel_rfl) (by simp) ?_
                  refine allI_cons ?_ ?_
                  · refine anyV_op rfl ?_
                    refine VX.store rfl rfl rfl rfl rfl au_sR rfl ?_
                    refine VX.nil ?_
                    refine AnyV.more [7] (by kernel_rfl) (by simp) ?_
                    refine allI_cons ?_ ?_
                    · refine anyV_op rfl ?_
                      refine VX.store rfl rfl rfl rfl rfl au_sR rfl ?_
                      refine VX.nil ?_
                      exact AnyV.fin (by kernel_rfl) (tile_leaf 1 3 2 trivial rfl rfl rfl rfl rfl rfl rfl rfl rfl rfl rfl rfl rfl)
                    exact trivial
                  exact trivial
                exact trivial
              exact trivial
            exact trivial
          refine allI_cons ?_ ?_
          · refine anyV_op rfl ?_
            first | refine VX.meek rfl ?_ | refine VX.loadI rfl rfl au_l ?_ | refine VX.loadP rfl rfl rfl au_l ?_
            refine VX.nil ?_
            refine AnyV.more [1, 5] (by kernel_rfl) (by simp) ?_
            refine allI_cons ?_ ?_
            · refine anyV_op rfl ?_
              refine VX.callT rfl rfl (CallT.frame (planeOf_t w h px hw hh hl hpb) [] rfl au_ci au_ci ?_)
              rintro _ _ ⟨rfl, rfl⟩
              refine frK au_co au_co ?_
              refine VX.nil ?_
              refine AnyV.more [3, 5] (by kernel_rfl) (by simp) ?_
              refine allI_cons ?_ ?_
              · refine anyV_op rfl ?_
                refine VX.callP0 rfl rfl rfl (planeOf_p tw th tpx htw2 hth2 htl htb) ?_
                refine VX.nil ?_
                refine AnyV.more [5] (by kernel_rfl) (by simp) ?_
                refine allI_cons ?_ ?_
                · refine anyV_op rfl ?_
                  refine VX.new rfl rfl ?_
                  refine VX.nil ?_
                  refine AnyV.more [6] (by kernel_rfl) (by simp) ?_
                  refine allI_cons ?_ ?_
                  · refine anyV_op rfl ?_
                    refine VX.store rfl rfl rfl rfl rfl au_sR rfl ?_
                    refine VX.nil ?_
                    refine AnyV.more [7] (by kernel_rfl) (by simp) ?_
                    refine allI_cons ?_ ?_
                    · refine anyV_op rfl ?_
                      refine VX.store rfl rfl rfl rfl rfl au_sR rfl ?_
                      refine VX.nil ?_
                      exact AnyV.fin (by kernel_rfl) (tile_leaf 1 3 2 trivial rfl rfl rfl rfl rfl rfl rfl rfl rfl rfl rfl rfl rfl)
                    exact trivial
                  exact trivial
                exact trivial
              refine allI_cons ?_ ?_
              · refine anyV_op rfl ?_
                refine VX.new rfl rfl ?_
                refine VX.nil ?_
                refine AnyV.more [3] (by kernel_rfl) (by simp) ?_
                refine allI_cons ?_ ?_
                · refine anyV_op rfl ?_
                  refine VX.callP0 rfl rfl rfl (planeOf_p tw th tpx htw2 hth2 htl htb) ?_
                  refine VX.nil ?_
                  refine AnyV.more [6] (by kernel_rfl) (by simp) ?_
                  refine allI_cons ?_ ?_
                  · refine anyV_op rfl ?_
                    refine VX.store rfl rfl rfl rfl rfl au_sR rfl ?_
                    refine VX.nil ?_
                    refine AnyV.more [7] (by kernel_rfl) (by simp) ?_
                    refine allI_cons ?_ ?_
                    · refine anyV_op rfl ?_
                      refine VX.store rfl rfl rfl rfl rfl au_sR rfl ?_
                      refine VX.nil ?_
                      exact AnyV.fin (by kernel_rfl) (tile_leaf 1 3 2 trivial rfl rfl rfl rfl rfl rfl rfl rfl rfl rfl rfl rfl rfl)
                    exact trivial
                  exact trivial
                exact trivial
              exact trivial
            refine allI_cons ?_ ?_
            · refine anyV_op rfl ?_
              refine VX.new rfl rfl ?_
              refine VX.nil ?_
              refine AnyV.more [1] (by kernel_rfl) (by simp) ?_
              refine allI_cons ?_ ?_
              · refine anyV_op rfl ?_
                refine VX.callT rfl rfl (CallT.frame (planeOf_t w h px hw hh hl hpb) [] rfl au_ci au_ci ?_)
                rintro _ _ ⟨rfl, rfl⟩
                refine frK au_co au_co ?_
                refine VX.nil ?_
                refine AnyV.more [3] (by kernel_rfl) (by simp) ?_
                refine allI_cons ?_ ?_
                · refine anyV_op rfl ?_
                  refine VX.callP0 rfl rfl rfl (planeOf_p tw th tpx htw2 hth2 htl htb) ?_
                  refine VX.nil ?_
                  refine AnyV.more [6] (by kernel_rfl) (by simp) ?_
                  refine allI_cons ?_ ?_
                  · refine anyV_op rfl ?_
                    refine VX.store rfl rfl rfl rfl rfl au_sR rfl ?_
                    refine VX.nil ?_
                    refine AnyV.more [7] (by kernel_rfl) (by simp) ?_
                    refine allI_cons ?_ ?_
                    · refine anyV_op rfl ?_
                      refine VX.store rfl rfl rfl rfl rfl au_sR rfl ?_
                      refine VX.nil ?_
                      exact AnyV.fin (by kernel_rfl) (tile_leaf 1 2 3 trivial rfl rfl rfl rfl rfl rfl rfl rfl rfl rfl rfl rfl rfl)
                    exact trivial
                  exact trivial
                exact trivial
              exact trivial
            exact trivial
          refine allI_cons ?_ ?_
          · refine anyV_op rfl ?_
            refine VX.new rfl rfl ?_
            refine VX.nil ?_
            refine AnyV.more [1, 2] (by kernel_rfl) (by simp) ?_
            refine allI_cons ?_ ?_
            · refine anyV_op rfl ?_
              refine VX.callT rfl rfl (CallT.frame (planeOf_t w h px hw hh hl hpb) [] rfl au_ci au_ci ?_)
              rintro _ _ ⟨rfl, rfl⟩
              refine frK au_co au_co ?_
              refine VX.nil ?_
              refine AnyV.more [2] (by kernel_rfl) (by simp) ?_
              refine allI_cons ?_ ?_
              · refine anyV_op rfl ?_
                first | refine VX.meek rfl ?_ | refine VX.loadI rfl rfl au_l ?_ | refine VX.loadP rfl rfl rfl au_l ?_
                refine VX.nil ?_
                refine AnyV.more [3] (by kernel_rfl) (by simp) ?_
                refine allI_cons ?_ ?_
                · refine anyV_op rfl ?_
                  refine VX.callP0 rfl rfl rfl (planeOf_p tw th tpx htw2 hth2 htl htb) ?_
                  refine VX.nil ?_
                  refine AnyV.more [6] (by kernel_rfl) (by simp) ?_
                  refine allI_cons ?_ ?_
                  · refine anyV_op rfl ?_
                    refine VX.store rfl rfl rfl rfl rfl au_sR rfl ?_
                    refine VX.nil ?_
                    refine AnyV.more [7] (by kernel_rfl) (by simp) ?_
                    refine allI_cons ?_ ?_
                    · refine anyV_op rfl ?_
                      refine VX.store rfl rfl rfl rfl rfl au_sR rfl ?_
                      refine VX.nil ?_
                      exact AnyV.fin (by kernel_rfl) (tile_leaf 1 2 3 trivial rfl rfl rfl rfl rfl rfl rfl rfl rfl rfl rfl rfl rfl)
                    exact trivial
                  exact trivial
                exact trivial
              exact trivial
            refine allI_cons ?_ ?_
            · refine anyV_op rfl ?_
              first | refine VX.meek rfl ?_ | refine VX.loadI rfl rfl au_l ?_ | refine VX.loadP rfl rfl rfl au_l ?_
              refine VX.nil ?_
              refine AnyV.more [1] (by kernel_rfl) (by simp) ?_
              refine allI_cons ?_ ?_
              · refine anyV_op rfl ?_
                refine VX.callT rfl rfl (CallT.frame (planeOf_t w h px hw hh hl hpb) [] rfl au_ci au_ci ?_)
                rintro _ _ ⟨rfl, rfl⟩
                refine frK au_co au_co ?_
                refine VX.nil ?_
                refine AnyV.more [3] (by kernel_rfl) (by simp) ?_
                refine allI_cons ?_ ?_
                · refine anyV_op rfl ?_
                  refine VX.callP0 rfl rfl rfl (planeOf_p tw th tpx htw2 hth2 htl htb) ?_
                  refine VX.nil ?_
                  refine AnyV.more [6] (by kernel_rfl) (by simp) ?_
                  refine allI_cons ?_ ?_
                  · refine anyV_op rfl ?_
                    refine VX.store rfl rfl rfl rfl rfl au_sR rfl ?_
                    refine VX.nil ?_
                    refine AnyV.more [7] (by kernel_rfl) (by simp) ?_
                    refine allI_cons ?_ ?_
                    · refine anyV_op rfl ?_
                      refine VX.store rfl rfl rfl rfl rfl au_sR rfl ?_
                      refine VX.nil ?_
                      exact AnyV.fin (by kernel_rfl) (tile_leaf 1 2 3 trivial rfl rfl rfl rfl rfl rfl rfl rfl rfl rfl rfl rfl rfl)
                    exact trivial
                  exact trivial
                exact trivial
              exact trivial
            exact trivial
          exact trivial
        refine allI_cons ?_ ?_
        · refine anyV_op rfl ?_
          refine VX.new rfl rfl ?_
          refine VX.nil ?_
          refine AnyV.more [1, 2, 4] (by kernel_rfl) (by simp) ?_
          refine allI_cons ?_ ?_
          · refine anyV_op rfl ?_
            refine VX.callT rfl rfl (CallT.frame (planeOf_t w h px hw hh hl hpb) [] rfl au_ci au_ci ?_)
            rintro _ _ ⟨rfl, rfl⟩
            refine frK au_co au_co ?_
            refine VX.nil ?_
            refine AnyV.more [2, 4] (by kernel_rfl) (by simp) ?_
            refine allI_cons ?_ ?_
            · refine anyV_op rfl ?_
              first | refine VX.meek rfl ?_ | refine VX.loadI rfl rfl au_l ?_ | refine VX.loadP rfl rfl rfl au_l ?_
              refine VX.nil ?_
              refine AnyV.more [3, 4] (by kernel_rfl) (by simp) ?_
              refine allI_cons ?_ ?_
              · refine anyV_op rfl ?_
                refine VX.callP0 rfl rfl rfl (planeOf_p tw th tpx htw2 hth2 htl htb) ?_
                refine VX.nil ?_
                refine AnyV.more [4] (by kernel_rfl) (by simp) ?_
                refine allI_cons ?_ ?_
                · refine anyV_op rfl ?_
                  refine VX.new rfl rfl ?_
                  refine VX.nil ?_
                  refine AnyV.more [6] (by kernel_rfl) (by simp) ?_
                  refine allI_cons ?_ ?_
                  · refine anyV_op rfl ?_
                    refine VX.store rfl rfl rfl rfl rfl au_sR rfl ?_
                    refine VX.nil ?_
                    refine AnyV.more [7] (by kernel_rfl) (by simp) ?_
                    refine allI_cons ?_ ?_
                    · refine anyV_op rfl ?_
                      refine VX.store rfl rfl rfl rfl rfl au_sR rfl ?_
                      refine VX.nil ?_
                      exact AnyV.fin (by kernel_rfl) (tile_leaf 3 1 2 trivial rfl rfl rfl rfl rfl rfl rfl rfl rfl rfl rfl rfl rfl)
                    exact trivial
                  exact trivial
                exact trivial
              refine allI_cons ?_ ?_
              · refine anyV_op rfl ?_
                refine VX.new rfl rfl ?_
                refine VX.nil ?_
                refine AnyV.more [3] (by kernel_rfl) (by simp) ?_
                refine allI_cons ?_ ?_
                · refine anyV_op rfl ?_
                  refine VX.callP0 rfl rfl rfl (planeOf_p tw th tpx htw2 hth2 htl htb) ?_
                  refine VX.nil ?_
                  refine AnyV.more [6] (by kernel_rfl) (by simp) ?_
                  refine allI_cons ?_ ?_
                  · refine anyV_op rfl ?_
                    refine VX.store rfl rfl rfl rfl rfl au_sR rfl ?_
                    refine VX.nil ?_
                    refine AnyV.more [7] (by kernel_rfl) (by simp) ?_
                    refine allI_cons ?_ ?_
                    · refine anyV_op rfl ?_
                      refine VX.store rfl rfl rfl rfl rfl au_sR rfl ?_
                      refine VX.nil ?_
                      exact AnyV.fin (by kernel_rfl) (tile_leaf 3 1 2 trivial rfl rfl rfl rfl rfl rfl rfl rfl rfl rfl rfl rfl rfl)
                    exact trivial
                  exact trivial
                exact trivial
              exact trivial
            refine allI_cons ?_ ?_
            · refine anyV_op rfl ?_
              refine VX.new rfl rfl ?_
              refine VX.nil ?_
              refine AnyV.more [2] (by kernel_rfl) (by simp) ?_
              refine allI_cons ?_ ?_
              · refine anyV_op rfl ?_
                first | refine VX.meek rfl ?_ | refine VX.loadI rfl rfl au_l ?_ | refine VX.loadP rfl rfl rfl au_l ?_
                refine VX.nil ?_
                refine AnyV.more [3] (by kernel_rfl) (by simp) ?_
                refine allI_cons ?_ ?_
                · refine anyV_op rfl ?_
                  refine VX.callP0 rfl rfl rfl (planeOf_p tw th tpx htw2 hth2 htl htb) ?_
                  refine VX.nil ?_
                  refine AnyV.more [6] (by kernel_rfl) (by simp) ?_
                  refine allI_cons ?_ ?_
                  · refine anyV_op rfl ?_
                    refine VX.store rfl rfl rfl rfl rfl au_sR rfl ?_
                    refine VX.nil ?_
                    refine AnyV.more [7] (by kernel_rfl) (by simp) ?_
                    refine allI_cons ?_ ?_
                    · refine anyV_op rfl ?_
                      refine VX.store rfl rfl rfl rfl rfl au_sR rfl ?_
                      refine VX.nil ?_
                      exact AnyV.fin (by kernel_rfl) (tile_leaf 3 1 2 trivial rfl rfl rfl rfl rfl rfl rfl rfl rfl rfl rfl rfl rfl)
                    exact trivial
                  exact trivial
                exact trivial
              exact trivial
            exact trivial
          refine allI_cons ?_ ?_
          · refine anyV_op rfl ?_
            first | refine VX.meek rfl ?_ | refine VX.loadI rfl rfl au_l ?_ | refine VX.loadP rfl rfl rfl au_l ?_
            refine VX.nil ?_
            refine AnyV.more [1, 4] (by kernel_rfl) (by simp) ?_
            refine allI_cons ?_ ?_
            · refine anyV_op rfl ?_
              refine VX.callT rfl rfl (CallT.frame (planeOf_t w h px hw hh hl hpb) [] rfl au_ci au_ci ?_)
              rintro _ _ ⟨rfl, rfl⟩
              refine frK au_co au_co ?_
              refine VX.nil ?_
              refine AnyV.more [3, 4] (by kernel_rfl) (by simp) ?_
              refine allI_cons ?_ ?_
              · refine anyV_op rfl ?_
                refine VX.callP0 rfl rfl rfl (planeOf_p tw th tpx htw2 hth2 htl htb) ?_
                refine VX.nil ?_
                refine AnyV.more [4] (by kernel_rfl) (by simp) ?_
                refine allI_cons ?_ ?_
                · refine anyV_op rfl ?_
                  refine VX.new rfl rfl ?_
                  refine VX.nil ?_
                  refine AnyV.more [6] (by kernel_rfl) (by simp) ?_
                  refine allI_cons ?_ ?_
                  · refine anyV_op rfl ?_
                    refine VX.store rfl rfl rfl rfl rfl au_sR rfl ?_
                    refine VX.nil ?_
                    refine AnyV.more [7] (by kernel_rfl) (by simp) ?_
                    refine allI_cons ?_ ?_
                    · refine anyV_op rfl ?_
                      refine VX.store rfl rfl rfl rfl rfl au_sR rfl ?_
                      refine VX.nil ?_
                      exact AnyV.fin (by kernel_rfl) (tile_leaf 3 1 2 trivial rfl rfl rfl rfl rfl rfl rfl rfl rfl rfl rfl rfl rfl)
                    exact trivial
                  exact trivial
                exact trivial
              refine allI_cons ?_ ?_
              · refine anyV_op rfl ?_
                refine VX.new rfl rfl ?_
                refine VX.nil ?_
                refine AnyV.more [3] (by kernel_rfl) (by simp) ?_
                refine allI_cons ?_ ?_
                · refine anyV_op rfl ?_
                  refine VX.callP0 rfl rfl rfl (planeOf_p tw th tpx htw2 hth2 htl htb) ?_
                  refine VX.nil ?_
                  refine AnyV.more [6] (by kernel_rfl) (by simp) ?_
                  refine allI_cons ?_ ?_
                  · refine anyV_op rfl ?_
                    refine VX.store rfl rfl rfl rfl rfl au_sR rfl ?_
                    refine VX.nil ?_
                    refine AnyV.more [7] (by kernel_rfl) (by simp) ?_
                    refine allI_cons ?_ ?_
                    · refine anyV_op rfl ?_
                      refine VX.store rfl rfl rfl rfl rfl au_sR rfl ?_
                      refine VX.nil ?_
                      exact AnyV.fin (by kernel_rfl) (tile_leaf 3 1 2 trivial rfl rfl rfl rfl rfl rfl rfl rfl rfl rfl rfl rfl rfl)
                    exact trivial
                  exact trivial
                exact trivial
              exact trivial
            refine allI_cons ?_ ?_
            · refine anyV_op rfl ?_
              refine VX.new rfl rfl ?_
              refine VX.nil ?_
              refine AnyV.more [1] (by kernel_rfl) (by simp) ?_
              refine allI_cons ?_ ?_
              · refine anyV_op rfl ?_
                refine VX.callT rfl rfl (CallT.frame (planeOf_t w h px hw hh hl hpb) [] rfl au_ci au_ci ?_)
                rintro _ _ ⟨rfl, rfl⟩
                refine frK au_co au_co ?_
                refine VX.nil ?_
                refine AnyV.more [3] (by kernel_rfl) (by simp) ?_
                refine allI_cons ?_ ?_
                · refine anyV_op rfl ?_
                  refine VX.callP0 rfl rfl rfl (planeOf_p tw th tpx htw2 hth2 htl htb) ?_
                  refine VX.nil ?_
                  refine AnyV.more [6] (by kernel_rfl) (by simp) ?_
                  refine allI_cons ?_ ?_
                  · refine anyV_op rfl ?_
                    refine VX.store rfl rfl rfl rfl rfl au_sR rfl ?_
                    refine VX.nil ?_
                    refine AnyV.more [7] (by kernel_rfl) (by simp) ?_
                    refine allI_cons ?_ ?_
                    · refine anyV_op rfl ?_
                      refine VX.store rfl rfl rfl rfl rfl au_sR rfl ?_
                      refine VX.nil ?_
                      exact AnyV.fin (by kernel_rfl) (tile_leaf 2 1 3 trivial rfl rfl rfl rfl rfl rfl rfl rfl rfl rfl rfl rfl rfl)
                    exact trivial
                  exact trivial
                exact trivial
              exact trivial
            exact trivial
          refine allI_cons ?_ ?_
          · refine anyV_op rfl ?_
            refine VX.new rfl rfl ?_
            refine VX.nil ?_
            refine AnyV.more [1, 2] (by kernel_rfl) (by simp) ?_
            refine allI_cons ?_ ?_
            · refine anyV_op rfl ?_
              refine VX.callT rfl rfl (CallT.frame (planeOf_t w h px hw hh hl hpb) [] rfl au_ci au_ci ?_)
              rintro _ _ ⟨rfl, rfl⟩
              refine frK au_co au_co ?_
              refine VX.nil ?_
              refine AnyV.more [2] (by kernel_rfl) (by simp) ?_
              refine allI_cons ?_ ?_
              · refine anyV_op rfl ?_
                first | refine VX.meek rfl ?_ | refine VX.loadI rfl rfl au_l ?_ | refine VX.loadP rfl rfl rfl au_l ?_
                refine VX.nil ?_
                refine AnyV.more [3] (by kernel_rfl) (by simp) ?_
                refine allI_cons ?_ ?_
                · refine anyV_op rfl ?_
                  refine VX.callP0 rfl rfl rfl (planeOf_p tw th tpx htw2 hth2 htl htb) ?_
                  refine VX.nil ?_
                  refine AnyV.more [6] (by kernel_rfl) (by simp) ?_
                  refine allI_cons ?_ ?_
                  · refine anyV_op rfl ?_
                    refine VX.store rfl rfl rfl rfl rfl au_sR rfl ?_
                    refine VX.nil ?_
                    refine AnyV.more [7] (by kernel_rfl) (by simp) ?_
                    refine allI_cons ?_ ?_
                    · refine anyV_op rfl ?_
                      refine VX.store rfl rfl rfl rfl rfl au_sR rfl ?_
                      refine VX.nil ?_
                      exact AnyV.fin (by kernel_rfl) (tile_leaf 2 1 3 trivial rfl rfl rfl rfl rfl rfl rfl rfl rfl rfl rfl rfl rfl)
                    exact trivial
                  exact trivial
                exact trivial
              exact trivial
            refine allI_cons ?_ ?_
            · refine anyV_op rfl ?_
              first | refine VX.meek rfl ?_ | refine VX.loadI rfl rfl au_l ?_ | refine VX.loadP rfl rfl rfl au_l ?_
              refine VX.nil ?_
              refine AnyV.more [1] (by kernel_rfl) (by simp) ?_
              refine allI_cons ?_ ?_
              · refine anyV_op rfl ?_
                refine VX.callT rfl rfl (CallT.frame (planeOf_t w h px hw hh hl hpb) [] rfl au_ci au_ci ?_)
                rintro _ _ ⟨rfl, rfl⟩
                refine frK au_co au_co ?_
                refine VX.nil ?_
                refine AnyV.more [3] (by kernel_rfl) (by simp) ?_
                refine allI_cons ?_ ?_
                · refine anyV_op rfl ?_
                  refine VX.callP0 rfl rfl rfl (planeOf_p tw th tpx htw2 hth2 htl htb) ?_
                  refine VX.nil ?_
                  refine AnyV.more [6] (by kernel_rfl) (by simp) ?_
                  refine allI_cons ?_ ?_
                  · refine anyV_op rfl ?_
                    refine VX.store rfl rfl rfl rfl rfl au_sR rfl ?_
                    refine VX.nil ?_
                    refine AnyV.more [7] (by kernel_rfl) (by simp) ?_
                    refine allI_cons ?_ ?_
                    · refine anyV_op rfl ?_
                      refine VX.store rfl rfl rfl rfl rfl au_sR rfl ?_
                      refine VX.nil ?_
                      exact AnyV.fin (by kernel_rfl) (tile_leaf 2 1 3 trivial rfl rfl rfl rfl rfl rfl rfl rfl rfl rfl rfl rfl rfl)
                    exact trivial
                  exact trivial
                exact trivial
              exact trivial
            exact trivial
          exact trivial
        exact trivial
      refine allI_cons ?_ ?_
      · refine anyV_op rfl ?_
        first | refine VX.meek rfl ?_ | refine VX.loadI rfl rfl au_l ?_ | refine VX.loadP rfl rfl rfl au_l ?_
        refine VX.nil ?_
        refine AnyV.more [0, 4, 5] (by kernel_rfl) (by simp) ?_
        refine allI_cons ?_ ?_
        · refine anyV_op rfl ?_
          first | refine VX.meek rfl ?_ | refine VX.loadI rfl rfl au_l ?_ | refine VX.loadP rfl rfl rfl au_l ?_
          refine VX.nil ?_
          refine AnyV.more [1, 4, 5] (by kernel_rfl) (by simp) ?_
          refine allI_cons ?_ ?_
          · refine anyV_op rfl ?_
            refine VX.callT rfl rfl (CallT.frame (planeOf_t w h px hw hh hl hpb) [] rfl au_ci au_ci ?_)
            rintro _ _ ⟨rfl, rfl⟩
            refine frK au_co au_co ?_
            refine VX.nil ?_
            refine AnyV.more [3, 4, 5] (by kernel_rfl) (by simp) ?_
            refine allI_cons ?_ ?_
            · refine anyV_op rfl ?_
              refine VX.callP0 rfl rfl rfl (planeOf_p tw th tpx htw2 hth2 htl htb) ?_
              refine VX.nil ?_
              refine AnyV.more [4, 5] (by kernel_rfl) (by simp) ?_
              refine allI_cons ?_ ?_
              · refine anyV_op rfl ?_
                refine VX.new rfl rfl ?_
                refine VX.nil ?_
                refine AnyV.more [5] (by kernel_rfl) (by simp) ?_
                refine allI_cons ?_ ?_
                · refine anyV_op rfl ?_
                  refine VX.new rfl rfl ?_
                  refine VX.nil ?_
                  refine AnyV.more [6] (by kernel_rfl) (by simp) ?_
                  refine allI_cons ?_ ?_
                  · refine anyV_op rfl ?_
                    refine VX.store rfl rfl rfl rfl rfl au_sR rfl ?_
                    refine VX.nil ?_
                    refine AnyV.more [7] (by kernel_rfl) (by simp) ?_
                    refine allI_cons ?_ ?_
                    · refine anyV_op rfl ?_
                      refine VX.store rfl rfl rfl rfl rfl au_sR rfl ?_
                      refine VX.nil ?_
                      exact AnyV.fin (by kernel_rfl) (tile_leaf 2 3 1 trivial rfl rfl rfl rfl rfl rfl rfl rfl rfl rfl rfl rfl rfl)
                    exact trivial
                  exact trivial
                exact trivial
              refine allI_cons ?_ ?_
              · refine anyV_op rfl ?_
                refine VX.new rfl rfl ?_
                refine VX.nil ?_
                refine AnyV.more [4] (by kernel_rfl) (by simp) ?_
                refine allI_cons ?_ ?_
                · refine anyV_op rfl ?_
                  refine VX.new rfl rfl ?_
                  refine VX.nil ?_
                  refine AnyV.more [6] (by kernel_rfl) (by simp) ?_
                  refine allI_cons ?_ ?_
                  · refine anyV_op rfl ?_
                    refine VX.store rfl rfl rfl rfl rfl au_sR rfl ?_
                    refine VX.nil ?_
                    refine AnyV.more [7] (by kernel_rfl) (by simp) ?_
                    refine allI_cons ?_ ?_
                    · refine anyV_op rfl ?_
                      refine VX.store rfl rfl rfl rfl rfl au_sR rfl ?_
                      refine VX.nil ?_
                      exact AnyV.fin (by kernel_rfl) (tile_leaf 3 2 1 trivial rfl rfl rfl rfl rfl rfl rfl rfl rfl rfl rfl rfl rfl)
                    exact trivial
                  exact trivial
                exact trivial
              exact trivial
            refine allI_cons ?_ ?_
            · refine anyV_op rfl ?_
              refine VX.new rfl rfl ?_
              refine VX.nil ?_
              refine AnyV.more [3, 5] (by kernel_rfl) (by simp) ?_
              refine allI_cons ?_ ?_
              · refine anyV_op rfl ?_
                refine VX.callP0 rfl rfl rfl (planeOf_p tw th tpx htw2 hth2 htl htb) ?_
                refine VX.nil ?_
                refine AnyV.more [5] (by kernel_rfl) (by simp) ?_
                refine allI_cons ?_ ?_
                · refine anyV_op rfl ?_
                  refine VX.new rfl rfl ?_
                  refine VX.nil ?_
                  refine AnyV.more [6] (by kernel_rfl) (by simp) ?_
                  refine allI_cons ?_ ?_
                  · refine anyV_op rfl ?_
                    refine VX.store rfl rfl rfl rfl rfl au_sR rfl ?_
                    refine VX.nil ?_
                    refine AnyV.more [7] (by kernel_rfl) (by simp) ?_
                    refine allI_cons ?_ ?_
                    · refine anyV_op rfl ?_
                      refine VX.store rfl rfl rfl rfl rfl au_sR rfl ?_
                      refine VX.nil ?_
                      exact AnyV.fin (by kernel_rfl) (tile_leaf 2 3 1 trivial rfl rfl rfl rfl rfl rfl rfl rfl rfl rfl rfl rfl rfl)
                    exact trivial
                  exact trivial
                exact trivial
              refine allI_cons ?_ ?_
              · refine anyV_op rfl ?_
                refine VX.new rfl rfl ?_
                refine VX.nil ?_
                refine AnyV.more [3] (by kernel_rfl) (by simp) ?_
                refine allI_cons ?_ ?_
                · refine anyV_op rfl ?_
                  refine VX.callP0 rfl rfl rfl (planeOf_p tw th tpx htw2 hth2 htl htb) ?_
                  refine VX.nil ?_
                  refine AnyV.more [6] (by kernel_rfl) (by simp) ?_
                  refine allI_cons ?_ ?_
                  · refine anyV_op rfl ?_
                    refine VX.store rfl rfl rfl rfl rfl au_sR rfl ?_
                    refine VX.nil ?_
                    refine AnyV.more [7] (by kernel_rfl) (by simp) ?_
                    refine allI_cons ?_ ?_
                    · refine anyV_op rfl ?_
                      refine VX.store rfl rfl rfl rfl rfl au_sR rfl ?_
                      refine VX.nil ?_
                      exact AnyV.fin (by kernel_rfl) (tile_leaf 2 3 1 trivial rfl rfl rfl rfl rfl rfl rfl rfl rfl rfl rfl rfl rfl)
                    exact trivial
                  exact trivial
                exact trivial
              exact trivial
            refine allI_cons ?_ ?_
            · refine anyV_op rfl ?_
              refine VX.new rfl rfl ?_
              refine VX.nil ?_
              refine AnyV.more [3, 4] (by kernel_rfl) (by simp) ?_
              refine allI_cons ?_ ?_
              · refine anyV_op rfl ?_
                refine VX.callP0 rfl rfl rfl (planeOf_p tw th tpx htw2 hth2 htl htb) ?_
                refine VX.nil ?_
                refine AnyV.more [4] (by kernel_rfl) (by simp) ?_
                refine allI_cons ?_ ?_
                · refine anyV_op rfl ?_
                  refine VX.new rfl rfl ?_
                  refine VX.nil ?_
                  refine AnyV.more [6] (by kernel_rfl) (by simp) ?_
                  refine allI_cons ?_ ?_
                  · refine anyV_op rfl ?_
                    refine VX.store rfl rfl rfl rfl rfl au_sR rfl ?_
                    refine VX.nil ?_
                    refine AnyV.more [7] (by kernel_rfl) (by simp) ?_
                    refine allI_cons ?_ ?_
                    · refine anyV_op rfl ?_
                      refine VX.store rfl rfl rfl rfl rfl au_sR rfl ?_
                      refine VX.nil ?_
                      exact AnyV.fin (by kernel_rfl) (tile_leaf 3 2 1 trivial rfl rfl rfl rfl rfl rfl rfl rfl rfl rfl rfl rfl rfl)
                    exact trivial
                  exact trivial
                exact trivial
              refine allI_cons ?_ ?_
              · refine anyV_op rfl ?_
                refine VX.new rfl rfl ?_
                refine VX.nil ?_
                refine AnyV.more [3] (by kernel_rfl) (by simp) ?_
                refine allI_cons ?_ ?_
                · refine anyV_op rfl ?_
                  refine VX.callP0 rfl rfl rfl (planeOf_p tw th tpx htw2 hth2 htl htb) ?_
                  refine VX.nil ?_
                  refine AnyV.more [6] (by kernel_rfl) (by simp) ?_
                  refine allI_cons ?_ ?_
                  · refine anyV_op rfl ?_
                    refine VX.store rfl rfl rfl rfl rfl au_sR rfl ?_
                    refine VX.nil ?_
                    refine AnyV.more [7] (by kernel_rfl) (by simp) ?_
                    refine allI_cons ?_ ?_
                    · refine anyV_op rfl ?_
                      refine VX.store rfl rfl rfl rfl rfl au_sR rfl ?_
                      refine VX.nil ?_
                      exact AnyV.fin (by kernel_rfl) (tile_leaf 3 2 1 trivial rfl rfl rfl rfl rfl rfl rfl rfl rfl rfl rfl rfl rfl)
                    exact trivial
                  exact trivial
                exact trivial
              exact trivial
            exact trivial
          refine allI_cons ?_ ?_
          · refine anyV_op rfl ?_
            refine VX.new rfl rfl ?_
            refine VX.nil ?_
            refine AnyV.more [1, 5] (by kernel_rfl) (by simp) ?_
            refine allI_cons ?_ ?_
            · refine anyV_op rfl ?_
              refine VX.callT rfl rfl (CallT.frame (planeOf_t w h px hw hh hl hpb) [] rfl au_ci au_ci ?_)
              rintro _ _ ⟨rfl, rfl⟩
              refine frK au_co au_co ?_
              refine VX.nil ?_
              refine AnyV.more [3, 5] (by kernel_rfl) (by simp) ?_
              refine allI_cons ?_ ?_
              · refine anyV_op rfl ?_
                refine VX.callP0 rfl rfl rfl (planeOf_p tw th tpx htw2 hth2 htl htb) ?_
                refine VX.nil ?_
                refine AnyV.more [5] (by kernel_rfl) (by simp) ?_
                refine allI_cons ?_ ?_
                · refine anyV_op rfl ?_
                  refine VX.new rfl rfl ?_
                  refine VX.nil ?_
                  refine AnyV.more [6] (by kernel_rfl) (by simp) ?_
                  refine allI_cons ?_ ?_
                  · refine anyV_op rfl ?_
                    refine VX.store rfl rfl rfl rfl rfl au_sR rfl ?_
                    refine VX.nil ?_
                    refine AnyV.more [7] (by kernel_rfl) (by simp) ?_
                    refine allI_cons ?_ ?_
                    · refine anyV_op rfl ?_
                      refine VX.store rfl rfl rfl rfl rfl au_sR rfl ?_
                      refine VX.nil ?_
                      exact AnyV.fin (by kernel_rfl) (tile_leaf 1 3 2 trivial rfl rfl rfl rfl rfl rfl rfl rfl rfl rfl rfl rfl rfl)
                    exact trivial
                  exact trivial
                exact trivial
              refine allI_cons ?_ ?_
              · refine anyV_op rfl ?_
                refine VX.new rfl rfl ?_
                refine VX.nil ?_
                refine AnyV.more [3] (by kernel_rfl) (by simp) ?_
                refine allI_cons ?_ ?_
                · refine anyV_op rfl ?_
                  refine VX.callP0 rfl rfl rfl (planeOf_p tw th tpx htw2 hth2 htl htb) ?_
                  refine VX.nil ?_
                  refine AnyV.more [6] (by kernel_rfl) (by simp) ?_
                  refine allI_cons ?_ ?_
                  · refine anyV_op rfl ?_
                    refine VX.store rfl rfl rfl rfl rfl au_sR rfl ?_
                    refine VX.nil ?_
                    refine AnyV.more [7] (by kernel_rfl) (by simp) ?_
                    refine allI_cons ?_ ?_
                    · refine anyV_op rfl ?_
                      refine VX.store rfl rfl rfl rfl rfl au_sR rfl ?_
                      refine VX.nil ?_
                      exact AnyV.fin (by kernel_rfl) (tile_leaf 1 3 2 trivial rfl rfl rfl rfl rfl rfl rfl rfl rfl rfl rfl rfl rfl)
                    exact trivial
                  exact trivial
                exact trivial
              exact trivial
            refine allI_cons ?_ ?_
            · refine anyV_op rfl ?_
              refine VX.new rfl rfl ?_
              refine VX.nil ?_
              refine AnyV.more [1] (by kernel_rfl) (by simp) ?_
              refine allI_cons ?_ ?_
              · refine anyV_op rfl ?_
                refine VX.callT rfl rfl (CallT.frame (planeOf_t w h px hw hh hl hpb) [] rfl au_ci au_ci ?_)
                rintro _ _ ⟨rfl, rfl⟩
                refine frK au_co au_co ?_
                refine VX.nil ?_
                refine AnyV.more [3] (by kernel_rfl) (by simp) ?_
                refine allI_cons ?_ ?_
                · refine anyV_op rfl ?_
                  refine VX.callP0 rfl rfl rfl (planeOf_p tw th tpx htw2 hth2 htl htb) ?_
                  refine VX.nil ?_
                  refine AnyV.more [6] (by kernel_rfl) (by simp) ?_
                  refine allI_cons ?_ ?_
                  · refine anyV_op rfl ?_
                    refine VX.store rfl rfl rfl rfl rfl au_sR rfl ?_
                    refine VX.nil ?_
                    refine AnyV.more [7] (by kernel_rfl) (by simp) ?_
                    refine allI_cons ?_ ?_
                    · refine anyV_op rfl ?_
                      refine VX.store rfl rfl rfl rfl rfl au_sR rfl ?_
                      refine VX.nil ?_
                      exact AnyV.fin (by kernel_rfl) (tile_leaf 1 2 3 trivial rfl rfl rfl rfl rfl rfl rfl rfl rfl rfl rfl rfl rfl)
                    exact trivial
                  exact trivial
                exact trivial
              exact trivial
            exact trivial
          refine allI_cons ?_ ?_
          · refine anyV_op rfl ?_
            refine VX.new rfl rfl ?_
            refine VX.nil ?_
            refine AnyV.more [1, 4] (by kernel_rfl) (by simp) ?_
            refine allI_cons ?_ ?_
            · refine anyV_op rfl ?_
              refine VX.callT rfl rfl (CallT.frame (planeOf_t w h px hw hh hl hpb) [] rfl au_ci au_ci ?_)
              rintro _ _ ⟨rfl, rfl⟩
              refine frK au_co au_co ?_
              refine VX.nil ?_
              refine AnyV.more [3, 4] (by kernel_rfl) (by simp) ?_
              refine allI_cons ?_ ?_
              · refine anyV_op rfl ?_
                refine VX.callP0 rfl rfl rfl (planeOf_p tw th tpx htw2 hth2 htl htb) ?_
                refine VX.nil ?_
                refine AnyV.more [4] (by kernel_rfl) (by simp) ?_
                refine allI_cons ?_ ?_
                · refine anyV_op rfl ?_
                  refine VX.new rfl rfl ?_
                  refine VX.nil ?_
                  refine AnyV.more [6] (by kernel_rfl) (by simp) ?_
                  refine allI_cons ?_ ?_
                  · refine anyV_op rfl ?_
                    refine VX.store rfl rfl rfl rfl rfl au_sR rfl ?_
                    refine VX.nil ?_
                    refine AnyV.more [7] (by kernel_rfl) (by simp) ?_
                    refine allI_cons ?_ ?_
                    · refine anyV_op rfl ?_
                      refine VX.store rfl rfl rfl rfl rfl au_sR rfl ?_
                      refine VX.nil ?_
                      exact AnyV.fin (by kernel_rfl) (tile_leaf 3 1 2 trivial rfl rfl rfl rfl rfl rfl rfl rfl rfl rfl rfl rfl rfl)
                    exact trivial
                  exact trivial
                exact trivial
              refine allI_cons ?_ ?_
              · refine anyV_op rfl ?_
                refine VX.new rfl rfl ?_
                refine VX.nil ?_
                refine AnyV.more [3] (by kernel_rfl) (by simp) ?_
                refine allI_cons ?_ ?_
                · refine anyV_op rfl ?_
                  refine VX.callP0 rfl rfl rfl (planeOf_p tw th tpx htw2 hth2 htl htb) ?_
                  refine VX.nil ?_
                  refine AnyV.more [6] (by kernel_rfl) (by simp) ?_
                  refine allI_cons ?_ ?_
                  · refine anyV_op rfl ?_
                    refine VX.store rfl rfl rfl rfl rfl au_sR rfl ?_
                    refine VX.nil ?_
                    refine AnyV.more [7] (by kernel_rfl) (by simp) ?_
                    refine allI_cons ?_ ?_
                    · refine anyV_op rfl ?_
                      refine VX.store rfl rfl rfl rfl rfl au_sR rfl ?_
                      refine VX.nil ?_
                      exact AnyV.fin (by kernel_rfl) (tile_leaf 3 1 2 trivial rfl rfl rfl rfl rfl rfl rfl rfl rfl rfl rfl rfl rfl)
                    exact trivial
                  exact trivial
                exact trivial
              exact trivial
            refine allI_cons ?_ ?_
            · refine anyV_op rfl ?_
              refine VX.new rfl rfl ?_
              refine VX.nil ?_
              refine AnyV.more [1] (by kernel_rfl) (by simp) ?_
              refine allI_cons ?_ ?_
              · refine anyV_op rfl ?_
                refine VX.callT rfl rfl (CallT.frame (planeOf_t w h px hw hh hl hpb) [] rfl au_ci au_ci ?_)
                rintro _ _ ⟨rfl, rfl⟩
                refine frK au_co au_co ?_
                refine VX.nil ?_
                refine AnyV.more [3] (by kernel_rfl) (by simp) ?_
                refine allI_cons ?_ ?_
                · refine anyV_op rfl ?_
                  refine VX.callP0 rfl rfl rfl (planeOf_p tw th tpx htw2 hth2 htl htb) ?_
                  refine VX.nil ?_
                  refine AnyV.more [6] (by kernel_rfl) (by simp) ?_
                  refine allI_cons ?_ ?_
                  · refine anyV_op rfl ?_
                    refine VX.store rfl rfl rfl rfl rfl au_sR rfl ?_
                    refine VX.nil ?_
                    refine AnyV.more [7] (by kernel_rfl) (by simp) ?_
                    refine allI_cons ?_ ?_
                    · refine anyV_op rfl ?_
                      refine VX.store rfl rfl rfl rfl rfl au_sR rfl ?_
                      refine VX.nil ?_
                      exact AnyV.fin (by kernel_rfl) (tile_leaf 2 1 3 trivial rfl rfl rfl rfl rfl rfl rfl rfl rfl rfl rfl rfl rfl)
                    exact trivial
                  exact trivial
                exact trivial
              exact trivial
            exact trivial
          exact trivial
        refine allI_cons ?_ ?_
        · refine anyV_op rfl ?_
          refine VX.new rfl rfl ?_
          refine VX.nil ?_
          refine AnyV.more [0, 5] (by kernel_rfl) (by simp) ?_
          refine allI_cons ?_ ?_
          · refine anyV_op rfl ?_
            first | refine VX.meek rfl ?_ | refine VX.loadI rfl rfl au_l ?_ | refine VX.loadP rfl rfl rfl au_l ?_
            refine VX.nil ?_
            refine AnyV.more [1, 5] (by kernel_rfl) (by simp) ?_
            refine allI_cons ?_ ?_
            · refine anyV_op rfl ?_
              refine VX.callT rfl rfl (CallT.frame (planeOf_t w h px hw hh hl hpb) [] rfl au_ci au_ci ?_)
              rintro _ _ ⟨rfl, rfl⟩
              refine frK au_co au_co ?_
              refine VX.nil ?_
              refine AnyV.more [3, 5] (by kernel_rfl) (by simp) ?_
              refine allI_cons ?_ ?_
              · refine anyV_op rfl ?_
                refine VX.callP0 rfl rfl rfl (planeOf_p tw th tpx htw2 hth2 htl htb) ?_
                refine VX.nil ?_
                refine AnyV.more [5] (by kernel_rfl) (by simp) ?_
                refine allI_cons ?_ ?_
                · refine anyV_op rfl ?_
                  refine VX.new rfl rfl ?_
                  refine VX.nil ?_
                  refine AnyV.more [6] (by kernel_rfl) (by simp) ?_
                  refine allI_cons ?_ ?_
                  · refine anyV_op rfl ?_
                    refine VX.store rfl rfl rfl rfl rfl au_sR rfl ?_
                    refine VX.nil ?_
                    refine AnyV.more [7] (by kernel_rfl) (by simp) ?_
                    refine allI_cons ?_ ?_
                    · refine anyV_op rfl ?_
                      refine VX.store rfl rfl rfl rfl rfl au_sR rfl ?_
                      refine VX.nil ?_
                      exact AnyV.fin (by kernel_rfl) (tile_leaf 1 3 2 trivial rfl rfl rfl rfl rfl rfl rfl rfl rfl rfl rfl rfl rfl)
                    exact trivial
                  exact trivial
                exact trivial
              refine allI_cons ?_ ?_
              · refine anyV_op rfl ?_
                refine VX.new rfl rfl ?_
                refine VX.nil ?_
                refine AnyV.more [3] (by kernel_rfl) (by simp) ?_
                refine allI_cons ?_ ?_
                · refine anyV_op rfl ?_
                  refine VX.callP0 rfl rfl rfl (planeOf_p tw th tpx htw2 hth2 htl htb) ?_
                  refine VX.nil ?_
                  refine AnyV.more [6] (by kernel_rfl) (by simp) ?_
                  refine allI_cons ?_ ?_
                  · refine anyV_op rfl ?_
                    refine VX.store rfl rfl rfl rfl rfl au_sR rfl ?_
                    refine VX.nil ?_
                    refine AnyV.more [7] (by kernel_rfl) (by simp) ?_
                    refine allI_cons ?_ ?_
                    · refine anyV_op rfl ?_
                      refine VX.store rfl rfl rfl rfl rfl au_sR rfl ?_
                      refine VX.nil ?_
                      exact AnyV.fin (by kernel_rfl) (tile_leaf 1 3 2 trivial rfl rfl rfl rfl rfl rfl rfl rfl rfl rfl rfl rfl rfl)
                    exact trivial
                  exact trivial
                exact trivial
              exact trivial
            refine allI_cons ?_ ?_
            · refine anyV_op rfl ?_
              refine VX.new rfl rfl ?_
              refine VX.nil ?_
              refine AnyV.more [1] (by kernel_rfl) (by simp) ?_
              refine allI_cons ?_ ?_
              · refine anyV_op rfl ?_
                refine VX.callT rfl rfl (CallT.frame (planeOf_t w h px hw hh hl hpb) [] rfl au_ci au_ci ?_)
                rintro _ _ ⟨rfl, rfl⟩
                refine frK au_co au_co ?_
                refine VX.nil ?_
                refine AnyV.more [3] (by kernel_rfl) (by simp) ?_
                refine allI_cons ?_ ?_
                · refine anyV_op rfl ?_
                  refine VX.callP0 rfl rfl rfl (planeOf_p tw th tpx htw2 hth2 htl htb) ?_
                  refine VX.nil ?_
                  refine AnyV.more [6] (by kernel_rfl) (by simp) ?_
                  refine allI_cons ?_ ?_
                  · refine anyV_op rfl ?_
                    refine VX.store rfl rfl rfl rfl rfl au_sR rfl ?_
                    refine VX.nil ?_
                    refine AnyV.more [7] (by kernel_rfl) (by simp) ?_
                    refine allI_cons ?_ ?_
                    · refine anyV_op rfl ?_
                      refine VX.store rfl rfl rfl rfl rfl au_sR rfl ?_
                      refine VX.nil ?_
                      exact AnyV.fin (by kernel_rfl) (tile_leaf 1 2 3 trivial rfl rfl rfl rfl rfl rfl rfl rfl rfl rfl rfl rfl rfl)
                    exact trivial
                  exact trivial
                exact trivial
              exact trivial
            exact trivial
          refine allI_cons ?_ ?_
          · refine anyV_op rfl ?_
            refine VX.new rfl rfl ?_
            refine VX.nil ?_
            refine AnyV.more [0] (by kernel_rfl) (by simp) ?_
            refine allI_cons ?_ ?_
            · refine anyV_op rfl ?_
              first | refine VX.meek rfl ?_ | refine VX.loadI rfl rfl au_l ?_ | refine VX.loadP rfl rfl rfl au_l ?_
              refine VX.nil ?_
              refine AnyV.more [1] (by kernel_rfl) (by simp) ?_
              refine allI_cons ?_ ?_
              · refine anyV_op rfl ?_
                refine VX.callT rfl rfl (CallT.frame (planeOf_t w h px hw hh hl hpb) [] rfl au_ci au_ci ?_)
                rintro _ _ ⟨rfl, rfl⟩
                refine frK au_co au_co ?_
                refine VX.nil ?_
                refine AnyV.more [3] (by kernel_rfl) (by simp) ?_
                refine allI_cons ?_ ?_
                · refine anyV_op rfl ?_
                  refine VX.callP0 rfl rfl rfl (planeOf_p tw th tpx htw2 hth2 htl htb) ?_
                  refine VX.nil ?_
                  refine AnyV.more [6] (by kernel_rfl) (by simp) ?_
                  refine allI_cons ?_ ?_
                  · refine anyV_op rfl ?_
                    refine VX.store rfl rfl rfl rfl rfl au_sR rfl ?_
                    refine VX.nil ?_
                    refine AnyV.more [7] (by kernel_rfl) (by simp) ?_
                    refine allI_cons ?_ ?_
                    · refine anyV_op rfl ?_
                      refine VX.store rfl rfl rfl rfl rfl au_sR rfl ?_
                      refine VX.nil ?_
                      exact AnyV.fin (by kernel_rfl) (tile_leaf 1 2 3 trivial rfl rfl rfl rfl rfl rfl rfl rfl rfl rfl rfl rfl rfl)
                    exact trivial
                  exact trivial
                exact trivial
              exact trivial
            exact trivial
          exact trivial
        refine allI_cons ?_ ?_
        · refine anyV_op rfl ?_
          refine VX.new rfl rfl ?_
          refine VX.nil ?_
          refine AnyV.more [0, 4] (by kernel_rfl) (by simp) ?_
          refine allI_cons ?_ ?_
          · refine anyV_op rfl ?_
            first | refine VX.meek rfl ?_ | refine VX.loadI rfl rfl au_l ?_ | refine VX.loadP rfl rfl rfl au_l ?_
            refine VX.nil ?_
            refine AnyV.more [1, 4] (by kernel_rfl) (by simp) ?_
            refine allI_cons ?_ ?_
            · refine anyV_op rfl ?_
              refine VX.callT rfl rfl (CallT.frame (planeOf_t w h px hw hh hl hpb) [] rfl au_ci au_ci ?_)
              rintro _ _ ⟨rfl, rfl⟩
              refine frK au_co au_co ?_
              refine VX.nil ?_
              refine AnyV.more [3, 4] (by kernel_rfl) (by simp) ?_
              refine allI_cons ?_ ?_
              · refine anyV_op rfl ?_
                refine VX.callP0 rfl rfl rfl (planeOf_p tw th tpx htw2 hth2 htl htb) ?_
                refine VX.nil ?_
                refine AnyV.more [4] (by kernel_rfl) (by simp) ?_
                refine allI_cons ?_ ?_
                · refine anyV_op rfl ?_
                  refine VX.new rfl rfl ?_
                  refine VX.nil ?_
                  refine AnyV.more [6] (by kernel_rfl) (by simp) ?_
                  refine allI_cons ?_ ?_
                  · refine anyV_op rfl ?_
                    refine VX.store rfl rfl rfl rfl rfl au_sR rfl ?_
                    refine VX.nil ?_
                    refine AnyV.more [7] (by kernel_rfl) (by simp) ?_
                    refine allI_cons ?_ ?_
                    · refine anyV_op rfl ?_
                      refine VX.store rfl rfl rfl rfl rfl au_sR rfl ?_
                      refine VX.nil ?_
                      exact AnyV.fin (by kernel_rfl) (tile_leaf 3 1 2 trivial rfl rfl rfl rfl rfl rfl rfl rfl rfl rfl rfl rfl rfl)
                    exact trivial
                  exact trivial
                exact trivial
              refine allI_cons ?_ ?_
              · refine anyV_op rfl ?_
                refine VX.new rfl rfl ?_
                refine VX.nil ?_
                refine AnyV.more [3] (by kernel_rfl) (by simp) ?_
                refine allI_cons ?_ ?_
                · refine anyV_op rfl ?_
                  refine VX.callP0 rfl rfl rfl (planeOf_p tw th tpx htw2 hth2 htl htb) ?_
                  refine VX.nil ?_
                  refine AnyV.more [6] (by kernel_rfl) (by simp) ?_
                  refine allI_cons ?_ ?_
                  · refine anyV_op rfl ?_
                    refine VX.store rfl rfl rfl rfl rfl au_sR rfl ?_
                    refine VX.nil ?_
                    refine AnyV.more [7] (by kernel_rfl) (by simp) ?_
                    refine allI_cons ?_ ?_
                    · refine anyV_op rfl ?_
                      refine VX.store rfl rfl rfl rfl rfl au_sR rfl ?_
                      refine VX.nil ?_
                      exact AnyV.fin (by kernel_rfl) (tile_leaf 3 1 2 trivial rfl rfl rfl rfl rfl rfl rfl rfl rfl rfl rfl rfl rfl)
                    exact trivial
                  exact trivial
                exact trivial
              exact trivial
            refine allI_cons ?_ ?_
            · refine anyV_op rfl ?_
              refine VX.new rfl rfl ?_
              refine VX.nil ?_
              refine AnyV.more [1] (by kernel_rfl) (by simp) ?_
              refine allI_cons ?_ ?_
              · refine anyV_op rfl ?_
                refine VX.callT rfl rfl (CallT.frame (planeOf_t w h px hw hh hl hpb) [] rfl au_ci au_ci ?_)
                rintro _ _ ⟨rfl, rfl⟩
                refine frK au_co au_co ?_
                refine VX.nil ?_
                refine AnyV.more [3] (by kernel_rfl) (by simp) ?_
                refine allI_cons ?_ ?_
                · refine anyV_op rfl ?_
                  refine VX.callP0 rfl rfl rfl (planeOf_p tw th tpx htw2 hth2 htl htb) ?_
                  refine VX.nil ?_
                  refine AnyV.more [6] (by kernel_rfl) (by simp) ?_
                  refine allI_cons ?_ ?_
                  · refine anyV_op rfl ?_
                    refine VX.store rfl rfl rfl rfl rfl au_sR rfl ?_
                    refine VX.nil ?_
                    refine AnyV.more [7] (by kernel_rfl) (by simp) ?_
                    refine allI_cons ?_ ?_
                    · refine anyV_op rfl ?_
                      refine VX.store rfl rfl rfl rfl rfl au_sR rfl ?_
                      refine VX.nil ?_
                      exact AnyV.fin (by kernel_rfl) (tile_leaf 2 1 3 trivial rfl rfl rfl rfl rfl rfl rfl rfl rfl rfl rfl rfl rfl)
                    exact trivial
                  exact trivial
                exact trivial
              exact trivial
            exact trivial
          refine allI_cons ?_ ?_
          · refine anyV_op rfl ?_
            refine VX.new rfl rfl ?_
            refine VX.nil ?_
            refine AnyV.more [0] (by kernel_rfl) (by simp) ?_
            refine allI_cons ?_ ?_
            · refine anyV_op rfl ?_
              first | refine VX.meek rfl ?_ | refine VX.loadI rfl rfl au_l ?_ | refine VX.loadP rfl rfl rfl au_l ?_
              refine VX.nil ?_
              refine AnyV.more [1] (by kernel_rfl) (by simp) ?_
              refine allI_cons ?_ ?_
              · refine anyV_op rfl ?_
                refine VX.callT rfl rfl (CallT.frame (planeOf_t w h px hw hh hl hpb) [] rfl au_ci au_ci ?_)
                rintro _ _ ⟨rfl, rfl⟩
                refine frK au_co au_co ?_
                refine VX.nil ?_
                refine AnyV.more [3] (by kernel_rfl) (by simp) ?_
                refine allI_cons ?_ ?_
                · refine anyV_op rfl ?_
                  refine VX.callP0 rfl rfl rfl (planeOf_p tw th tpx htw2 hth2 htl htb) ?_
                  refine VX.nil ?_
                  refine AnyV.more [6] (by kernel_rfl) (by simp) ?_
                  refine allI_cons ?_ ?_
                  · refine anyV_op rfl ?_
                    refine VX.store rfl rfl rfl rfl rfl au_sR rfl ?_
                    refine VX.nil ?_
                    refine AnyV.more [7] (by kernel_rfl) (by simp) ?_
                    refine allI_cons ?_ ?_
                    · refine anyV_op rfl ?_
                      refine VX.store rfl rfl rfl rfl rfl au_sR rfl ?_
                      refine VX.nil ?_
                      exact AnyV.fin (by kernel_rfl) (tile_leaf 2 1 3 trivial rfl rfl rfl rfl rfl rfl rfl rfl rfl rfl rfl rfl rfl)
                    exact trivial
                  exact trivial
                exact trivial
              exact trivial
            exact trivial
          exact trivial
        exact trivial
      refine allI_cons ?_ ?_
      · refine anyV_op rfl ?_
        refine VX.new rfl rfl ?_
        refine VX.nil ?_
        refine AnyV.more [0, 2, 5] (by kernel_rfl) (by simp) ?_
        refine allI_cons ?_ ?_
        · refine anyV_op rfl ?_
          first | refine VX.meek rfl ?_ | refine VX.loadI rfl rfl au_l ?_ | refine VX.loadP rfl rfl rfl au_l ?_
          refine VX.nil ?_
          refine AnyV.more [1, 2, 5] (by kernel_rfl) (by simp) ?_
          refine allI_cons ?_ ?_
          · refine anyV_op rfl ?_
            refine VX.callT rfl rfl (CallT.frame (planeOf_t w h px hw hh hl hpb) [] rfl au_ci au_ci ?_)
            rintro _ _ ⟨rfl, rfl⟩
            refine frK au_co au_co ?_
            refine VX.nil ?_
            refine AnyV.more [2, 5] (by kernel_rfl) (by simp) ?_
            refine allI_cons ?_ ?_
            · refine anyV_op rfl ?_
              first | refine VX.meek rfl ?_ | refine VX.loadI rfl rfl au_l ?_ | refine VX.loadP rfl rfl rfl au_l ?_
              refine VX.nil ?_
              refine AnyV.more [3, 5] (by kernel_rfl) (by simp) ?_
              refine allI_cons ?_ ?_
              · refine anyV_op rfl ?_
                refine VX.callP0 rfl rfl rfl (planeOf_p tw th tpx htw2 hth2 htl htb) ?_
                refine VX.nil ?_
                refine AnyV.more [5] (by kernel_rfl) (by simp) ?_
                refine allI_cons ?_ ?_
                · refine anyV_op rfl ?_
                  refine VX.new rfl rfl ?_
                  refine VX.nil ?_
                  refine AnyV.more [6] (by kernel_rfl) (by simp) ?_
                  refine allI_cons ?_ ?_
                  · refine anyV_op rfl ?_
                    refine VX.store rfl rfl rfl rfl rfl au_sR rfl ?_
                    refine VX.nil ?_
                    refine AnyV.more [7] (by kernel_rfl) (by simp) ?_
                    refine allI_cons ?_ ?_
                    · refine anyV_op rfl ?_
                      refine VX.store rfl rfl rfl rfl rfl au_sR rfl ?_
                      refine VX.nil ?_
                      exact AnyV.fin (by kernel_rfl) (tile_leaf 1 3 2 trivial rfl rfl rfl rfl rfl rfl rfl rfl rfl rfl rfl rfl rfl)
                    exact trivial
                  exact trivial
                exact trivial
              refine allI_cons ?_ ?_
              · refine anyV_op rfl ?_
                refine VX.new rfl rfl ?_
                refine VX.nil ?_
                refine AnyV.more [3] (by kernel_rfl) (by simp) ?_
                refine allI_cons ?_ ?_
                · refine anyV_op rfl ?_
                  refine VX.callP0 rfl rfl rfl (planeOf_p tw th tpx htw2 hth2 htl htb) ?_
                  refine VX.nil ?_
                  refine AnyV.more [6] (by kernel_rfl) (by simp) ?_
                  refine allI_cons ?_ ?_
                  · refine anyV_op rfl ?_
                    refine VX.store rfl rfl rfl rfl rfl au_sR rfl ?_
                    refine VX.nil ?_
                    refine AnyV.more [7] (by kernel_rfl) (by simp) ?_
                    refine allI_cons ?_ ?_
                    · refine anyV_op rfl ?_
                      refine VX.store rfl rfl rfl rfl rfl au_sR rfl ?_
                      refine VX.nil ?_
                      exact AnyV.fin (by kernel_rfl) (tile_leaf 1 3 2 trivial rfl rfl rfl rfl rfl rfl rfl rfl rfl rfl rfl rfl rfl)
                    exact trivial
                  exact trivial
                exact trivial
              exact trivial
            refine allI_cons ?_ ?_
            · refine anyV_op rfl ?_
              refine VX.new rfl rfl ?_
              refine VX.nil ?_
              refine AnyV.more [2] (by kernel_rfl) (by simp) ?_
              refine allI_cons ?_ ?_
              · refine anyV_op rfl ?_
                first | refine VX.meek rfl ?_ | refine VX.loadI rfl rfl au_l ?_ | refine VX.loadP rfl rfl rfl au_l ?_
                refine VX.nil ?_
                refine AnyV.more [3] (by kernel_rfl) (by simp) ?_
                refine allI_cons ?_ ?_
                · refine anyV_op rfl ?_
                  refine VX.callP0 rfl rfl rfl (planeOf_p tw th tpx htw2 hth2 htl htb) ?_
                  refine VX.nil ?_
                  refine AnyV.more [6] (by kernel_rfl) (by simp) ?_
                  refine allI_cons ?_ ?_
                  · refine anyV_op rfl ?_
                    refine VX.store rfl rfl rfl rfl rfl au_sR rfl ?_
                    refine VX.nil ?_
                    refine AnyV.more [7] (by kernel_rfl) (by simp) ?_
                    refine allI_cons ?_ ?_
                    · refine anyV_op rfl ?_
                      refine VX.store rfl rfl rfl rfl rfl au_sR rfl ?_
                      refine VX.nil ?_
                      exact AnyV.fin (by kernel_rfl) (tile_leaf 1 3 2 trivial rfl rfl rfl rfl rfl rfl rfl rfl rfl rfl rfl rfl rfl)
                    exact trivial
                  exact trivial
                exact trivial
              exact trivial
            exact trivial
          refine allI_cons ?_ ?_
          · refine anyV_op rfl ?_
            first | refine VX.meek rfl ?_ | refine VX.loadI rfl rfl au_l ?_ | refine VX.loadP rfl rfl rfl au_l ?_
            refine VX.nil ?_
            refine AnyV.more [1, 5] (by kernel_rfl) (by simp) ?_
            refine allI_cons ?_ ?_
            · refine anyV_op rfl ?_
              refine VX.callT rfl rfl (CallT.frame (planeOf_t w h px hw hh hl hpb) [] rfl au_ci au_ci ?_)
              rintro _ _ ⟨rfl, rfl⟩
              refine frK au_co au_co ?_
              refine VX.nil ?_
              refine AnyV.more [3, 5] (by kernel_rfl) (by simp) ?_
              refine allI_cons ?_ ?_
              · refine anyV_op rfl ?_
                refine VX.callP0 rfl rfl rfl (planeOf_p tw th tpx htw2 hth2 htl htb) ?_
                refine VX.nil ?_
                refine AnyV.more [5] (by kernel_rfl) (by simp) ?_
                refine allI_cons ?_ ?_
                · refine anyV_op rfl ?_
                  refine VX.new rfl rfl ?_
                  refine VX.nil ?_
                  refine AnyV.more [6] (by kernel_rfl) (by simp) ?_
                  refine allI_cons ?_ ?_
                  · refine anyV_op rfl ?_
                    refine VX.store rfl rfl rfl rfl rfl au_sR rfl ?_
                    refine VX.nil ?_
                    refine AnyV.more [7] (by kernel_rfl) (by simp) ?_
                    refine allI_cons ?_ ?_
                    · refine anyV_op rfl ?_
                      refine VX.store rfl rfl rfl rfl rfl au_sR rfl ?_
                      refine VX.nil ?_
                      exact AnyV.fin (by kernel_rfl) (tile_leaf 1 3 2 trivial rfl rfl rfl rfl rfl rfl rfl rfl rfl rfl rfl rfl rfl)
                    exact trivial
                  exact trivial
                exact trivial
              refine allI_cons ?_ ?_
              · refine anyV_op rfl ?_
                refine VX.new rfl rfl ?_
                refine VX.nil ?_
                refine AnyV.more [3] (by kernel_rfl) (by simp) ?_
                refine allI_cons ?_ ?_
                · refine anyV_op rfl ?_
                  refine VX.callP0 rfl rfl rfl (planeOf_p tw th tpx htw2 hth2 htl htb) ?_
                  refine VX.nil ?_
                  refine AnyV.more [6] (by kernel_rfl) (by simp) ?_
                  refine allI_cons ?_ ?_
                  · refine anyV_op rfl ?_
                    refine VX.store rfl rfl rfl rfl rfl au_sR rfl ?_
                    refine VX.nil ?_
                    refine AnyV.more [7] (by kernel_rfl) (by simp) ?_
                    refine allI_cons ?_ ?_
                    · refine anyV_op rfl ?_
                      refine VX.store rfl rfl rfl rfl rfl au_sR rfl ?_
                      refine VX.nil ?_
                      exact AnyV.fin (by kernel_rfl) (tile_leaf 1 3 2 trivial rfl rfl rfl rfl rfl rfl rfl rfl rfl rfl rfl rfl rfl)
                    exact trivial
                  exact trivial
                exact trivial
              exact trivial
            refine allI_cons ?_ ?_
            · refine anyV_op rfl ?_
              refine VX.new rfl rfl ?_
              refine VX.nil ?_
              refine AnyV.more [1] (by kernel_rfl) (by simp) ?_
              refine allI_cons ?_ ?_
              · refine anyV_op rfl ?_
                refine VX.callT rfl rfl (CallT.frame (planeOf_t w h px hw hh hl hpb) [] rfl au_ci au_ci ?_)
                rintro _ _ ⟨rfl, rfl⟩
                refine frK au_co au_co ?_
                refine VX.nil ?_
                refine AnyV.more [3] (by kernel_rfl) (by simp) ?_
                refine allI_cons ?_ ?_
                · refine anyV_op rfl ?_
                  refine VX.callP0 rfl rfl rfl (planeOf_p tw th tpx htw2 hth2 htl htb) ?_
                  refine VX.nil ?_
                  refine AnyV.more [6] (by kernel_rfl) (by simp) ?_
                  refine allI_cons ?_ ?_
                  · refine anyV_op rfl ?_
                    refine VX.store rfl rfl rfl rfl rfl au_sR rfl ?_
                    refine VX.nil ?_
                    refine AnyV.more [7] (by kernel_rfl) (by simp) ?_
                    refine allI_cons ?_ ?_
                    · refine anyV_op rfl ?_
                      refine VX.store rfl rfl rfl rfl rfl au_sR rfl ?_
                      refine VX.nil ?_
                      exact AnyV.fin (by kernel_rfl) (tile_leaf 1 2 3 trivial rfl rfl rfl rfl rfl rfl rfl rfl rfl rfl rfl rfl rfl)
                    exact trivial
                  exact trivial
                exact trivial
              exact trivial
            exact trivial
          refine allI_cons ?_ ?_
          · refine anyV_op rfl ?_
            refine VX.new rfl rfl ?_
            refine VX.nil ?_
            refine AnyV.more [1, 2] (by kernel_rfl) (by simp) ?_
            refine allI_cons ?_ ?_
            · refine anyV_op rfl ?_
              refine VX.callT rfl rfl (CallT.frame (planeOf_t w h px hw hh hl hpb) [] rfl au_ci au_ci ?_)
              rintro _ _ ⟨rfl, rfl⟩
              refine frK au_co au_co ?_
              refine VX.nil ?_
              refine AnyV.more [2] (by kernel_rfl) (by simp) ?_
              refine allI_cons ?_ ?_
              · refine anyV_op rfl ?_
                first | refine VX.meek rfl ?_ | refine VX.loadI rfl rfl au_l ?_ | refine VX.loadP rfl rfl rfl au_l ?_
                refine VX.nil ?_
                refine AnyV.more [3] (by kernel_rfl) (by simp) ?_
                refine allI_cons ?_ ?_
                · refine anyV_op rfl ?_
                  refine VX.callP0 rfl rfl rfl (planeOf_p tw th tpx htw2 hth2 htl htb) ?_
                  refine VX.nil ?_
                  refine AnyV.more [6] (by kernel_rfl) (by simp) ?_
                  refine allI_cons ?_ ?_
                  · refine anyV_op rfl ?_
                    refine VX.store rfl rfl rfl rfl rfl au_sR rfl ?_
                    refine VX.nil ?_
                    refine AnyV.more [7] (by kernel_rfl) (by simp) ?_
                    refine allI_cons ?_ ?_
                    · refine anyV_op rfl ?_
                      refine VX.store rfl rfl rfl rfl rfl au_sR rfl ?_
                      refine VX.nil ?_
                      exact AnyV.fin (by kernel_rfl) (tile_leaf 1 2 3 trivial rfl rfl rfl rfl rfl rfl rfl rfl rfl rfl rfl rfl rfl)
                    exact trivial
                  exact trivial
                exact trivial
              exact trivial
            refine allI_cons ?_ ?_
            · refine anyV_op rfl ?_
              first | refine VX.meek rfl ?_ | refine VX.loadI rfl rfl au_l ?_ | refine VX.loadP rfl rfl rfl au_l ?_
              refine VX.nil ?_
              refine AnyV.more [1] (by kernel_rfl) (by simp) ?_
              refine allI_cons ?_ ?_
              · refine anyV_op rfl ?_
                refine VX.callT rfl rfl (CallT.frame (planeOf_t w h px hw hh hl hpb) [] rfl au_ci au_ci ?_)
                rintro _ _ ⟨rfl, rfl⟩
                refine frK au_co au_co ?_
                refine VX.nil ?_
                refine AnyV.more [3] (by kernel_rfl) (by simp) ?_
                refine allI_cons ?_ ?_
                · refine anyV_op rfl ?_
                  refine VX.callP0 rfl rfl rfl (planeOf_p tw th tpx htw2 hth2 htl htb) ?_
                  refine VX.nil ?_
                  refine AnyV.more [6] (by kernel_rfl) (by simp) ?_
                  refine allI_cons ?_ ?_
                  · refine anyV_op rfl ?_
                    refine VX.store rfl rfl rfl rfl rfl au_sR rfl ?_
                    refine VX.nil ?_
                    refine AnyV.more [7] (by kernel_rfl) (by simp) ?_
                    refine allI_cons ?_ ?_
                    · refine anyV_op rfl ?_
                      refine VX.store rfl rfl rfl rfl rfl au_sR rfl ?_
                      refine VX.nil ?_
                      exact AnyV.fin (by kernel_rfl) (tile_leaf 1 2 3 trivial rfl rfl rfl rfl rfl rfl rfl rfl rfl rfl rfl rfl rfl)
                    exact trivial
                  exact trivial
                exact trivial
              exact trivial
            exact trivial
          exact trivial
        refine allI_cons ?_ ?_
        · refine anyV_op rfl ?_
          first | refine VX.meek rfl ?_ | refine VX.loadI rfl rfl au_l ?_ | refine VX.loadP rfl rfl rfl au_l ?_
          refine VX.nil ?_
          refine AnyV.more [0, 5] (by kernel_rfl) (by simp) ?_
          refine allI_cons ?_ ?_
          · refine anyV_op rfl ?_
            first | refine VX.meek rfl ?_ | refine VX.loadI rfl rfl au_l ?_ | refine VX.loadP rfl rfl rfl au_l ?_
            refine VX.nil ?_
            refine AnyV.more [1, 5] (by kernel_rfl) (by simp) ?_
            refine allI_cons ?_ ?_
            · refine anyV_op rfl ?_
              refine VX.callT rfl rfl (CallT.frame (planeOf_t w h px hw hh hl hpb) [] rfl au_ci au_ci ?_)
              rintro _ _ ⟨rfl, rfl⟩
              refine frK au_co au_co ?_
              refine VX.nil ?_
              refine AnyV.more [3, 5] (by kernel_rfl) (by simp) ?_
              refine allI_cons ?_ ?_
              · refine anyV_op rfl ?_
                refine VX.callP0 rfl rfl rfl (planeOf_p tw th tpx htw2 hth2 htl htb) ?_
                refine VX.nil ?_
                refine AnyV.more [5] (by kernel_rfl) (by simp) ?_
                refine allI_cons ?_ ?_
                · refine anyV_op rfl ?_
                  refine VX.new rfl rfl ?_
                  refine VX.nil ?_
                  refine AnyV.more [6] (by kernel_rfl) (by simp) ?_
                  refine allI_cons ?_ ?_
                  · refine anyV_op rfl ?_
                    refine VX.store rfl rfl rfl rfl rfl au_sR rfl ?_
                    refine VX.nil ?_
                    refine AnyV.more [7] (by kernel_rfl) (by simp) ?_
                    refine allI_cons ?_ ?_
                    · refine anyV_op rfl ?_
                      refine VX.store rfl rfl rfl rfl rfl au_sR rfl ?_
                      refine VX.nil ?_
                      exact AnyV.fin (by kernel_rfl) (tile_leaf 1 3 2 trivial rfl rfl rfl rfl rfl rfl rfl rfl rfl rfl rfl rfl rfl)
                    exact trivial
                  exact trivial
                exact trivial
              refine allI_cons ?_ ?_
              · refine anyV_op rfl ?_
                refine VX.new rfl rfl ?_
                refine VX.nil ?_
                refine AnyV.more [3] (by kernel_rfl) (by simp) ?_
                refine allI_cons ?_ ?_
                · refine anyV_op rfl ?_
                  refine VX.callP0 rfl rfl rfl (planeOf_p tw th tpx htw2 hth2 htl htb) ?_
                  refine VX.nil ?_
                  refine AnyV.more [6] (by kernel_rfl) (by simp) ?_
                  refine allI_cons ?_ ?_
                  · refine anyV_op rfl ?_
                    refine VX.store rfl rfl rfl rfl rfl au_sR rfl ?_
                    refine VX.nil ?_
                    refine AnyV.more [7] (by kernel_rfl) (by simp) ?_
                    refine allI_cons ?_ ?_
                    · refine anyV_op rfl ?_
                      refine VX.store rfl rfl rfl rfl rfl au_sR rfl ?_
                      refine VX.nil ?_
                      exact AnyV.fin (by kernel_rfl) (tile_leaf 1 3 2 trivial rfl rfl rfl rfl rfl rfl rfl rfl rfl rfl rfl rfl rfl)
                    exact trivial
                  exact trivial
                exact trivial
              exact trivial
            refine allI_cons ?_ ?_
            · refine anyV_op rfl ?_
              refine VX.new rfl rfl ?_
              refine VX.nil ?_
              refine AnyV.more [1] (by kernel_rfl) (by simp) ?_
              refine allI_cons ?_ ?_
              · refine anyV_op rfl ?_
                refine VX.callT rfl rfl (CallT.frame (planeOf_t w h px hw hh hl hpb) [] rfl au_ci au_ci ?_)
                rintro _ _ ⟨rfl, rfl⟩
                refine frK au_co au_co ?_
                refine VX.nil ?_
                refine AnyV.more [3] (by kernel_rfl) (by simp) ?_
                refine allI_cons ?_ ?_
                · refine anyV_op rfl ?_
                  refine VX.callP0 rfl rfl rfl (planeOf_p tw th tpx htw2 hth2 htl htb) ?_
                  refine VX.nil ?_
                  refine AnyV.more [6] (by kernel_rfl) (by simp) ?_
                  refine allI_cons ?_ ?_
                  · refine anyV_op rfl ?_
                    refine VX.store rfl rfl rfl rfl rfl au_sR rfl ?_
                    refine VX.nil ?_
                    refine AnyV.more [7] (by kernel_rfl) (by simp) ?_
                    refine allI_cons ?_ ?_
                    · refine anyV_op rfl ?_
                      refine VX.store rfl rfl rfl rfl rfl au_sR rfl ?_
                      refine VX.nil ?_
                      exact AnyV.fin (by kernel_rfl) (tile_leaf 1 2 3 trivial rfl rfl rfl rfl rfl rfl rfl rfl rfl rfl rfl rfl rfl)
                    exact trivial
                  exact trivial
                exact trivial
              exact trivial
            exact trivial
          refine allI_cons ?_ ?_
          · refine anyV_op rfl ?_
            refine VX.new rfl rfl ?_
            refine VX.nil ?_
            refine AnyV.more [0] (by kernel_rfl) (by simp) ?_
            refine allI_cons ?_ ?_
            · refine anyV_op rfl ?_
              first | refine VX.meek rfl ?_ | refine VX.loadI rfl rfl au_l ?_ | refine VX.loadP rfl rfl rfl au_l ?_
              refine VX.nil ?_
              refine AnyV.more [1] (by kernel_rfl) (by simp) ?_
              refine allI_cons ?_ ?_
              · refine anyV_op rfl ?_
                refine VX.callT rfl rfl (CallT.frame (planeOf_t w h px hw hh hl hpb) [] rfl au_ci au_ci ?_)
                rintro _ _ ⟨rfl, rfl⟩
                refine frK au_co au_co ?_
                refine VX.nil ?_
                refine AnyV.more [3] (by kernel_rfl) (by simp) ?_
                refine allI_cons ?_ ?_
                · refine anyV_op rfl ?_
                  refine VX.callP0 rfl rfl rfl (planeOf_p tw th tpx htw2 hth2 htl htb) ?_
                  refine VX.nil ?_
                  refine AnyV.more [6] (by kernel_rfl) (by simp) ?_
                  refine allI_cons ?_ ?_
                  · refine anyV_op rfl ?_
                    refine VX.store rfl rfl rfl rfl rfl au_sR rfl ?_
                    refine VX.nil ?_
                    refine AnyV.more [7] (by kernel_rfl) (by simp) ?_
                    refine allI_cons ?_ ?_
                    · refine anyV_op rfl ?_
                      refine VX.store rfl rfl rfl rfl rfl au_sR rfl ?_
                      refine VX.nil ?_
                      exact AnyV.fin (by kernel_rfl) (tile_leaf 1 2 3 trivial rfl rfl rfl rfl rfl rfl rfl rfl rfl rfl rfl rfl rfl)
                    exact trivial
                  exact trivial
                exact trivial
              exact trivial
            exact trivial
          exact trivial
        refine allI_cons ?_ ?_
        · refine anyV_op rfl ?_
          refine VX.new rfl rfl ?_
          refine VX.nil ?_
          refine AnyV.more [0, 2] (by kernel_rfl) (by simp) ?_
          refine allI_cons ?_ ?_
          · refine anyV_op rfl ?_
            first | refine VX.meek rfl ?_ | refine VX.loadI rfl rfl au_l ?_ | refine VX.loadP rfl rfl rfl au_l ?_
            refine VX.nil ?_
            refine AnyV.more [1, 2] (by kernel_rfl) (by simp) ?_
            refine allI_cons ?_ ?_
            · refine anyV_op rfl ?_
              refine VX.callT rfl rfl (CallT.frame (planeOf_t w h px hw hh hl hpb) [] rfl au_ci au_ci ?_)
              rintro _ _ ⟨rfl, rfl⟩
              refine frK au_co au_co ?_
              refine VX.nil ?_
              refine AnyV.more [2] (by kernel_rfl) (by simp) ?_
              refine allI_cons ?_ ?_
              · refine anyV_op rfl ?_
                first | refine VX.meek rfl ?_ | refine VX.loadI rfl rfl au_l ?_ | refine VX.loadP rfl rfl rfl au_l ?_
                refine VX.nil ?_
                refine AnyV.more [3] (by kernel_rfl) (by simp) ?_
                refine allI_cons ?_ ?_
                · refine anyV_op rfl ?_
                  refine VX.callP0 rfl rfl rfl (planeOf_p tw th tpx htw2 hth2 htl htb) ?_
                  refine VX.nil ?_
                  refine AnyV.more [6] (by kernel_rfl) (by simp) ?_
                  refine allI_cons ?_ ?_
                  · refine anyV_op rfl ?_
                    refine VX.store rfl rfl rfl rfl rfl au_sR rfl ?_
                    refine VX.nil ?_
                    refine AnyV.more [7] (by kernel_rfl) (by simp) ?_
                    refine allI_cons ?_ ?_
                    · refine anyV_op rfl ?_
                      refine VX.store rfl rfl rfl rfl rfl au_sR rfl ?_
                      refine VX.nil ?_
                      exact AnyV.fin (by kernel_rfl) (tile_leaf 1 2 3 trivial rfl rfl rfl rfl rfl rfl rfl rfl rfl rfl rfl rfl rfl)
                    exact trivial
                  exact trivial
                exact trivial
              exact trivial
            refine allI_cons ?_ ?_
            · refine anyV_op rfl ?_
              first | refine VX.meek rfl ?_ | refine VX.loadI rfl rfl au_l ?_ | refine VX.loadP rfl rfl rfl au_l ?_
              refine VX.nil ?_
              refine AnyV.more [1] (by kernel_rfl) (by simp) ?_
              refine allI_cons ?_ ?_
              · refine anyV_op rfl ?_
                refine VX.callT rfl rfl (CallT.frame (planeOf_t w h px hw hh hl hpb) [] rfl au_ci au_ci ?_)
                rintro _ _ ⟨rfl, rfl⟩
                refine frK au_co au_co ?_
                refine VX.nil ?_
                refine AnyV.more [3] (by kernel_rfl) (by simp) ?_
                refine allI_cons ?_ ?_
                · refine anyV_op rfl ?_
                  refine VX.callP0 rfl rfl rfl (planeOf_p tw th tpx htw2 hth2 htl htb) ?_
                  refine VX.nil ?_
                  refine AnyV.more [6] (by kernel_rfl) (by simp) ?_
                  refine allI_cons ?_ ?_
                  · refine anyV_op rfl ?_
                    refine VX.store rfl rfl rfl rfl rfl au_sR rfl ?_
                    refine VX.nil ?_
                    refine AnyV.more [7] (by kernel_rfl) (by simp) ?_
                    refine allI_cons ?_ ?_
                    · refine anyV_op rfl ?_
                      refine VX.store rfl rfl rfl rfl rfl au_sR rfl ?_
                      refine VX.nil ?_
                      exact AnyV.fin (by kernel_rfl) (tile_leaf 1 2 3 trivial rfl rfl rfl rfl rfl rfl rfl rfl rfl rfl rfl rfl rfl)
                    exact trivial
                  exact trivial
                exact trivial
              exact trivial
            exact trivial
          refine allI_cons ?_ ?_
          · refine anyV_op rfl ?_
            first | refine VX.meek rfl ?_ | refine VX.loadI rfl rfl au_l ?_ | refine VX.loadP rfl rfl rfl au_l ?_
            refine VX.nil ?_
            refine AnyV.more [0] (by kernel_rfl) (by simp) ?_
            refine allI_cons ?_ ?_
            · refine anyV_op rfl ?_
              first | refine VX.meek rfl ?_ | refine VX.loadI rfl rfl au_l ?_ | refine VX.loadP rfl rfl rfl au_l ?_
              refine VX.nil ?_
              refine AnyV.more [1] (by kernel_rfl) (by simp) ?_
              refine allI_cons ?_ ?_
              · refine anyV_op rfl ?_
                refine VX.callT rfl rfl (CallT.frame (planeOf_t w h px hw hh hl hpb) [] rfl au_ci au_ci ?_)
                rintro _ _ ⟨rfl, rfl⟩
                refine frK au_co au_co ?_
                refine VX.nil ?_
                refine AnyV.more [3] (by kernel_rfl) (by simp) ?_
                refine allI_cons ?_ ?_
                · refine anyV_op rfl ?_
                  refine VX.callP0 rfl rfl rfl (planeOf_p tw th tpx htw2 hth2 htl htb) ?_
                  refine VX.nil ?_
                  refine AnyV.more [6] (by kernel_rfl) (by simp) ?_
                  refine allI_cons ?_ ?_
                  · refine anyV_op rfl ?_
                    refine VX.store rfl rfl rfl rfl rfl au_sR rfl ?_
                    refine VX.nil ?_
                    refine AnyV.more [7] (by kernel_rfl) (by simp) ?_
                    refine allI_cons ?_ ?_
                    · refine anyV_op rfl ?_
                      refine VX.store rfl rfl rfl rfl rfl au_sR rfl ?_
                      refine VX.nil ?_
                      exact AnyV.fin (by kernel_rfl) (tile_leaf 1 2 3 trivial rfl rfl rfl rfl rfl rfl rfl rfl rfl rfl rfl rfl rfl)
                    exact trivial
                  exact trivial
                exact trivial
              exact trivial
            exact trivial
          exact trivial
        exact trivial
      refine allI_cons ?_ ?_
      · refine anyV_op rfl ?_
        refine VX.new rfl rfl ?_
        refine VX.nil ?_
        refine AnyV.more [0, 2, 4] (by kernel_rfl) (by simp) ?_
        refine allI_cons ?_ ?_
        · refine anyV_op rfl ?_
          first | refine VX.meek rfl ?_ | refine VX.loadI rfl rfl au_l ?_ | refine VX.loadP rfl rfl rfl au_l ?_
          refine VX.nil ?_
          refine AnyV.more [1, 2, 4] (by kernel_rfl) (by simp) ?_
          refine allI_cons ?_ ?_
          · refine anyV_op rfl ?_
            refine VX.callT rfl rfl (CallT.frame (planeOf_t w h px hw hh hl hpb) [] rfl au_ci au_ci ?_)
            rintro _ _ ⟨rfl, rfl⟩
            refine frK au_co au_co ?_
            refine VX.nil ?_
            refine AnyV.more [2, 4] (by kernel_rfl) (by simp) ?_
            refine allI_cons ?_ ?_
            · refine anyV_op rfl ?_
              first | refine VX.meek rfl ?_ | refine VX.loadI rfl rfl au_l ?_ | refine VX.loadP rfl rfl rfl au_l ?_
              refine VX.nil ?_
              refine AnyV.more [3, 4] (by kernel_rfl) (by simp) ?_
              refine allI_cons ?_ ?_
              · refine anyV_op rfl ?_
                refine VX.callP0 rfl rfl rfl (planeOf_p tw th tpx htw2 hth2 htl htb) ?_
                refine VX.nil ?_
                refine AnyV.more [4] (by kernel_rfl) (by simp) ?_
                refine allI_cons ?_ ?_
                · refine anyV_op rfl ?_
                  refine VX.new rfl rfl ?_
                  refine VX.nil ?_
                  refine AnyV.more [6] (by kernel_rfl) (by simp) ?_
                  refine allI_cons ?_ ?_
                  · refine anyV_op rfl ?_
                    refine VX.store rfl rfl rfl rfl rfl au_sR rfl ?_
                    refine VX.nil ?_
                    refine AnyV.more [7] (by kernel_rfl) (by simp) ?_
                    refine allI_cons ?_ ?_
                    · refine anyV_op rfl ?_
                      refine VX.store rfl rfl rfl rfl rfl au_sR rfl ?_
                      refine VX.nil ?_
                      exact AnyV.fin (by kernel_rfl) (tile_leaf 3 1 2 trivial rfl rfl rfl rfl rfl rfl rfl rfl rfl rfl rfl rfl rfl)
                    exact trivial
                  exact trivial
                exact trivial
              refine allI_cons ?_ ?_
              · refine anyV_op rfl ?_
                refine VX.new rfl rfl ?_
                refine VX.nil ?_
                refine AnyV.more [3] (by kernel_rfl) (by simp) ?_
                refine allI_cons ?_ ?_
                · refine anyV_op rfl ?_
                  refine VX.callP0 rfl rfl rfl (planeOf_p tw th tpx htw2 hth2 htl htb) ?_
                  refine VX.nil ?_
                  refine AnyV.more [6] (by kernel_rfl) (by simp) ?_
                  refine allI_cons ?_ ?_
                  · refine anyV_op rfl ?_
                    refine VX.store rfl rfl rfl rfl rfl au_sR rfl ?_
                    refine VX.nil ?_
                    refine AnyV.more [7] (by kernel_rfl) (by simp) ?_
                    refine allI_cons ?_ ?_
                    · refine anyV_op rfl ?_
                      refine VX.store rfl rfl rfl rfl rfl au_sR rfl ?_
                      refine VX.nil ?_
                      exact AnyV.fin (by kernel_rfl) (tile_leaf 3 1 2 trivial rfl rfl rfl rfl rfl rfl rfl rfl rfl rfl rfl rfl rfl)
                    exact trivial
                  exact trivial
                exact trivial
              exact trivial
            refine allI_cons ?_ ?_
            · refine anyV_op rfl ?_
              refine VX.new rfl rfl ?_
              refine VX.nil ?_
              refine AnyV.more [2] (by kernel_rfl) (by simp) ?_
              refine allI_cons ?_ ?_
              · refine anyV_op rfl ?_
                first | refine VX.meek rfl ?_ | refine VX.loadI rfl rfl au_l ?_ | refine VX.loadP rfl rfl rfl au_l ?_
                refine VX.nil ?_
                refine AnyV.more [3] (by kernel_rfl) (by simp) ?_
                refine allI_cons ?_ ?_
                · refine anyV_op rfl ?_
                  refine VX.callP0 rfl rfl rfl (planeOf_p tw th tpx htw2 hth2 htl htb) ?_
                  refine VX.nil ?_
                  refine AnyV.more [6] (by kernel_rfl) (by simp) ?_
                  refine allI_cons ?_ ?_
                  · refine anyV_op rfl ?_
                    refine VX.store rfl rfl rfl rfl rfl au_sR rfl ?_
                    refine VX.nil ?_
                    refine AnyV.more [7] (by kernel_rfl) (by simp) ?_
                    refine allI_cons ?_ ?_
                    · refine anyV_op rfl ?_
                      refine VX.store rfl rfl rfl rfl rfl au_sR rfl ?_
                      refine VX.nil ?_
                      exact AnyV.fin (by kernel_rfl) (tile_leaf 3 1 2 trivial rfl rfl rfl rfl rfl rfl rfl rfl rfl rfl rfl rfl rfl)
                    exact trivial
                  exact trivial
                exact trivial
              exact trivial
            exact trivial
          refine allI_cons ?_ ?_
          · refine anyV_op rfl ?_
            first | refine VX.meek rfl ?_ | refine VX.loadI rfl rfl au_l ?_ | refine VX.loadP rfl rfl rfl au_l ?_
            refine VX.nil ?_
            refine AnyV.more [1, 4] (by kernel_rfl) (by simp) ?_
            refine allI_cons ?_ ?_
            · refine anyV_op rfl ?_
              refine VX.callT rfl rfl (CallT.frame (planeOf_t w h px hw hh hl hpb) [] rfl au_ci au_ci ?_)
              rintro _ _ ⟨rfl, rfl⟩
              refine frK au_co au_co ?_
              refine VX.nil ?_
              refine AnyV.more [3, 4] (by kernel_rfl) (by simp) ?_
              refine allI_cons ?_ ?_
              · refine anyV_op rfl ?_
                refine VX.callP0 rfl rfl rfl (planeOf_p tw th tpx htw2 hth2 htl htb) ?_
                refine VX.nil ?_
                refine AnyV.more [4] (by kernel_rfl) (by simp) ?_
                refine allI_cons ?_ ?_
                · refine anyV_op rfl ?_
                  refine VX.new rfl rfl ?_
                  refine VX.nil ?_
                  refine AnyV.more [6] (by kernel_rfl) (by simp) ?_
                  refine allI_cons ?_ ?_
                  · refine anyV_op rfl ?_
                    refine VX.store rfl rfl rfl rfl rfl au_sR rfl ?_
                    refine VX.nil ?_
                    refine AnyV.more [7] (by kernel_rfl) (by simp) ?_
                    refine allI_cons ?_ ?_
                    · refine anyV_op rfl ?_
                      refine VX.store rfl rfl rfl rfl rfl au_sR rfl ?_
                      refine VX.nil ?_
                      exact AnyV.fin (by kernel_rfl) (tile_leaf 3 1 2 trivial rfl rfl rfl rfl rfl rfl rfl rfl rfl rfl rfl rfl rfl)
                    exact trivial
                  exact trivial
                exact trivial
              refine allI_cons ?_ ?_
              · refine anyV_op rfl ?_
                refine VX.new rfl rfl ?_
                refine VX.nil ?_
                refine AnyV.more [3] (by kernel_rfl) (by simp) ?_
                refine allI_cons ?_ ?_
                · refine anyV_op rfl ?_
                  refine VX.callP0 rfl rfl rfl (planeOf_p tw th tpx htw2 hth2 htl htb) ?_
                  refine VX.nil ?_
                  refine AnyV.more [6] (by kernel_rfl) (by simp) ?_
                  refine allI_cons ?_ ?_
                  · refine anyV_op rfl ?_
                    refine VX.store rfl rfl rfl rfl rfl au_sR rfl ?_
                    refine VX.nil ?_
                    refine AnyV.more [7] (by kernel_rfl) (by simp) ?_
                    refine allI_cons ?_ ?_
                    · refine anyV_op rfl ?_
                      refine VX.store rfl rfl rfl rfl rfl au_sR rfl ?_
                      refine VX.nil ?_
                      exact AnyV.fin (by kernel_rfl) (tile_leaf 3 1 2 trivial rfl rfl rfl rfl rfl rfl rfl rfl rfl rfl rfl rfl rfl)
                    exact trivial
                  exact trivial
                exact trivial
              exact trivial
            refine allI_cons ?_ ?_
            · refine anyV_op rfl ?_
              refine VX.new rfl rfl ?_
              refine VX.nil ?_
              refine AnyV.more [1] (by kernel_rfl) (by simp) ?_
              refine allI_cons ?_ ?_
              · refine anyV_op rfl ?_
                refine VX.callT rfl rfl (CallT.frame (planeOf_t w h px hw hh hl hpb) [] rfl au_ci au_ci ?_)
                rintro _ _ ⟨rfl, rfl⟩
                refine frK au_co au_co ?_
                refine VX.nil ?_
                refine AnyV.more [3] (by kernel_rfl) (by simp) ?_
                refine allI_cons ?_ ?_
                · refine anyV_op rfl ?_
                  refine VX.callP0 rfl rfl rfl (planeOf_p tw th tpx htw2 hth2 htl htb) ?_
                  refine VX.nil ?_
                  refine AnyV.more [6] (by kernel_rfl) (by simp) ?_
                  refine allI_cons ?_ ?_
                  · refine anyV_op rfl ?_
                    refine VX.store rfl rfl rfl rfl rfl au_sR rfl ?_
                    refine VX.nil ?_
                    refine AnyV.more [7] (by kernel_rfl) (by simp) ?_
                    refine allI_cons ?_ ?_
                    · refine anyV_op rfl ?_
                      refine VX.store rfl rfl rfl rfl rfl au_sR rfl ?_
                      refine VX.nil ?_
                      exact AnyV.fin (by kernel_rfl) (tile_leaf 2 1 3 trivial rfl rfl rfl rfl rfl rfl rfl rfl rfl rfl rfl rfl rfl)
                    exact trivial
                  exact trivial
                exact trivial
              exact trivial
            exact trivial
          refine allI_cons ?_ ?_
          · refine anyV_op rfl ?_
            refine VX.new rfl rfl ?_
            refine VX.nil ?_
            refine AnyV.more [1, 2] (by kernel_rfl) (by simp) ?_
            refine allI_cons ?_ ?_
            · refine anyV_op rfl ?_
              refine VX.callT rfl rfl (CallT.frame (planeOf_t w h px hw hh hl hpb) [] rfl au_ci au_ci ?_)
              rintro _ _ ⟨rfl, rfl⟩
              refine frK au_co au_co ?_
              refine VX.nil ?_
              refine AnyV.more [2] (by kernel_rfl) (by simp) ?_
              refine allI_cons ?_ ?_
              · refine anyV_op rfl ?_
                first | refine VX.meek rfl ?_ | refine VX.loadI rfl rfl au_l ?_ | refine VX.loadP rfl rfl rfl au_l ?_
                refine VX.nil ?_
                refine AnyV.more [3] (by kernel_rfl) (by simp) ?_
                refine allI_cons ?_ ?_
                · refine anyV_op rfl ?_
                  refine VX.callP0 rfl rfl rfl (planeOf_p tw th tpx htw2 hth2 htl htb) ?_
                  refine VX.nil ?_
                  refine AnyV.more [6] (by kernel_rfl) (by simp) ?_
                  refine allI_cons ?_ ?_
                  · refine anyV_op rfl ?_
                    refine VX.store rfl rfl rfl rfl rfl au_sR rfl ?_
                    refine VX.nil ?_
                    refine AnyV.more [7] (by kernel_rfl) (by simp) ?_
                    refine allI_cons ?_ ?_
                    · refine anyV_op rfl ?_
                      refine VX.store rfl rfl rfl rfl rfl au_sR rfl ?_
                      refine VX.nil ?_
                      exact AnyV.fin (by kernel_rfl) (tile_leaf 2 1 3 trivial rfl rfl rfl rfl rfl rfl rfl rfl rfl rfl rfl rfl rfl)
                    exact trivial
                  exact trivial
                exact trivial
              exact trivial
            refine allI_cons ?_ ?_
            · refine anyV_op rfl ?_
              first | refine VX.meek rfl ?_ | refine VX.loadI rfl rfl au_l ?_ | refine VX.loadP rfl rfl rfl au_l ?_
              refine VX.nil ?_
              refine AnyV.more [1] (by kernel_rfl) (by simp) ?_
              refine allI_cons ?_ ?_
              · refine anyV_op rfl ?_
                refine VX.callT rfl rfl (CallT.frame (planeOf_t w h px hw hh hl hpb) [] rfl au_ci au_ci ?_)
                rintro _ _ ⟨rfl, rfl⟩
                refine frK au_co au_co ?_
                refine VX.nil ?_
                refine AnyV.more [3] (by kernel_rfl) (by simp) ?_
                refine allI_cons ?_ ?_
                · refine anyV_op rfl ?_
                  refine VX.callP0 rfl rfl rfl (planeOf_p tw th tpx htw2 hth2 htl htb) ?_
                  refine VX.nil ?_
                  refine AnyV.more [6] (by kernel_rfl) (by simp) ?_
                  refine allI_cons ?_ ?_
                  · refine anyV_op rfl ?_
                    refine VX.store rfl rfl rfl rfl rfl au_sR rfl ?_
                    refine VX.nil ?_
                    refine AnyV.more [7] (by kernel_rfl) (by simp) ?_
                    refine allI_cons ?_ ?_
                    · refine anyV_op rfl ?_
                      refine VX.store rfl rfl rfl rfl rfl au_sR rfl ?_
                      refine VX.nil ?_
                      exact AnyV.fin (by kernel_rfl) (tile_leaf 2 1 3 trivial rfl rfl rfl rfl rfl rfl rfl rfl rfl rfl rfl rfl rfl)
                    exact trivial
                  exact trivial
                exact trivial
              exact trivial
            exact trivial
          exact trivial
        refine allI_cons ?_ ?_
        · refine anyV_op rfl ?_
          first | refine VX.meek rfl ?_ | refine VX.loadI rfl rfl au_l ?_ | refine VX.loadP rfl rfl rfl au_l ?_
          refine VX.nil ?_
          refine AnyV.more [0, 4] (by kernel_rfl) (by simp) ?_
          refine allI_cons ?_ ?_
          · refine anyV_op rfl ?_
            first | refine VX.meek rfl ?_ | refine VX.loadI rfl rfl au_l ?_ | refine VX.loadP rfl rfl rfl au_l ?_
            refine VX.nil ?_
            refine AnyV.more [1, 4] (by kernel_rfl) (by simp) ?_
            refine allI_cons ?_ ?_
            · refine anyV_op rfl ?_
              refine VX.callT rfl rfl (CallT.frame (planeOf_t w h px hw hh hl hpb) [] rfl au_ci au_ci ?_)
              rintro _ _ ⟨rfl, rfl⟩
              refine frK au_co au_co ?_
              refine VX.nil ?_
              refine AnyV.more [3, 4] (by kernel_rfl) (by simp) ?_
              refine allI_cons ?_ ?_
              · refine anyV_op rfl ?_
                refine VX.callP0 rfl rfl rfl (planeOf_p tw th tpx htw2 hth2 htl htb) ?_
                refine VX.nil ?_
                refine AnyV.more [4] (by kernel_rfl) (by simp) ?_
                refine allI_cons ?_ ?_
                · refine anyV_op rfl ?_
                  refine VX.new rfl rfl ?_
                  refine VX.nil ?_
                  refine AnyV.more [6] (by kernel_rfl) (by simp) ?_
                  refine allI_cons ?_ ?_
                  · refine anyV_op rfl ?_
                    refine VX.store rfl rfl rfl rfl rfl au_sR rfl ?_
                    refine VX.nil ?_
                    refine AnyV.more [7] (by kernel_rfl) (by simp) ?_
                    refine allI_cons ?_ ?_
                    · refine anyV_op rfl ?_
                      refine VX.store rfl rfl rfl rfl rfl au_sR rfl ?_
                      refine VX.nil ?_
                      exact AnyV.fin (by kernel_rfl) (tile_leaf 3 1 2 trivial rfl rfl rfl rfl rfl rfl rfl rfl rfl rfl rfl rfl rfl)
                    exact trivial
                  exact trivial
                exact trivial
              refine allI_cons ?_ ?_
              · refine anyV_op rfl ?_
                refine VX.new rfl rfl ?_
                refine VX.nil ?_
                refine AnyV.more [3] (by kernel_rfl) (by simp) ?_
                refine allI_cons ?_ ?_
                · refine anyV_op rfl ?_
                  refine VX.callP0 rfl rfl rfl (planeOf_p tw th tpx htw2 hth2 htl htb) ?_
                  refine VX.nil ?_
                  refine AnyV.more [6] (by kernel_rfl) (by simp) ?_
                  refine allI_cons ?_ ?_
                  · refine anyV_op rfl ?_
                    refine VX.store rfl rfl rfl rfl rfl au_sR rfl ?_
                    refine VX.nil ?_
                    refine AnyV.more [7] (by kernel_rfl) (by simp) ?_
                    refine allI_cons ?_ ?_
                    · refine anyV_op rfl ?_
                      refine VX.store rfl rfl rfl rfl rfl au_sR rfl ?_
                      refine VX.nil ?_
                      exact AnyV.fin (by kernel_rfl) (tile_leaf 3 1 2 trivial rfl rfl rfl rfl rfl rfl rfl rfl rfl rfl rfl rfl rfl)
                    exact trivial
                  exact trivial
                exact trivial
              exact trivial
            refine allI_cons ?_ ?_
            · refine anyV_op rfl ?_
              refine VX.new rfl rfl ?_
              refine VX.nil ?_
              refine AnyV.more [1] (by kernel_rfl) (by simp) ?_
              refine allI_cons ?_ ?_
              · refine anyV_op rfl ?_
                refine VX.callT rfl rfl (CallT.frame (planeOf_t w h px hw hh hl hpb) [] rfl au_ci au_ci ?_)
                rintro _ _ ⟨rfl, rfl⟩
                refine frK au_co au_co ?_
                refine VX.nil ?_
                refine AnyV.more [3] (by kernel_rfl) (by simp) ?_
                refine allI_cons ?_ ?_
                · refine anyV_op rfl ?_
                  refine VX.callP0 rfl rfl rfl (planeOf_p tw th tpx htw2 hth2 htl htb) ?_
                  refine VX.nil ?_
                  refine AnyV.more [6] (by kernel_rfl) (by simp) ?_
                  refine allI_cons ?_ ?_
                  · refine anyV_op rfl ?_
                    refine VX.store rfl rfl rfl rfl rfl au_sR rfl ?_
                    refine VX.nil ?_
                    refine AnyV.more [7] (by kernel_rfl) (by simp) ?_
                    refine allI_cons ?_ ?_
                    · refine anyV_op rfl ?_
                      refine VX.store rfl rfl rfl rfl rfl au_sR rfl ?_
                      refine VX.nil ?_
                      exact AnyV.fin (by kernel_rfl) (tile_leaf 2 1 3 trivial rfl rfl rfl rfl rfl rfl rfl rfl rfl rfl rfl rfl rfl)
                    exact trivial
                  exact trivial
                exact trivial
              exact trivial
            exact trivial
          refine allI_cons ?_ ?_
          · refine anyV_op rfl ?_
            refine VX.new rfl rfl ?_
            refine VX.nil ?_
            refine AnyV.more [0] (by kernel_rfl) (by simp) ?_
            refine allI_cons ?_ ?_
            · refine anyV_op rfl ?_
              first | refine VX.meek rfl ?_ | refine VX.loadI rfl rfl au_l ?_ | refine VX.loadP rfl rfl rfl au_l ?_
              refine VX.nil ?_
              refine AnyV.more [1] (by kernel_rfl) (by simp) ?_
              refine allI_cons ?_ ?_
              · refine anyV_op rfl ?_
                refine VX.callT rfl rfl (CallT.frame (planeOf_t w h px hw hh hl hpb) [] rfl au_ci au_ci ?_)
                rintro _ _ ⟨rfl, rfl⟩
                refine frK au_co au_co ?_
                refine VX.nil ?_
                refine AnyV.more [3] (by kernel_rfl) (by simp) ?_
                refine allI_cons ?_ ?_
                · refine anyV_op rfl ?_
                  refine VX.callP0 rfl rfl rfl (planeOf_p tw th tpx htw2 hth2 htl htb) ?_
                  refine VX.nil ?_
                  refine AnyV.more [6] (by kernel_rfl) (by simp) ?_
                  refine allI_cons ?_ ?_
                  · refine anyV_op rfl ?_
                    refine VX.store rfl rfl rfl rfl rfl au_sR rfl ?_
                    refine VX.nil ?_
                    refine AnyV.more [7] (by kernel_rfl) (by simp) ?_
                    refine allI_cons ?_ ?_
                    · refine anyV_op rfl ?_
                      refine VX.store rfl rfl rfl rfl rfl au_sR rfl ?_
                      refine VX.nil ?_
                      exact AnyV.fin (by kernel_rfl) (tile_leaf 2 1 3 trivial rfl rfl rfl rfl rfl rfl rfl rfl rfl rfl rfl rfl rfl)
                    exact trivial
                  exact trivial
                exact trivial
              exact trivial
            exact trivial
          exact trivial
        refine allI_cons ?_ ?_
        · refine anyV_op rfl ?_
          refine VX.new rfl rfl ?_
          refine VX.nil ?_
          refine AnyV.more [0, 2] (by kernel_rfl) (by simp) ?_
          refine allI_cons ?_ ?_
          · refine anyV_op rfl ?_
            first | refine VX.meek rfl ?_ | refine VX.loadI rfl rfl au_l ?_ | refine VX.loadP rfl rfl rfl au_l ?_
            refine VX.nil ?_
            refine AnyV.more [1, 2] (by kernel_rfl) (by simp) ?_
            refine allI_cons ?_ ?_
            · refine anyV_op rfl ?_
              refine VX.callT rfl rfl (CallT.frame (planeOf_t w h px hw hh hl hpb) [] rfl au_ci au_ci ?_)
              rintro _ _ ⟨rfl, rfl⟩
              refine frK au_co au_co ?_
              refine VX.nil ?_
              refine AnyV.more [2] (by kernel_rfl) (by simp) ?_
              refine allI_cons ?_ ?_
              · refine anyV_op rfl ?_
                first | refine VX.meek rfl ?_ | refine VX.loadI rfl rfl au_l ?_ | refine VX.loadP rfl rfl rfl au_l ?_
                refine VX.nil ?_
                refine AnyV.more [3] (by kernel_rfl) (by simp) ?_
                refine allI_cons ?_ ?_
                · refine anyV_op rfl ?_
                  refine VX.callP0 rfl rfl rfl (planeOf_p tw th tpx htw2 hth2 htl htb) ?_
                  refine VX.nil ?_
                  refine AnyV.more [6] (by kernel_rfl) (by simp) ?_
                  refine allI_cons ?_ ?_
                  · refine anyV_op rfl ?_
                    refine VX.store rfl rfl rfl rfl rfl au_sR rfl ?_
                    refine VX.nil ?_
                    refine AnyV.more [7] (by kernel_rfl) (by simp) ?_
                    refine allI_cons ?_ ?_
                    · refine anyV_op rfl ?_
                      refine VX.store rfl rfl rfl rfl rfl au_sR rfl ?_
                      refine VX.nil ?_
                      exact AnyV.fin (by kernel_rfl) (tile_leaf 2 1 3 trivial rfl rfl rfl rfl rfl rfl rfl rfl rfl rfl rfl rfl rfl)
                    exact trivial
                  exact trivial
                exact trivial
              exact trivial
            refine allI_cons ?_ ?_
            · refine anyV_op rfl ?_
              first | refine VX.meek rfl ?_ | refine VX.loadI rfl rfl au_l ?_ | refine VX.loadP rfl rfl rfl au_l ?_
              refine VX.nil ?_
              refine AnyV.more [1] (by kernel_rfl) (by simp) ?_
              refine allI_cons ?_ ?_
              · refine anyV_op rfl ?_
                refine VX.callT rfl rfl (CallT.frame (planeOf_t w h px hw hh hl hpb) [] rfl au_ci au_ci ?_)
                rintro _ _ ⟨rfl, rfl⟩
                refine frK au_co au_co ?_
                refine VX.nil ?_
                refine AnyV.more [3] (by kernel_rfl) (by simp) ?_
                refine allI_cons ?_ ?_
                · refine anyV_op rfl ?_
                  refine VX.callP0 rfl rfl rfl (planeOf_p tw th tpx htw2 hth2 htl htb) ?_
                  refine VX.nil ?_
                  refine AnyV.more [6] (by kernel_rfl) (by simp) ?_
                  refine allI_cons ?_ ?_
                  · refine anyV_op rfl ?_
                    refine VX.store rfl rfl rfl rfl rfl au_sR rfl ?_
                    refine VX.nil ?_
                    refine AnyV.more [7] (by kernel_rfl) (by simp) ?_
                    refine allI_cons ?_ ?_
                    · refine anyV_op rfl ?_
                      refine VX.store rfl rfl rfl rfl rfl au_sR rfl ?_
                      refine VX.nil ?_
                      exact AnyV.fin (by kernel_rfl) (tile_leaf 2 1 3 trivial rfl rfl rfl rfl rfl rfl rfl rfl rfl rfl rfl rfl rfl)
                    exact trivial
                  exact trivial
                exact trivial
              exact trivial
            exact trivial
          refine allI_cons ?_ ?_
          · refine anyV_op rfl ?_
            first | refine VX.meek rfl ?_ | refine VX.loadI rfl rfl au_l ?_ | refine VX.loadP rfl rfl rfl au_l ?_
            refine VX.nil ?_
            refine AnyV.more [0] (by kernel_rfl) (by simp) ?_
            refine allI_cons ?_ ?_
            · refine anyV_op rfl ?_
              first | refine VX.meek rfl ?_ | refine VX.loadI rfl rfl au_l ?_ | refine VX.loadP rfl rfl rfl au_l ?_
              refine VX.nil ?_
              refine AnyV.more [1] (by kernel_rfl) (by simp) ?_
              refine allI_cons ?_ ?_
              · refine anyV_op rfl ?_
                refine VX.callT rfl rfl (CallT.frame (planeOf_t w h px hw hh hl hpb) [] rfl au_ci au_ci ?_)
                rintro _ _ ⟨rfl, rfl⟩
                refine frK au_co au_co ?_
                refine VX.nil ?_
                refine AnyV.more [3] (by kernel_rfl) (by simp) ?_
                refine allI_cons ?_ ?_
                · refine anyV_op rfl ?_
                  refine VX.callP0 rfl rfl rfl (planeOf_p tw th tpx htw2 hth2 htl htb) ?_
                  refine VX.nil ?_
                  refine AnyV.more [6] (by kernel_rfl) (by simp) ?_
                  refine allI_cons ?_ ?_
                  · refine anyV_op rfl ?_
                    refine VX.store rfl rfl rfl rfl rfl au_sR rfl ?_
                    refine VX.nil ?_
                    refine AnyV.more [7] (by kernel_rfl) (by simp) ?_
                    refine allI_cons ?_ ?_
                    · refine anyV_op rfl ?_
                      refine VX.store rfl rfl rfl rfl rfl au_sR rfl ?_
                      refine VX.nil ?_
                      exact AnyV.fin (by kernel_rfl) (tile_leaf 2 1 3 trivial rfl rfl rfl rfl rfl rfl rfl rfl rfl rfl rfl rfl rfl)
                    exact trivial
                  exact trivial
                exact trivial
              exact trivial
            exact trivial
          exact trivial
        exact trivial
      exact trivial
    refine VC.seq ?_
    refine VC.reg tab_ok [] rfl ?_
    first | refine VX.meek rfl ?_ | refine VX.loadI rfl rfl au_l ?_ | refine VX.loadP rfl rfl rfl au_l ?_
    iterate 2 refine VX.meek rfl ?_
    first | refine VX.meek rfl ?_ | refine VX.loadI rfl rfl au_l ?_ | refine VX.loadP rfl rfl rfl au_l ?_
    iterate 2 refine VX.meek rfl ?_
    refine' VX.merge (d := 39) [_, _, _, _, _, _] rfl ?_ rfl ?_
    rotate_left
    · refine VX.guard rfl rfl (fun hb4_5 => ?_) (fun hb4_5 => ?_)
      · have ghb4_5 := hb4_5
        try simp only [au_std, Bool.not_true, Bool.not_false] at ghb4_5
        first | refine VX.meek rfl ?_ | refine VX.loadI rfl rfl au_l ?_ | refine VX.loadP rfl rfl rfl au_l ?_
        refine VX.guardT rfl rfl hb4_5 ?_
        refine VX.meek rfl ?_
        refine VX.guardT rfl rfl hb4_5 ?_
        refine VX.meek rfl ?_
        refine VX.guardT rfl rfl hb4_5 ?_
        first | refine VX.meek rfl ?_ | refine VX.loadI rfl rfl au_l ?_ | refine VX.loadP rfl rfl rfl au_l ?_
        refine VX.guardT rfl rfl hb4_5 ?_
        refine VX.meek rfl ?_
        refine VX.pickO rfl (fun _ => rfl) ?_
        exact VX.nil ⟨rfl, rfl⟩
      · refine VX.guardF rfl rfl hb4_5 ?_
        refine VX.guardF rfl rfl hb4_5 ?_
        refine VX.guardF rfl rfl hb4_5 ?_
        refine VX.guardF rfl rfl hb4_5 ?_
        exact VX.pickO rfl (fun h => absurd (h.symm.trans hb4_5) (by decide)) (VX.nil ⟨rfl, rfl⟩)
    refine VX.nil ?_
    refine VC.cond rfl (fun hc1 => ?_) (fun hc1 => ?_)
    · (try simp only [au_std] at hc1); have htw0 : tw = 0 := (by omega); rw [if_pos htw0]
      refine VC.reg tab_ok [] rfl ?_
      first | refine VX.meek rfl ?_ | refine VX.loadI rfl rfl au_l ?_ | refine VX.loadP rfl rfl rfl au_l ?_
      refine VX.store rfl rfl rfl rfl rfl au_sR rfl ?_
      refine VX.nil ?_
      refine VC.ret ?_
      refine ⟨trivial, _, rfl, Cv.agg (cv_g (Cv.pure (encL_pure cU _)))⟩
    · (try simp only [au_std] at hc1); have htw0 : ¬ tw = 0 := (by omega); have htw : 1 ≤ tw ∧ tw ≤ 128 := (by omega); have hth : 1 ≤ th ∧ th ≤ 128 := (by omega); rw [if_neg htw0]
      refine VC.skip ?_
      refine VC.drwC tab_ok [] [_, _, _, _, _, _, _] ([.d, .d]) [false, false, false, false, true, false, false] rfl (by kernel_rfl) (by kernel_rfl) (by kernel_rfl) (by repeat' first | exact seen_nil | refine seen_dead ?_ | refine seen_same ?_) ?_
      refine VD.meek rfl ?_
      refine VD.meek rfl ?_
      refine VD.callP rfl rfl (meet_p hc ht (by omega)) ?_
      refine VD.meek rfl ?_
      refine VD.call (t := rectT ⟨0, 0, w, h⟩) (F1 := [.c [I64 0, I64 0, NIL], .c (encL cU px), .c [I64 0, I64 0, I64 w, I64 h]]) rfl rfl ?_ ?_ ?_
      · refine CallT.frame (prect_t w h px (encL cU px)) [1] rfl au_ci au_ci ?_
        rintro _ _ ⟨rfl, rfl⟩
        refine frK au_co au_co ?_
        exact ⟨rfl, rfl⟩
      · exact (by repeat' first | exact seen_nil | refine seen_dead ?_ | refine seen_same ?_)
      refine VD.callP rfl rfl (hwi) ?_
      refine VD.meek rfl ?_
      refine VD.nil ?_
      refine VX.callT rfl rfl (CallT.frame (each_t w h px px R _ _ (tileF tw th tpx x y) hcs hw hh hl hr.1 hr.2 hlen hins hpb (tileF_bd htb) (fun s a b hs hb ha ha2 hb1 hb2 => tile1_t w h tw th px s tpx x y a b hw hh hl hs htw hth htl hx2 hy2 ha ha2 hb1 hb2)) [1] rfl au_ci au_ci ?_)
      rintro _ _ ⟨rfl, rfl⟩
      refine frK au_co au_co ?_
      refine VX.nil ?_
      refine VC.view ([(13, .iptr [.iptr (plC w h px (.islc (encL cU (paintL w (inL R) (tileF tw th tpx x y) px)) px.length none)) 0] 0), (12, .ptr 0 0)]) ([.c [I64 0, I64 0, NIL]]) [] rfl (by refine ⟨[some 0], rfl, by first | trivial | decide, rfl, ?_, ?_⟩ <;> (repeat' first | exact trivial | exact CvB_n | exact CvB_d | refine CvE_app ?_ ?_ | refine CvE_cons rfl ?_ ?_ | refine CvH_cons ?_ ?_ | refine CvB_c rfl ?_ | fail) <;> first | exact au_v | (first | exact CvL.pure rfl | exact Cv.iptr (CvL.cons (Cv.iptr (cv_pl (Cv.pure (encL_pure cU _)) (Cv.fslc0 ⟨rfl, by simp⟩ (CvL.pure (encL_pure cU _))))) CvL.nil))) ?_
      refine VC.reg tab_ok [] rfl ?_
      first | refine VX.meek rfl ?_ | refine VX.loadI rfl rfl au_l ?_ | refine VX.loadP rfl rfl rfl au_l ?_
      refine VX.callP0 rfl rfl rfl (pgrid_n w h px (paintL w (inL R) (tileF tw th tpx x y) px) px.length hpl hw hh hl (by rw [hpl, hl]) hpb hbd) ?_
      refine VX.store rfl rfl rfl rfl rfl au_sR rfl ?_
      refine VX.nil ?_
      refine VC.ret ?_
      refine ⟨trivial, _, rfl, Cv.agg (cv_g (Cv.pure (encL_pure cU _)))⟩
end
section
open Go.RowKit Go.Sort
set_option maxRecDepth 10000
def rect0 : Rect := ⟨0, 0, 0, 0⟩
theorem right_p (r : Rect) : CallP Tryz.prog 176 [rectT r] (BL (decide (r = rect0) || countsB r)) := by
  refine CallP.intro2 au_pu au_pu ?_
  refine CallT.intro tab_ok Tryz.func176 rfl (by kernel_rfl) (Nat.le_of_ble_eq_true rfl) ?_
  refine VC.reg tab_ok [1] rfl ?_
  refine VX.newI rfl rfl ?_
  refine VX.meek rfl ?_
  refine VX.nil ?_
  refine VC.seq ?_
  refine VC.reg tab_ok [] rfl ?_
  first | refine VX.meek rfl ?_ | refine VX.loadI rfl rfl au_l ?_ | refine VX.loadP rfl rfl rfl au_l ?_
  iterate 2 refine VX.meek rfl ?_
  refine VX.nil ?_
  refine VC.cond rfl (fun hc0 => ?_) (fun hc0 => ?_)
  · have hz : r = rect0 := rect_ext.2 (show r.X = 0 ∧ r.Y = 0 ∧ r.W = 0 ∧ r.H = 0 from by simpa using hc0)
    refine VC.reg tab_ok [] rfl ?_
    refine VX.meek rfl ?_
    refine VX.nil ?_
    refine VC.ret ?_
    exact ⟨trivial, _, rfl, Cv.eq (congrArg BL (by rw [decide_eq_true hz]; rfl)) rfl⟩
  · have hz : ¬ r = rect0 := (fun h => by subst h; simp [rect0] at hc0)
    refine VC.skip ?_
    refine VC.reg tab_ok [] rfl ?_
    refine VX.meek rfl ?_
    first | refine VX.meek rfl ?_ | refine VX.loadI rfl rfl au_l ?_ | refine VX.loadP rfl rfl rfl au_l ?_
    iterate 2 refine VX.meek rfl ?_
    refine' VX.merge (d := 13) [_, _, _, _] rfl ?_ rfl ?_
    rotate_left
    · refine VX.guard rfl rfl (fun hb3_3 => ?_) (fun hb3_3 => ?_)
      · have ghb3_3 := hb3_3
        try simp only [au_std, Bool.not_true, Bool.not_false] at ghb3_3
        refine VX.meek rfl ?_
        refine VX.guardT rfl rfl hb3_3 ?_
        first | refine VX.meek rfl ?_ | refine VX.loadI rfl rfl au_l ?_ | refine VX.loadP rfl rfl rfl au_l ?_
        refine VX.guardT rfl rfl hb3_3 ?_
        refine VX.meek rfl ?_
        refine VX.pickA rfl (fun _ => rfl) ?_
        exact VX.nil ⟨rfl, rfl⟩
      · refine VX.guardF rfl rfl hb3_3 ?_
        refine VX.guardF rfl rfl hb3_3 ?_
        exact VX.pickA rfl (fun h => absurd (h.symm.trans hb3_3) (by decide)) (VX.nil ⟨rfl, rfl⟩)
    refine VX.meek rfl ?_
    refine' VX.merge (d := 18) [_, _, _, _] rfl ?_ rfl ?_
    rotate_left
    · refine VX.guard rfl rfl (fun hb3_8 => ?_) (fun hb3_8 => ?_)
      · have ghb3_8 := hb3_8
        try simp only [au_std, Bool.not_true, Bool.not_false] at ghb3_8
        refine VX.meek rfl ?_
        refine VX.guardT rfl rfl hb3_8 ?_
        first | refine VX.meek rfl ?_ | refine VX.loadI rfl rfl au_l ?_ | refine VX.loadP rfl rfl rfl au_l ?_
        refine VX.guardT rfl rfl hb3_8 ?_
        refine VX.meek rfl ?_
        refine VX.pickA rfl (fun _ => rfl) ?_
        exact VX.nil ⟨rfl, rfl⟩
      · refine VX.guardF rfl rfl hb3_8 ?_
        refine VX.guardF rfl rfl hb3_8 ?_
        exact VX.pickA rfl (fun h => absurd (h.symm.trans hb3_8) (by decide)) (VX.nil ⟨rfl, rfl⟩)
    refine VX.meek rfl ?_
    refine' VX.merge (d := 23) [_, _, _, _] rfl ?_ rfl ?_
    rotate_left
    · refine VX.guard rfl rfl (fun hb3_13 => ?_) (fun hb3_13 => ?_)
      · have ghb3_13 := hb3_13
        try simp only [au_std, Bool.not_true, Bool.not_false] at ghb3_13
        refine VX.meek rfl ?_
        refine VX.guardT rfl rfl hb3_13 ?_
        first | refine VX.meek rfl ?_ | refine VX.loadI rfl rfl au_l ?_ | refine VX.loadP rfl rfl rfl au_l ?_
        refine VX.guardT rfl rfl hb3_13 ?_
        refine VX.meek rfl ?_
        refine VX.pickA rfl (fun _ => rfl) ?_
        exact VX.nil ⟨rfl, rfl⟩
      · refine VX.guardF rfl rfl hb3_13 ?_
        refine VX.guardF rfl rfl hb3_13 ?_
        exact VX.pickA rfl (fun h => absurd (h.symm.trans hb3_13) (by decide)) (VX.nil ⟨rfl, rfl⟩)
    refine VX.meek rfl ?_
    refine' VX.merge (d := 28) [_, _, _, _] rfl ?_ rfl ?_
    rotate_left
    · refine VX.guard rfl rfl (fun hb3_18 => ?_) (fun hb3_18 => ?_)
      · have ghb3_18 := hb3_18
        try simp only [au_std, Bool.not_true, Bool.not_false] at ghb3_18
        refine VX.meek rfl ?_
        refine VX.guardT rfl rfl hb3_18 ?_
        first | refine VX.meek rfl ?_ | refine VX.loadI rfl rfl au_l ?_ | refine VX.loadP rfl rfl rfl au_l ?_
        refine VX.guardT rfl rfl hb3_18 ?_
        refine VX.meek rfl ?_
        refine VX.pickA rfl (fun _ => rfl) ?_
        exact VX.nil ⟨rfl, rfl⟩
      · refine VX.guardF rfl rfl hb3_18 ?_
        refine VX.guardF rfl rfl hb3_18 ?_
        exact VX.pickA rfl (fun h => absurd (h.symm.trans hb3_18) (by decide)) (VX.nil ⟨rfl, rfl⟩)
    refine VX.meek rfl ?_
    refine' VX.merge (d := 33) [_, _, _, _] rfl ?_ rfl ?_
    rotate_left
    · refine VX.guard rfl rfl (fun hb3_23 => ?_) (fun hb3_23 => ?_)
      · have ghb3_23 := hb3_23
        try simp only [au_std, Bool.not_true, Bool.not_false] at ghb3_23
        refine VX.meek rfl ?_
        refine VX.guardT rfl rfl hb3_23 ?_
        first | refine VX.meek rfl ?_ | refine VX.loadI rfl rfl au_l ?_ | refine VX.loadP rfl rfl rfl au_l ?_
        refine VX.guardT rfl rfl hb3_23 ?_
        refine VX.meek rfl ?_
        refine VX.pickA rfl (fun _ => rfl) ?_
        exact VX.nil ⟨rfl, rfl⟩
      · refine VX.guardF rfl rfl hb3_23 ?_
        refine VX.guardF rfl rfl hb3_23 ?_
        exact VX.pickA rfl (fun h => absurd (h.symm.trans hb3_23) (by decide)) (VX.nil ⟨rfl, rfl⟩)
    refine VX.meek rfl ?_
    refine' VX.merge (d := 41) [_, _, _, _, _, _, _] rfl ?_ rfl ?_
    rotate_left
    · refine VX.guard rfl rfl (fun hb3_28 => ?_) (fun hb3_28 => ?_)
      · have ghb3_28 := hb3_28
        try simp only [au_std, Bool.not_true, Bool.not_false] at ghb3_28
        refine VX.meek rfl ?_
        refine VX.guardT rfl rfl hb3_28 ?_
        first | refine VX.meek rfl ?_ | refine VX.loadI rfl rfl au_l ?_ | refine VX.loadP rfl rfl rfl au_l ?_
        refine VX.guardT rfl rfl hb3_28 ?_
        refine VX.meek rfl ?_
        refine VX.guardT rfl rfl hb3_28 ?_
        first | refine VX.meek rfl ?_ | refine VX.loadI rfl rfl au_l ?_ | refine VX.loadP rfl rfl rfl au_l ?_
        refine VX.guardT rfl rfl hb3_28 ?_
        first | refine VX.sub rfl rfl (by omega) ?_ | refine VX.meek rfl ?_
        refine VX.guardT rfl rfl hb3_28 ?_
        refine VX.meek rfl ?_
        refine VX.pickA rfl (fun _ => rfl) ?_
        exact VX.nil ⟨rfl, rfl⟩
      · refine VX.guardF rfl rfl hb3_28 ?_
        refine VX.guardF rfl rfl hb3_28 ?_
        refine VX.guardF rfl rfl hb3_28 ?_
        refine VX.guardF rfl rfl hb3_28 ?_
        refine VX.guardF rfl rfl hb3_28 ?_
        exact VX.pickA rfl (fun h => absurd (h.symm.trans hb3_28) (by decide)) (VX.nil ⟨rfl, rfl⟩)
    refine VX.meek rfl ?_
    refine' VX.merge (d := 49) [_, _, _, _, _, _, _] rfl ?_ rfl ?_
    rotate_left
    · refine VX.guard rfl rfl (fun hb3_36 => ?_) (fun hb3_36 => ?_)
      · have ghb3_36 := hb3_36
        try simp only [au_std, Bool.not_true, Bool.not_false] at ghb3_36
        refine VX.meek rfl ?_
        refine VX.guardT rfl rfl hb3_36 ?_
        first | refine VX.meek rfl ?_ | refine VX.loadI rfl rfl au_l ?_ | refine VX.loadP rfl rfl rfl au_l ?_
        refine VX.guardT rfl rfl hb3_36 ?_
        refine VX.meek rfl ?_
        refine VX.guardT rfl rfl hb3_36 ?_
        first | refine VX.meek rfl ?_ | refine VX.loadI rfl rfl au_l ?_ | refine VX.loadP rfl rfl rfl au_l ?_
        refine VX.guardT rfl rfl hb3_36 ?_
        first | refine VX.sub rfl rfl (by omega) ?_ | refine VX.meek rfl ?_
        refine VX.guardT rfl rfl hb3_36 ?_
        refine VX.meek rfl ?_
        refine VX.pickA rfl (fun _ => rfl) ?_
        exact VX.nil ⟨rfl, rfl⟩
      · refine VX.guardF rfl rfl hb3_36 ?_
        refine VX.guardF rfl rfl hb3_36 ?_
        refine VX.guardF rfl rfl hb3_36 ?_
        refine VX.guardF rfl rfl hb3_36 ?_
        refine VX.guardF rfl rfl hb3_36 ?_
        exact VX.pickA rfl (fun h => absurd (h.symm.trans hb3_36) (by decide)) (VX.nil ⟨rfl, rfl⟩)
    refine VX.meek rfl ?_
    refine VX.nil ?_
    refine VC.ret ?_
    exact ⟨trivial, _, rfl, Cv.eq (congrArg BL (by rw [decide_eq_false hz, Bool.false_or, Bool.eq_iff_iff]; unfold countsB fitsB; simp only [Bool.and_eq_true, decide_eq_true_eq]; omega)) rfl⟩
theorem as_p (r : Rect) : CallP Tryz.prog 160 [rectT r] (rectT (if countsB r = true then r else rect0)) := by
  refine CallP.intro2 au_pu au_pu ?_
  refine CallT.intro tab_ok Tryz.func160 rfl (by kernel_rfl) (Nat.le_of_ble_eq_true rfl) ?_
  refine VC.reg tab_ok [1] rfl ?_
  refine VX.newI rfl rfl ?_
  refine VX.new rfl rfl ?_
  refine VX.nil ?_
  refine VC.seq ?_
  refine VC.reg tab_ok [] rfl ?_
  first | refine VX.meek rfl ?_ | refine VX.loadI rfl rfl au_l ?_ | refine VX.loadP rfl rfl rfl au_l ?_
  refine VX.callP0 rfl rfl rfl (right_p r) ?_
  refine VX.meek rfl ?_
  refine VX.nil ?_
  refine VC.cond rfl (fun hc0 => ?_) (fun hc0 => ?_)
  · have hc : ¬ countsB r = true := (by simp at hc0; simp [hc0]); rw [if_neg hc]
    refine VC.reg tab_ok [] rfl ?_
    refine VX.meek rfl ?_
    refine VX.store rfl rfl rfl rfl rfl au_sR rfl ?_
    refine VX.nil ?_
    refine VC.ret ?_
    exact ⟨trivial, _, rfl, Cv.eq rfl rfl⟩
  · have hc : (if countsB r = true then r else rect0) = r := (by
      by_cases h : countsB r = true
      · rw [if_pos h]
      · rw [if_neg h]; simp [h] at hc0; exact hc0.symm)
    rw [hc]
    refine VC.skip ?_
    refine VC.reg tab_ok [] rfl ?_
    first | refine VX.meek rfl ?_ | refine VX.loadI rfl rfl au_l ?_ | refine VX.loadP rfl rfl rfl au_l ?_
    refine VX.store rfl rfl rfl rfl rfl au_sR rfl ?_
    refine VX.nil ?_
    refine VC.ret ?_
    exact ⟨trivial, _, rfl, Cv.eq rfl rfl⟩
theorem has12_p (r : Rect) (x y : Int) : CallP Tryz.prog 129 [rectT r, I64 x, I64 y] (BL (decide (inL ([r].filter countsB) x y))) := by
  have e : ∀ q : Rect, (q = if countsB r = true then r else rect0) → (decide (inL ([r].filter countsB) x y) = (decide (q.X ≤ x) && decide (x < q.X + q.W) && decide (q.Y ≤ y) && decide (y < q.Y + q.H))) := fun q hq => by
    rw [Bool.eq_iff_iff, decide_eq_true_eq]
    simp only [Bool.and_eq_true, decide_eq_true_eq]
    by_cases h : countsB r = true
    · rw [if_pos h] at hq; subst hq
      rw [List.filter_cons, if_pos h, List.filter_nil, inL_cons]
      have : ¬ inL [] x y := inL_nil
      unfold Rect.has
      constructor
      · rintro (k | k)
        · omega
        · exact absurd k this
      · intro k; exact .inl (by omega)
    · rw [if_neg h] at hq; subst hq
      rw [List.filter_cons, if_neg h, List.filter_nil]
      exact ⟨fun k => absurd k inL_nil, fun k => by unfold rect0 at k; dsimp only at k; omega⟩
  generalize hq : (if countsB r = true then r else rect0) = q at e
  have hqb : -1048576 ≤ q.X ∧ q.X ≤ 1048576 ∧ 0 ≤ q.W ∧ q.W ≤ 2097152 ∧ -1048576 ≤ q.Y ∧ q.Y ≤ 1048576 ∧ 0 ≤ q.H ∧ q.H ≤ 2097152 := by
    by_cases h : countsB r = true
    · rw [if_pos h] at hq; subst hq
      have := countsB_rok h; unfold rok at this; omega
    · rw [if_neg h] at hq; subst hq; unfold rect0; dsimp only; omega
  rw [e q rfl]
  refine CallP.intro2 au_pu au_pu ?_
  refine CallT.intro tab_ok Tryz.func129 rfl (by kernel_rfl) (Nat.le_of_ble_eq_true rfl) ?_
  refine VC.reg tab_ok [] rfl ?_
  refine VX.new rfl rfl ?_
  refine VX.meek rfl ?_
  refine VX.nil ?_
  refine VC.reg tab_ok [] rfl ?_
  first | refine VX.meek rfl ?_ | refine VX.loadI rfl rfl au_l ?_ | refine VX.loadP rfl rfl rfl au_l ?_
  refine VX.callP0 rfl rfl rfl ((show CallP Tryz.prog 160 [rectT r] (rectT q) from hq ▸ as_p r)) ?_
  refine VX.store rfl rfl rfl rfl rfl (show 0 + 4 ≤ 4 from Nat.le_refl 4) rfl ?_
  refine VX.nil ?_
  refine VC.view ([(3, .ptr 0 0)]) ([.c [I64 q.X, I64 q.Y, I64 q.W, I64 q.H]]) [1, 2] rfl (by refine ⟨[some 0], rfl, by first | trivial | decide, rfl, ?_, ?_⟩ <;> (repeat' first | exact trivial | exact CvB_n | exact CvB_d | refine CvE_app ?_ ?_ | refine CvE_cons rfl ?_ ?_ | refine CvH_cons ?_ ?_ | refine CvB_c rfl ?_ | fail) <;> first | exact au_v | (exact CvL.eq rfl rfl)) ?_
  refine VC.reg tab_ok [] rfl ?_
  iterate 2 refine VX.meek rfl ?_
  first | refine VX.meek rfl ?_ | refine VX.loadI rfl rfl au_l ?_ | refine VX.loadP rfl rfl rfl au_l ?_
  iterate 2 refine VX.meek rfl ?_
  refine' VX.merge (d := 21) [_, _, _, _, _, _, _, _] rfl ?_ rfl ?_
  rotate_left
  · refine VX.guard rfl rfl (fun hb2_4 => ?_) (fun hb2_4 => ?_)
    · have ghb2_4 := hb2_4
      try simp only [au_std, Bool.not_true, Bool.not_false] at ghb2_4
      refine VX.meek rfl ?_
      refine VX.guardT rfl rfl hb2_4 ?_
      refine VX.meek rfl ?_
      refine VX.guardT rfl rfl hb2_4 ?_
      first | refine VX.meek rfl ?_ | refine VX.loadI rfl rfl au_l ?_ | refine VX.loadP rfl rfl rfl au_l ?_
      refine VX.guardT rfl rfl hb2_4 ?_
      refine VX.meek rfl ?_
      refine VX.guardT rfl rfl hb2_4 ?_
      first | refine VX.meek rfl ?_ | refine VX.loadI rfl rfl au_l ?_ | refine VX.loadP rfl rfl rfl au_l ?_
      refine VX.guardT rfl rfl hb2_4 ?_
      first | refine VX.add rfl rfl (by omega) ?_ | refine VX.meek rfl ?_
      refine VX.guardT rfl rfl hb2_4 ?_
      refine VX.meek rfl ?_
      refine VX.pickA rfl (fun _ => rfl) ?_
      exact VX.nil ⟨rfl, rfl⟩
    · refine VX.guardF rfl rfl hb2_4 ?_
      refine VX.guardF rfl rfl hb2_4 ?_
      refine VX.guardF rfl rfl hb2_4 ?_
      refine VX.guardF rfl rfl hb2_4 ?_
      refine VX.guardF rfl rfl hb2_4 ?_
      refine VX.guardF rfl rfl hb2_4 ?_
      exact VX.pickA rfl (fun h => absurd (h.symm.trans hb2_4) (by decide)) (VX.nil ⟨rfl, rfl⟩)
  refine VX.meek rfl ?_
  refine' VX.merge (d := 27) [_, _, _, _, _] rfl ?_ rfl ?_
  rotate_left
  · refine VX.guard rfl rfl (fun hb2_13 => ?_) (fun hb2_13 => ?_)
    · have ghb2_13 := hb2_13
      try simp only [au_std, Bool.not_true, Bool.not_false] at ghb2_13
      refine VX.meek rfl ?_
      refine VX.guardT rfl rfl hb2_13 ?_
      refine VX.meek rfl ?_
      refine VX.guardT rfl rfl hb2_13 ?_
      first | refine VX.meek rfl ?_ | refine VX.loadI rfl rfl au_l ?_ | refine VX.loadP rfl rfl rfl au_l ?_
      refine VX.guardT rfl rfl hb2_13 ?_
      refine VX.meek rfl ?_
      refine VX.pickA rfl (fun _ => rfl) ?_
      exact VX.nil ⟨rfl, rfl⟩
    · refine VX.guardF rfl rfl hb2_13 ?_
      refine VX.guardF rfl rfl hb2_13 ?_
      refine VX.guardF rfl rfl hb2_13 ?_
      exact VX.pickA rfl (fun h => absurd (h.symm.trans hb2_13) (by decide)) (VX.nil ⟨rfl, rfl⟩)
  refine VX.meek rfl ?_
  refine' VX.merge (d := 36) [_, _, _, _, _, _, _, _] rfl ?_ rfl ?_
  rotate_left
  · refine VX.guard rfl rfl (fun hb2_19 => ?_) (fun hb2_19 => ?_)
    · have ghb2_19 := hb2_19
      try simp only [au_std, Bool.not_true, Bool.not_false] at ghb2_19
      refine VX.meek rfl ?_
      refine VX.guardT rfl rfl hb2_19 ?_
      refine VX.meek rfl ?_
      refine VX.guardT rfl rfl hb2_19 ?_
      first | refine VX.meek rfl ?_ | refine VX.loadI rfl rfl au_l ?_ | refine VX.loadP rfl rfl rfl au_l ?_
      refine VX.guardT rfl rfl hb2_19 ?_
      refine VX.meek rfl ?_
      refine VX.guardT rfl rfl hb2_19 ?_
      first | refine VX.meek rfl ?_ | refine VX.loadI rfl rfl au_l ?_ | refine VX.loadP rfl rfl rfl au_l ?_
      refine VX.guardT rfl rfl hb2_19 ?_
      first | refine VX.add rfl rfl (by omega) ?_ | refine VX.meek rfl ?_
      refine VX.guardT rfl rfl hb2_19 ?_
      refine VX.meek rfl ?_
      refine VX.pickA rfl (fun _ => rfl) ?_
      exact VX.nil ⟨rfl, rfl⟩
    · refine VX.guardF rfl rfl hb2_19 ?_
      refine VX.guardF rfl rfl hb2_19 ?_
      refine VX.guardF rfl rfl hb2_19 ?_
      refine VX.guardF rfl rfl hb2_19 ?_
      refine VX.guardF rfl rfl hb2_19 ?_
      refine VX.guardF rfl rfl hb2_19 ?_
      exact VX.pickA rfl (fun h => absurd (h.symm.trans hb2_19) (by decide)) (VX.nil ⟨rfl, rfl⟩)
  refine VX.meek rfl ?_
  refine VX.nil ?_
  refine VC.ret ?_
  exact ⟨trivial, _, rfl, Cv.eq rfl rfl⟩
theorem in23_q (l : List Rect) (tl : List T) (htl : T.pureL tl = true) (x y : Int) (hn : l.length ≤ 1048576) : CallP Tryz.prog 89 [.islc (encL cR l ++ tl) l.length none, I64 x, I64 y] (BL (decide (inL (l.filter countsB) x y))) := by
  have hpu : T.pureL [.islc (encL cR l ++ tl) l.length none, I64 x, I64 y] = true := by simp only [T.pureL, T.pure, pureL_app, encL_pure, htl]; rfl
  refine CallP.intro2 hpu rfl ?_
  refine CallT.intro tab_ok Tryz.func89 rfl (by kernel_rfl) (Nat.le_of_ble_eq_true rfl) ?_
  refine VC.reg tab_ok [] rfl ?_
  refine VX.meek rfl ?_
  refine VX.nil ?_
  refine VC.seq ?_
  refine VC.reg tab_ok [] rfl ?_
  refine VX.meek rfl ?_
  refine VX.nil ?_
  refine VC.block ?_
  refine VC.loopS (σ := Nat) (fun k => l.length - k) (fun k => k ≤ l.length ∧ ∀ i, i < k → ¬ inL ([l[i]!].filter countsB) x y) (fun k => [(7, I64 k)]) (fun _ => []) [0, 1, 2] rfl (0) ?_ ?_ ?_
  · refine ⟨[], rfl, by first | trivial | decide, rfl, ?_, ?_⟩ <;> (repeat' first | exact trivial | exact CvB_n | exact CvB_d | refine CvE_app ?_ ?_ | refine CvE_cons rfl ?_ ?_ | refine CvH_cons ?_ ?_ | refine CvB_c rfl ?_ | fail) <;> first | exact au_v | (skip)
  · exact ⟨by omega, fun i hi => by omega⟩
  rintro k ⟨hk, hno⟩
  refine VC.seq ?_
  refine VC.reg tab_ok [] rfl ?_
  iterate 4 refine VX.meek rfl ?_
  refine VX.nil ?_
  refine VC.cond rfl (fun hc0 => ?_) (fun hc0 => ?_)
  · (try simp only [au_std] at hc0); have hkl : k < l.length := (by omega)
    refine VC.skip ?_
    refine VC.seq ?_
    refine VC.block ?_
    refine VC.reg tab_ok [] rfl ?_
    iterate 2 refine VX.meek rfl ?_
    first | refine VX.idxI rfl rfl rfl rfl rfl rfl (by omega) ?_ | refine VX.idxO0 rfl rfl rfl rfl rfl rfl rfl (by omega) ?_ | refine VX.idxO0 rfl rfl rfl rfl rfl rfl au_z (by omega) ?_ | refine VX.idxO rfl rfl rfl rfl rfl rfl rfl (by omega) ?_ | refine VX.idxI rfl rfl rfl rfl rfl au_z (by omega) ?_ | refine VX.idxO rfl rfl rfl rfl rfl rfl au_z (by omega) ?_ | refine VX.meek rfl ?_
    refine VX.loadI rfl rfl (encL_partA0 _ (getE (by omega)) (by decide) rfl) ?_
    iterate 2 refine VX.meek rfl ?_
    refine VX.callP0 rfl rfl rfl (has12_p l[k]! x y) ?_
    refine VX.nil ?_
    refine VC.cond rfl (fun hc1 => ?_) (fun hc1 => ?_)
    · have hy := of_decide_eq_true hc1; have hres : decide (inL (l.filter countsB) x y) = true := decide_eq_true (by
        obtain ⟨r, h1, h2⟩ := hy
        have h3 := List.mem_filter.1 h1
        rw [List.mem_singleton] at h3
        exact ⟨r, List.mem_filter.2 ⟨by rw [h3.1]; exact List.mem_iff_getElem?.2 ⟨k, getE hkl⟩, h3.2⟩, h2⟩)
      refine VC.reg tab_ok [] rfl ?_
      refine VX.meek rfl ?_
      refine VX.nil ?_
      refine VC.ret ?_
      exact ⟨trivial, _, rfl, Cv.eq (by rw [hres]; rfl) rfl⟩
    · have hn1 := of_decide_eq_false hc1
      refine VC.skip ?_
      refine VC.regN tab_ok [] rfl ?_
      refine VX.meek rfl ?_
      first | refine VX.add rfl rfl (by omega) ?_ | refine VX.meek rfl ?_
      refine VX.meek rfl ?_
      refine VX.nil ?_
      refine ⟨k + 1, by (try dsimp only); omega, ?_, (by refine ⟨[], rfl, by first | trivial | decide, rfl, ?_, ?_⟩ <;> (repeat' first | exact trivial | exact CvB_n | exact CvB_d | refine CvE_app ?_ ?_ | refine CvE_cons rfl ?_ ?_ | refine CvH_cons ?_ ?_ | refine CvB_c rfl ?_ | fail) <;> first | exact au_v | (fail))⟩
      exact ⟨by omega, fun i hi => by rcases Nat.lt_or_ge i k with g | g; exact hno i g; rw [show i = k by omega]; exact hn1⟩
  · (try simp only [au_std] at hc0); have hres : decide (inL (l.filter countsB) x y) = false := decide_eq_false (by
      rintro ⟨r, h1, h2⟩
      have h3 := List.mem_filter.1 h1
      obtain ⟨i, hi, e⟩ := List.mem_iff_getElem.1 h3.1
      refine hno i (by omega) ⟨r, List.mem_filter.2 ⟨?_, h3.2⟩, h2⟩
      rw [getElem!_pos l i hi, e]; exact List.mem_singleton.2 rfl)
    refine VC.exit ?_
    refine VC.reg tab_ok [] rfl ?_
    refine VX.meek rfl ?_
    refine VX.nil ?_
    refine VC.ret ?_
    exact ⟨trivial, _, rfl, Cv.eq (by rw [hres]; rfl) rfl⟩
theorem in23_p (l : List Rect) (x y : Int) (hn : l.length ≤ 1048576) : CallP Tryz.prog 89 [.islc (encL cR l) l.length none, I64 x, I64 y] (BL (decide (inL (l.filter countsB) x y))) := by
  have := in23_q l [] rfl x y hn
  rwa [List.append_nil] at this
theorem is_p (n : Int) : CallP Tryz.prog 177 [I64 n] (BL (ropKnown n)) := by
  refine CallP.intro2 au_pu au_pu ?_
  refine CallT.intro tab_ok Tryz.func177 rfl (by kernel_rfl) (Nat.le_of_ble_eq_true rfl) ?_
  refine VC.reg tab_ok [] rfl ?_
  refine VX.meek rfl ?_
  refine VX.nil ?_
  refine VC.reg tab_ok [] rfl ?_
  iterate 3 refine VX.meek rfl ?_
  refine' VX.merge (d := 8) [_, _, _] rfl ?_ rfl ?_
  rotate_left
  · refine VX.guard rfl rfl (fun hb1_2 => ?_) (fun hb1_2 => ?_)
    · have ghb1_2 := hb1_2
      try simp only [au_std, Bool.not_true, Bool.not_false] at ghb1_2
      refine VX.meek rfl ?_
      refine VX.guardT rfl rfl hb1_2 ?_
      refine VX.meek rfl ?_
      refine VX.pickA rfl (fun _ => rfl) ?_
      exact VX.nil ⟨rfl, rfl⟩
    · refine VX.guardF rfl rfl hb1_2 ?_
      exact VX.pickA rfl (fun h => absurd (h.symm.trans hb1_2) (by decide)) (VX.nil ⟨rfl, rfl⟩)
  refine VX.meek rfl ?_
  refine VX.nil ?_
  refine VC.ret ?_
  exact ⟨trivial, _, rfl, Cv.eq (by first | rfl | (simp [*]; done)) rfl⟩
def ropPlace (s d : Bool) : Nat := if s && d then 0 else if s then 1 else if d then 2 else 3
theorem place1 {s d : Bool} (h1 : s = true → d = false) (h2 : s = true) : ropPlace s d = 1 := by cases s <;> cases d <;> simp_all [ropPlace]
theorem place2 {s d : Bool} (h1 : s = false) (h2 : d = true) : ropPlace s d = 2 := by cases s <;> cases d <;> simp_all [ropPlace]
theorem place3 {s d : Bool} (h1 : s = false) (h2 : d = false) : ropPlace s d = 3 := by cases s <;> cases d <;> simp_all [ropPlace]
theorem place_fin : ∀ (a : Fin 16) (s d : Bool), (halve (ropPlace s d) (a.val : Int) % 2 == 1) = ropDoes a.val s d := by decide +kernel
theorem place_does {n : Int} (h : ropKnown n = true) (s d : Bool) : (halve (ropPlace s d) n % 2 == 1) = ropDoes n s d := by
  have hn : 0 ≤ n ∧ n ≤ 15 := by unfold ropKnown at h; simp at h; exact h
  obtain ⟨k, rfl⟩ := Int.eq_ofNat_of_zero_le hn.1
  exact place_fin ⟨k, by omega⟩ s d
theorem bit_p (n : Int) (s d : Bool) : CallP Tryz.prog 161 [I64 n, BL s, BL d] (BL (ropFn n s d)) := by
  by_cases hk : ropKnown n = true
  case neg =>
    have e : ropFn n s d = d := by unfold ropFn; rw [if_neg hk]
    rw [e]
    refine CallP.intro2 au_pu au_pu ?_
    refine CallT.intro tab_ok Tryz.func161 rfl (by kernel_rfl) (Nat.le_of_ble_eq_true rfl) ?_
    refine VC.reg tab_ok [] rfl ?_
    refine VX.meek rfl ?_
    refine VX.nil ?_
    refine VC.seq ?_
    refine VC.reg tab_ok [] rfl ?_
    refine VX.meek rfl ?_
    refine VX.callP0 rfl rfl rfl (is_p n) ?_
    refine VX.meek rfl ?_
    refine VX.nil ?_
    refine VC.cond rfl (fun hc0 => ?_) (fun hc0 => ?_)
    · (try simp only [au_std] at hc0)
      refine VC.reg tab_ok [] rfl ?_
      iterate 2 refine VX.meek rfl ?_
      refine VX.nil ?_
      refine VC.ret ?_
      exact ⟨trivial, _, rfl, Cv.eq (by first | rfl | (simp [*]; done)) rfl⟩
    · exact absurd hc0 (by simp [hk])
  have hn : 0 ≤ n ∧ n ≤ 15 := by unfold ropKnown at hk; simp at hk; exact hk
  have e : ropFn n s d = (halve (ropPlace s d) n % 2 == 1) := by unfold ropFn; rw [if_pos hk, place_does hk]
  rw [e]
  refine CallP.intro2 au_pu au_pu ?_
  refine CallT.intro tab_ok Tryz.func161 rfl (by kernel_rfl) (Nat.le_of_ble_eq_true rfl) ?_
  refine VC.reg tab_ok [] rfl ?_
  refine VX.meek rfl ?_
  refine VX.nil ?_
  refine VC.seq ?_
  refine VC.reg tab_ok [] rfl ?_
  refine VX.meek rfl ?_
  refine VX.callP0 rfl rfl rfl (is_p n) ?_
  refine VX.meek rfl ?_
  refine VX.nil ?_
  refine VC.cond rfl (fun hc0 => ?_) (fun hc0 => ?_)
  · exact absurd hc0 (by simp [hk])
  · (try simp only [au_std] at hc0)
    refine VC.skip ?_
    refine VC.reg tab_ok [] rfl ?_
    refine VX.meek rfl ?_
    refine VX.nil ?_
    refine VC.seq ?_
    refine VC.reg tab_ok [] rfl ?_
    iterate 2 refine VX.meek rfl ?_
    refine' VX.merge (d := 16) [_, _] rfl ?_ rfl ?_
    rotate_left
    · refine VX.guard rfl rfl (fun hb4_1 => ?_) (fun hb4_1 => ?_)
      · have ghb4_1 := hb4_1
        try simp only [au_std, Bool.not_true, Bool.not_false] at ghb4_1
        refine VX.meek rfl ?_
        refine VX.pickA rfl (fun _ => rfl) ?_
        exact VX.nil ⟨rfl, rfl⟩
      · exact VX.pickA rfl (fun h => absurd (h.symm.trans hb4_1) (by decide)) (VX.nil ⟨rfl, rfl⟩)
    refine VX.nil ?_
    refine VC.cond rfl (fun hc1 => ?_) (fun hc1 => ?_)
    · have hP : ropPlace s d = 0 := (by simp at hc1; simp [ropPlace, hc1])
      refine VC.regN tab_ok [] rfl ?_
      refine VX.meek rfl ?_
      refine VX.nil ?_
      refine VC.seq ?_
      refine VC.reg tab_ok [] rfl ?_
      refine VX.meek rfl ?_
      refine VX.nil ?_
      refine VC.block ?_
      refine VC.loopS (σ := Nat) (fun i => ropPlace s d - i) (fun i => i ≤ ropPlace s d) (fun i => [(8, I64 i), (0, I64 (halve i n))]) (fun _ => []) [7] rfl (0) ?_ ?_ ?_
      · refine ⟨[], rfl, by first | trivial | decide, rfl, ?_, ?_⟩ <;> (repeat' first | exact trivial | exact CvB_n | exact CvB_d | refine CvE_app ?_ ?_ | refine CvE_cons rfl ?_ ?_ | refine CvH_cons ?_ ?_ | refine CvB_c rfl ?_ | fail) <;> first | exact au_v | (skip)
      · (try dsimp only); omega
      rintro i hi
      refine VC.seq ?_
      refine VC.reg tab_ok [] rfl ?_
      iterate 3 refine VX.meek rfl ?_
      refine VX.nil ?_
      refine VC.cond rfl (fun hc4 => ?_) (fun hc4 => ?_)
      · (try simp only [au_std] at hc4); have hil : i < ropPlace s d := (by omega); have h1 := halve_nonneg i n hn.1; have h2 := halve_le i n hn.1
        refine VC.skip ?_
        refine VC.seq ?_
        refine VC.block ?_
        refine VC.regN tab_ok [] rfl ?_
        refine VX.meek rfl ?_
        first | refine VX.quo rfl rfl (by omega) (by omega) (by omega) ?_ | refine VX.meek rfl ?_
        refine VX.meek rfl ?_
        refine VX.nil ?_
        refine VC.regN tab_ok [] rfl ?_
        refine VX.meek rfl ?_
        first | refine VX.add rfl rfl (by omega) ?_ | refine VX.meek rfl ?_
        refine VX.meek rfl ?_
        refine VX.nil ?_
        refine ⟨i + 1, by (try dsimp only); omega, ?_, (by refine ⟨[], rfl, by first | trivial | decide, rfl, ?_, ?_⟩ <;> (repeat' first | exact trivial | exact CvB_n | exact CvB_d | refine CvE_app ?_ ?_ | refine CvE_cons rfl ?_ ?_ | refine CvH_cons ?_ ?_ | refine CvB_c rfl ?_ | fail) <;> first | exact au_v | (fail))⟩
        (try dsimp only); omega
      · (try simp only [au_std] at hc4); have h1 := halve_nonneg i n hn.1; obtain rfl : i = ropPlace s d := (by omega)
        refine VC.exit ?_
        refine VC.reg tab_ok [] rfl ?_
        refine VX.meek rfl ?_
        first | refine VX.rem rfl rfl (by omega) (by omega) ?_ | refine VX.meek rfl ?_
        iterate 2 refine VX.meek rfl ?_
        refine VX.nil ?_
        refine VC.ret ?_
        exact ⟨trivial, _, rfl, Cv.eq (by first | rfl | (simp [*]; done)) rfl⟩
    · (try simp only [au_std] at hc1)
      refine VC.reg tab_ok [] rfl ?_
      refine VX.meek rfl ?_
      refine VX.nil ?_
      refine VC.cond rfl (fun hc2 => ?_) (fun hc2 => ?_)
      · have hP : ropPlace s d = 1 := place1 hc1 hc2
        refine VC.regN tab_ok [] rfl ?_
        refine VX.meek rfl ?_
        refine VX.nil ?_
        refine VC.seq ?_
        refine VC.reg tab_ok [] rfl ?_
        refine VX.meek rfl ?_
        refine VX.nil ?_
        refine VC.block ?_
        refine VC.loopS (σ := Nat) (fun i => ropPlace s d - i) (fun i => i ≤ ropPlace s d) (fun i => [(8, I64 i), (0, I64 (halve i n))]) (fun _ => []) [7] rfl (0) ?_ ?_ ?_
        · refine ⟨[], rfl, by first | trivial | decide, rfl, ?_, ?_⟩ <;> (repeat' first | exact trivial | exact CvB_n | exact CvB_d | refine CvE_app ?_ ?_ | refine CvE_cons rfl ?_ ?_ | refine CvH_cons ?_ ?_ | refine CvB_c rfl ?_ | fail) <;> first | exact au_v | (skip)
        · (try dsimp only); omega
        rintro i hi
        refine VC.seq ?_
        refine VC.reg tab_ok [] rfl ?_
        iterate 3 refine VX.meek rfl ?_
        refine VX.nil ?_
        refine VC.cond rfl (fun hc4 => ?_) (fun hc4 => ?_)
        · (try simp only [au_std] at hc4); have hil : i < ropPlace s d := (by omega); have h1 := halve_nonneg i n hn.1; have h2 := halve_le i n hn.1
          refine VC.skip ?_
          refine VC.seq ?_
          refine VC.block ?_
          refine VC.regN tab_ok [] rfl ?_
          refine VX.meek rfl ?_
          first | refine VX.quo rfl rfl (by omega) (by omega) (by omega) ?_ | refine VX.meek rfl ?_
          refine VX.meek rfl ?_
          refine VX.nil ?_
          refine VC.regN tab_ok [] rfl ?_
          refine VX.meek rfl ?_
          first | refine VX.add rfl rfl (by omega) ?_ | refine VX.meek rfl ?_
          refine VX.meek rfl ?_
          refine VX.nil ?_
          refine ⟨i + 1, by (try dsimp only); omega, ?_, (by refine ⟨[], rfl, by first | trivial | decide, rfl, ?_, ?_⟩ <;> (repeat' first | exact trivial | exact CvB_n | exact CvB_d | refine CvE_app ?_ ?_ | refine CvE_cons rfl ?_ ?_ | refine CvH_cons ?_ ?_ | refine CvB_c rfl ?_ | fail) <;> first | exact au_v | (fail))⟩
          (try dsimp only); omega
        · (try simp only [au_std] at hc4); have h1 := halve_nonneg i n hn.1; obtain rfl : i = ropPlace s d := (by omega)
          refine VC.exit ?_
          refine VC.reg tab_ok [] rfl ?_
          refine VX.meek rfl ?_
          first | refine VX.rem rfl rfl (by omega) (by omega) ?_ | refine VX.meek rfl ?_
          iterate 2 refine VX.meek rfl ?_
          refine VX.nil ?_
          refine VC.ret ?_
          exact ⟨trivial, _, rfl, Cv.eq (by first | rfl | (simp [*]; done)) rfl⟩
      · (try simp only [au_std] at hc2)
        refine VC.reg tab_ok [] rfl ?_
        refine VX.meek rfl ?_
        refine VX.nil ?_
        refine VC.cond rfl (fun hc3 => ?_) (fun hc3 => ?_)
        · have hP : ropPlace s d = 2 := place2 hc2 hc3
          refine VC.regN tab_ok [] rfl ?_
          refine VX.meek rfl ?_
          refine VX.nil ?_
          refine VC.seq ?_
          refine VC.reg tab_ok [] rfl ?_
          refine VX.meek rfl ?_
          refine VX.nil ?_
          refine VC.block ?_
          refine VC.loopS (σ := Nat) (fun i => ropPlace s d - i) (fun i => i ≤ ropPlace s d) (fun i => [(8, I64 i), (0, I64 (halve i n))]) (fun _ => []) [7] rfl (0) ?_ ?_ ?_
          · refine ⟨[], rfl, by first | trivial | decide, rfl, ?_, ?_⟩ <;> (repeat' first | exact trivial | exact CvB_n | exact CvB_d | refine CvE_app ?_ ?_ | refine CvE_cons rfl ?_ ?_ | refine CvH_cons ?_ ?_ | refine CvB_c rfl ?_ | fail) <;> first | exact au_v | (skip)
          · (try dsimp only); omega
          rintro i hi
          refine VC.seq ?_
          refine VC.reg tab_ok [] rfl ?_
          iterate 3 refine VX.meek rfl ?_
          refine VX.nil ?_
          refine VC.cond rfl (fun hc4 => ?_) (fun hc4 => ?_)
          · (try simp only [au_std] at hc4); have hil : i < ropPlace s d := (by omega); have h1 := halve_nonneg i n hn.1; have h2 := halve_le i n hn.1
            refine VC.skip ?_
            refine VC.seq ?_
            refine VC.block ?_
            refine VC.regN tab_ok [] rfl ?_
            refine VX.meek rfl ?_
            first | refine VX.quo rfl rfl (by omega) (by omega) (by omega) ?_ | refine VX.meek rfl ?_
            refine VX.meek rfl ?_
            refine VX.nil ?_
            refine VC.regN tab_ok [] rfl ?_
            refine VX.meek rfl ?_
            first | refine VX.add rfl rfl (by omega) ?_ | refine VX.meek rfl ?_
            refine VX.meek rfl ?_
            refine VX.nil ?_
            refine ⟨i + 1, by (try dsimp only); omega, ?_, (by refine ⟨[], rfl, by first | trivial | decide, rfl, ?_, ?_⟩ <;> (repeat' first | exact trivial | exact CvB_n | exact CvB_d | refine CvE_app ?_ ?_ | refine CvE_cons rfl ?_ ?_ | refine CvH_cons ?_ ?_ | refine CvB_c rfl ?_ | fail) <;> first | exact au_v | (fail))⟩
            (try dsimp only); omega
          · (try simp only [au_std] at hc4); have h1 := halve_nonneg i n hn.1; obtain rfl : i = ropPlace s d := (by omega)
            refine VC.exit ?_
            refine VC.reg tab_ok [] rfl ?_
            refine VX.meek rfl ?_
            first | refine VX.rem rfl rfl (by omega) (by omega) ?_ | refine VX.meek rfl ?_
            iterate 2 refine VX.meek rfl ?_
            refine VX.nil ?_
            refine VC.ret ?_
            exact ⟨trivial, _, rfl, Cv.eq (by first | rfl | (simp [*]; done)) rfl⟩
        · have hP : ropPlace s d = 3 := place3 hc2 hc3
          refine VC.skip ?_
          refine VC.seq ?_
          refine VC.reg tab_ok [] rfl ?_
          refine VX.meek rfl ?_
          refine VX.nil ?_
          refine VC.block ?_
          refine VC.loopS (σ := Nat) (fun i => ropPlace s d - i) (fun i => i ≤ ropPlace s d) (fun i => [(8, I64 i), (0, I64 (halve i n))]) (fun _ => []) [7] rfl (0) ?_ ?_ ?_
          · refine ⟨[], rfl, by first | trivial | decide, rfl, ?_, ?_⟩ <;> (repeat' first | exact trivial | exact CvB_n | exact CvB_d | refine CvE_app ?_ ?_ | refine CvE_cons rfl ?_ ?_ | refine CvH_cons ?_ ?_ | refine CvB_c rfl ?_ | fail) <;> first | exact au_v | (skip)
          · (try dsimp only); omega
          rintro i hi
          refine VC.seq ?_
          refine VC.reg tab_ok [] rfl ?_
          iterate 3 refine VX.meek rfl ?_
          refine VX.nil ?_
          refine VC.cond rfl (fun hc4 => ?_) (fun hc4 => ?_)
          · (try simp only [au_std] at hc4); have hil : i < ropPlace s d := (by omega); have h1 := halve_nonneg i n hn.1; have h2 := halve_le i n hn.1
            refine VC.skip ?_
            refine VC.seq ?_
            refine VC.block ?_
            refine VC.regN tab_ok [] rfl ?_
            refine VX.meek rfl ?_
            first | refine VX.quo rfl rfl (by omega) (by omega) (by omega) ?_ | refine VX.meek rfl ?_
            refine VX.meek rfl ?_
            refine VX.nil ?_
            refine VC.regN tab_ok [] rfl ?_
            refine VX.meek rfl ?_
            first | refine VX.add rfl rfl (by omega) ?_ | refine VX.meek rfl ?_
            refine VX.meek rfl ?_
            refine VX.nil ?_
            refine ⟨i + 1, by (try dsimp only); omega, ?_, (by refine ⟨[], rfl, by first | trivial | decide, rfl, ?_, ?_⟩ <;> (repeat' first | exact trivial | exact CvB_n | exact CvB_d | refine CvE_app ?_ ?_ | refine CvE_cons rfl ?_ ?_ | refine CvH_cons ?_ ?_ | refine CvB_c rfl ?_ | fail) <;> first | exact au_v | (fail))⟩
            (try dsimp only); omega
          · (try simp only [au_std] at hc4); have h1 := halve_nonneg i n hn.1; obtain rfl : i = ropPlace s d := (by omega)
            refine VC.exit ?_
            refine VC.reg tab_ok [] rfl ?_
            refine VX.meek rfl ?_
            first | refine VX.rem rfl rfl (by omega) (by omega) ?_ | refine VX.meek rfl ?_
            iterate 2 refine VX.meek rfl ?_
            refine VX.nil ?_
            refine VC.ret ?_
            exact ⟨trivial, _, rfl, Cv.eq (by first | rfl | (simp [*]; done)) rfl⟩
theorem mix18_p (n s d p : Int) (hs : 0 ≤ s ∧ s < 256) (hd : 0 ≤ d ∧ d < 256) (hp : 0 ≤ p ∧ p < 256) : CallP Tryz.prog 130 [I64 n, U8 s, U8 d, U8 p] (U8 (mixI n s d p)) := by
  have e : refTo (ropFn n) s d p 8 = mixI n s d p := by
    have := refTo_eq (ropFn n) s.toNat d.toNat p.toNat (by omega) (by omega) (by omega)
    rw [Int.toNat_of_nonneg hs.1, Int.toNat_of_nonneg hd.1, Int.toNat_of_nonneg hp.1] at this
    exact this
  have hb := mixI_bd n s d p
  rw [← e] at hb ⊢
  refine CallP.intro2 au_pu au_pu ?_
  refine CallT.intro tab_ok Tryz.func130 rfl (by kernel_rfl) (Nat.le_of_ble_eq_true rfl) ?_
  refine VC.reg tab_ok [] rfl ?_
  refine VX.meek rfl ?_
  refine VX.nil ?_
  refine VC.reg tab_ok [] rfl ?_
  iterate 2 refine VX.meek rfl ?_
  refine VX.nil ?_
  refine VC.reg tab_ok [] rfl ?_
  refine VX.meek rfl ?_
  refine VX.meek (t := I64 s) (by show some (T.v (.int .i64 (IntKind.i64.wrap s)), (none : Option (Nat × List T))) = _; rw [wrap_in (by omega)]) ?_
  refine VX.meek rfl ?_
  refine VX.meek (t := I64 d) (by show some (T.v (.int .i64 (IntKind.i64.wrap d)), (none : Option (Nat × List T))) = _; rw [wrap_in (by omega)]) ?_
  refine VX.meek rfl ?_
  refine VX.meek (t := I64 p) (by show some (T.v (.int .i64 (IntKind.i64.wrap p)), (none : Option (Nat × List T))) = _; rw [wrap_in (by omega)]) ?_
  iterate 3 refine VX.meek rfl ?_
  refine VX.nil ?_
  refine VC.seq ?_
  refine VC.reg tab_ok [] rfl ?_
  refine VX.meek rfl ?_
  refine VX.nil ?_
  refine VC.block ?_
  refine VC.loopS (σ := Nat) (fun k => 8 - k) (fun k => k ≤ 8) (fun k => [(14, I64 k), (9, I64 (refTo (ropFn n) s d p k)), (10, I64 (pow2 k)), (11, I64 (halve k s)), (12, I64 (halve k d)), (13, I64 (halve k p))]) (fun _ => []) [0] rfl (0) ?_ ?_ ?_
  · refine ⟨[], rfl, by first | trivial | decide, rfl, ?_, ?_⟩ <;> (repeat' first | exact trivial | exact CvB_n | exact CvB_d | refine CvE_app ?_ ?_ | refine CvE_cons rfl ?_ ?_ | refine CvH_cons ?_ ?_ | refine CvB_c rfl ?_ | fail) <;> first | exact au_v | (skip)
  · (try dsimp only); omega
  rintro k hk
  refine VC.seq ?_
  refine VC.reg tab_ok [] rfl ?_
  iterate 2 refine VX.meek rfl ?_
  refine VX.nil ?_
  refine VC.cond rfl (fun hc0 => ?_) (fun hc0 => ?_)
  · (try simp only [au_std] at hc0); have hkl : k < 8 := (by omega); have hp2 := pow2_bd k hk; have hrb := refTo_bd (ropFn n) s d p k hk; have a1 := halve_nonneg k s hs.1; have a2 := halve_nonneg k d hd.1; have a3 := halve_nonneg k p hp.1; have b1 := halve_le k s hs.1; have b2 := halve_le k d hd.1; have b3 := halve_le k p hp.1
    refine VC.skip ?_
    refine VC.seq ?_
    refine VC.block ?_
    refine VC.reg tab_ok [] rfl ?_
    refine VX.meek rfl ?_
    first | refine VX.rem rfl rfl (by omega) (by omega) ?_ | refine VX.meek rfl ?_
    iterate 2 refine VX.meek rfl ?_
    refine VX.nil ?_
    refine VC.seq ?_
    refine VC.reg tab_ok [] rfl ?_
    refine VX.meek rfl ?_
    first | refine VX.rem rfl rfl (by omega) (by omega) ?_ | refine VX.meek rfl ?_
    refine VX.meek rfl ?_
    refine VX.nil ?_
    refine VC.cond rfl (fun hc1 => ?_) (fun hc1 => ?_)
    · have hbb : refBitAt (ropFn n) s d p k = ropFn n (halve k s % 2 == 1) (halve k d % 2 == 1) := if_pos hc1
      refine VC.regN tab_ok [] rfl ?_
      iterate 2 refine VX.meek rfl ?_
      first | refine VX.rem rfl rfl (by omega) (by omega) ?_ | refine VX.meek rfl ?_
      iterate 2 refine VX.meek rfl ?_
      refine VX.callP0 rfl rfl rfl (bit_p n _ _) ?_
      refine VX.meek rfl ?_
      refine VX.nil ?_
      refine VC.seq ?_
      refine VC.reg tab_ok [] rfl ?_
      refine VX.meek rfl ?_
      refine VX.nil ?_
      refine VC.cond rfl (fun hc2 => ?_) (fun hc2 => ?_)
      · have hsu : refTo (ropFn n) s d p (k + 1) = refTo (ropFn n) s d p k + pow2 k := if_pos (hbb.trans hc2)
        refine VC.regN tab_ok [] rfl ?_
        iterate 2 refine VX.meek rfl ?_
        first | refine VX.add rfl rfl (by omega) ?_ | refine VX.meek rfl ?_
        refine VX.meek rfl ?_
        refine VX.nil ?_
        refine VC.regN tab_ok [] rfl ?_
        refine VX.meek rfl ?_
        first | refine VX.quo rfl rfl (by omega) (by omega) (by omega) ?_ | refine VX.meek rfl ?_
        refine VX.meek rfl ?_
        first | refine VX.quo rfl rfl (by omega) (by omega) (by omega) ?_ | refine VX.meek rfl ?_
        refine VX.meek rfl ?_
        first | refine VX.quo rfl rfl (by omega) (by omega) (by omega) ?_ | refine VX.meek rfl ?_
        refine VX.meek rfl ?_
        first | refine VX.mul rfl rfl (by omega) ?_ | refine VX.meek rfl ?_
        iterate 4 refine VX.meek rfl ?_
        refine VX.nil ?_
        refine VC.regN tab_ok [] rfl ?_
        refine VX.meek rfl ?_
        first | refine VX.add rfl rfl (by omega) ?_ | refine VX.meek rfl ?_
        refine VX.meek rfl ?_
        refine VX.nil ?_
        refine ⟨k + 1, by (try dsimp only); omega, ?_, (by refine ⟨[], rfl, by first | trivial | decide, rfl, ?_, ?_⟩ <;> (repeat' first | exact trivial | exact CvB_n | exact CvB_d | refine CvE_app ?_ ?_ | refine CvE_cons rfl ?_ ?_ | refine CvH_cons ?_ ?_ | refine CvB_c rfl ?_ | fail) <;> first | exact au_v | (first | exact Cv.eq (congrArg I64 hsu.symm) rfl | exact Cv.pure rfl))⟩
        (try dsimp only); omega
      · have hsu : refTo (ropFn n) s d p (k + 1) = refTo (ropFn n) s d p k := if_neg (by rw [hbb, hc2]; simp)
        refine VC.skip ?_
        refine VC.regN tab_ok [] rfl ?_
        refine VX.meek rfl ?_
        first | refine VX.quo rfl rfl (by omega) (by omega) (by omega) ?_ | refine VX.meek rfl ?_
        refine VX.meek rfl ?_
        first | refine VX.quo rfl rfl (by omega) (by omega) (by omega) ?_ | refine VX.meek rfl ?_
        refine VX.meek rfl ?_
        first | refine VX.quo rfl rfl (by omega) (by omega) (by omega) ?_ | refine VX.meek rfl ?_
        refine VX.meek rfl ?_
        first | refine VX.mul rfl rfl (by omega) ?_ | refine VX.meek rfl ?_
        iterate 4 refine VX.meek rfl ?_
        refine VX.nil ?_
        refine VC.regN tab_ok [] rfl ?_
        refine VX.meek rfl ?_
        first | refine VX.add rfl rfl (by omega) ?_ | refine VX.meek rfl ?_
        refine VX.meek rfl ?_
        refine VX.nil ?_
        refine ⟨k + 1, by (try dsimp only); omega, ?_, (by refine ⟨[], rfl, by first | trivial | decide, rfl, ?_, ?_⟩ <;> (repeat' first | exact trivial | exact CvB_n | exact CvB_d | refine CvE_app ?_ ?_ | refine CvE_cons rfl ?_ ?_ | refine CvH_cons ?_ ?_ | refine CvB_c rfl ?_ | fail) <;> first | exact au_v | (first | exact Cv.eq (congrArg I64 hsu.symm) rfl | exact Cv.pure rfl))⟩
        (try dsimp only); omega
    · have hbb : refBitAt (ropFn n) s d p k = (halve k d % 2 == 1) := if_neg (by rw [hc1]; simp)
      refine VC.skip ?_
      refine VC.seq ?_
      refine VC.reg tab_ok [] rfl ?_
      refine VX.meek rfl ?_
      refine VX.nil ?_
      refine VC.cond rfl (fun hc2 => ?_) (fun hc2 => ?_)
      · have hsu : refTo (ropFn n) s d p (k + 1) = refTo (ropFn n) s d p k + pow2 k := if_pos (hbb.trans hc2)
        refine VC.regN tab_ok [] rfl ?_
        iterate 2 refine VX.meek rfl ?_
        first | refine VX.add rfl rfl (by omega) ?_ | refine VX.meek rfl ?_
        refine VX.meek rfl ?_
        refine VX.nil ?_
        refine VC.regN tab_ok [] rfl ?_
        refine VX.meek rfl ?_
        first | refine VX.quo rfl rfl (by omega) (by omega) (by omega) ?_ | refine VX.meek rfl ?_
        refine VX.meek rfl ?_
        first | refine VX.quo rfl rfl (by omega) (by omega) (by omega) ?_ | refine VX.meek rfl ?_
        refine VX.meek rfl ?_
        first | refine VX.quo rfl rfl (by omega) (by omega) (by omega) ?_ | refine VX.meek rfl ?_
        refine VX.meek rfl ?_
        first | refine VX.mul rfl rfl (by omega) ?_ | refine VX.meek rfl ?_
        iterate 4 refine VX.meek rfl ?_
        refine VX.nil ?_
        refine VC.regN tab_ok [] rfl ?_
        refine VX.meek rfl ?_
        first | refine VX.add rfl rfl (by omega) ?_ | refine VX.meek rfl ?_
        refine VX.meek rfl ?_
        refine VX.nil ?_
        refine ⟨k + 1, by (try dsimp only); omega, ?_, (by refine ⟨[], rfl, by first | trivial | decide, rfl, ?_, ?_⟩ <;> (repeat' first | exact trivial | exact CvB_n | exact CvB_d | refine CvE_app ?_ ?_ | refine CvE_cons rfl ?_ ?_ | refine CvH_cons ?_ ?_ | refine CvB_c rfl ?_ | fail) <;> first | exact au_v | (first | exact Cv.eq (congrArg I64 hsu.symm) rfl | exact Cv.pure rfl))⟩
        (try dsimp only); omega
      · have hsu : refTo (ropFn n) s d p (k + 1) = refTo (ropFn n) s d p k := if_neg (by rw [hbb, hc2]; simp)
        refine VC.skip ?_
        refine VC.regN tab_ok [] rfl ?_
        refine VX.meek rfl ?_
        first | refine VX.quo rfl rfl (by omega) (by omega) (by omega) ?_ | refine VX.meek rfl ?_
        refine VX.meek rfl ?_
        first | refine VX.quo rfl rfl (by omega) (by omega) (by omega) ?_ | refine VX.meek rfl ?_
        refine VX.meek rfl ?_
        first | refine VX.quo rfl rfl (by omega) (by omega) (by omega) ?_ | refine VX.meek rfl ?_
        refine VX.meek rfl ?_
        first | refine VX.mul rfl rfl (by omega) ?_ | refine VX.meek rfl ?_
        iterate 4 refine VX.meek rfl ?_
        refine VX.nil ?_
        refine VC.regN tab_ok [] rfl ?_
        refine VX.meek rfl ?_
        first | refine VX.add rfl rfl (by omega) ?_ | refine VX.meek rfl ?_
        refine VX.meek rfl ?_
        refine VX.nil ?_
        refine ⟨k + 1, by (try dsimp only); omega, ?_, (by refine ⟨[], rfl, by first | trivial | decide, rfl, ?_, ?_⟩ <;> (repeat' first | exact trivial | exact CvB_n | exact CvB_d | refine CvE_app ?_ ?_ | refine CvE_cons rfl ?_ ?_ | refine CvH_cons ?_ ?_ | refine CvB_c rfl ?_ | fail) <;> first | exact au_v | (first | exact Cv.eq (congrArg I64 hsu.symm) rfl | exact Cv.pure rfl))⟩
        (try dsimp only); omega
  · (try simp only [au_std] at hc0); obtain rfl : k = 8 := (by omega)
    refine VC.exit ?_
    refine VC.reg tab_ok [] rfl ?_
    refine VX.meek rfl ?_
    refine VX.meek (t := U8 (refTo (ropFn n) s d p 8)) (by show some (T.v (.int .u8 (IntKind.u8.wrap (refTo (ropFn n) s d p 8))), (none : Option (Nat × List T))) = _; rw [wrap_u8, Int.emod_eq_of_lt hb.1 (by omega)]) ?_
    refine VX.meek rfl ?_
    refine VX.nil ?_
    refine VC.ret ?_
    exact ⟨trivial, _, rfl, Cv.eq (by first | rfl | (simp [*]; done)) rfl⟩
end
section
open Go.RowKit Go.Sort
set_option maxRecDepth 10000
section
variable {P : Program} {tab : Tab} {im : List Nat} {ops : Array Oper} {l : List Oper} {E : Env} {Hm F : Hp} {K : Env → Hp → Prop} {wd : List Bool} {d : Nat} {ty : TypeId} {pos : String} {after : Array Edge}
theorem VD.add {x y : Operand} {t t2 : Nat} {a b : Int} (hx : E.opd x = some (I64 a)) (hy : E.opd y = some (I64 b)) (h : -9223372036854775808 ≤ a + b ∧ a + b ≤ 9223372036854775807) (k : VD P tab im ops Hm l wd ((d, I64 (a + b)) :: E) F K) : VD P tab im ops Hm (⟨some d, .binOp .add t x y t2, ty, pos, after, none⟩ :: l) (false :: wd) E F K :=
  VD.meek (t := I64 (a + b)) (by simp only [opM, hx, hy, mBin, binInt, wrap_in h]; rfl) k
theorem VD.mul {x y : Operand} {t t2 : Nat} {a b : Int} (hx : E.opd x = some (I64 a)) (hy : E.opd y = some (I64 b)) (h : -9223372036854775808 ≤ a * b ∧ a * b ≤ 9223372036854775807) (k : VD P tab im ops Hm l wd ((d, I64 (a * b)) :: E) F K) : VD P tab im ops Hm (⟨some d, .binOp .mul t x y t2, ty, pos, after, none⟩ :: l) (false :: wd) E F K :=
  VD.meek (t := I64 (a * b)) (by simp only [opM, hx, hy, mBin, binInt, wrap_in h]; rfl) k
end
def atG (w h : Nat) (px : List Int) (x y : Int) : Int := if inB' w h x y = true then px[(y * w + x).toNat]! else 0
theorem inB_iff {w h : Nat} {x y : Int} : inB' w h x y = true ↔ 0 ≤ x ∧ x < w ∧ 0 ≤ y ∧ y < h := by unfold inB'; simp only [Bool.and_eq_true, decide_eq_true_eq]; omega
theorem at23_p (w h : Nat) (px : List Int) (x y : Int) (hw : w ≤ 128) (hh : h ≤ 128) (hl : px.length = w * h) : CallP Tryz.prog 75 [gT w h px, I64 x, I64 y] (U8 (atG w h px x y)) := by
  refine CallP.intro2 au_pu au_pu ?_
  refine CallT.intro tab_ok Tryz.func75 rfl (by kernel_rfl) (Nat.le_of_ble_eq_true rfl) ?_
  refine VC.reg tab_ok [3] rfl ?_
  refine VX.newI rfl rfl ?_
  refine VX.meek rfl ?_
  refine VX.nil ?_
  refine VC.seq ?_
  refine VC.reg tab_ok [] rfl ?_
  iterate 3 refine VX.meek rfl ?_
  refine' VX.merge (d := 12) [_, _, _] rfl ?_ rfl ?_
  rotate_left
  · refine VX.guard rfl rfl (fun hb1_2 => ?_) (fun hb1_2 => ?_)
    · have ghb1_2 := hb1_2
      try simp only [au_std, Bool.not_true, Bool.not_false] at ghb1_2
      refine VX.meek rfl ?_
      refine VX.guardT rfl rfl hb1_2 ?_
      refine VX.meek rfl ?_
      refine VX.pickO rfl (fun _ => rfl) ?_
      exact VX.nil ⟨rfl, rfl⟩
    · refine VX.guardF rfl rfl hb1_2 ?_
      exact VX.pickO rfl (fun h => absurd (h.symm.trans hb1_2) (by decide)) (VX.nil ⟨rfl, rfl⟩)
  refine VX.meek rfl ?_
  refine' VX.merge (d := 18) [_, _, _, _, _] rfl ?_ rfl ?_
  rotate_left
  · refine VX.guard rfl rfl (fun hb1_6 => ?_) (fun hb1_6 => ?_)
    · have ghb1_6 := hb1_6
      try simp only [au_std, Bool.not_true, Bool.not_false] at ghb1_6
      refine VX.meek rfl ?_
      refine VX.guardT rfl rfl hb1_6 ?_
      refine VX.meek rfl ?_
      refine VX.guardT rfl rfl hb1_6 ?_
      first | refine VX.meek rfl ?_ | refine VX.loadI rfl rfl au_l ?_ | refine VX.loadP rfl rfl rfl au_l ?_
      refine VX.guardT rfl rfl hb1_6 ?_
      refine VX.meek rfl ?_
      refine VX.pickO rfl (fun _ => rfl) ?_
      exact VX.nil ⟨rfl, rfl⟩
    · refine VX.guardF rfl rfl hb1_6 ?_
      refine VX.guardF rfl rfl hb1_6 ?_
      refine VX.guardF rfl rfl hb1_6 ?_
      exact VX.pickO rfl (fun h => absurd (h.symm.trans hb1_6) (by decide)) (VX.nil ⟨rfl, rfl⟩)
  refine VX.meek rfl ?_
  refine' VX.merge (d := 24) [_, _, _, _, _] rfl ?_ rfl ?_
  rotate_left
  · refine VX.guard rfl rfl (fun hb1_12 => ?_) (fun hb1_12 => ?_)
    · have ghb1_12 := hb1_12
      try simp only [au_std, Bool.not_true, Bool.not_false] at ghb1_12
      refine VX.meek rfl ?_
      refine VX.guardT rfl rfl hb1_12 ?_
      refine VX.meek rfl ?_
      refine VX.guardT rfl rfl hb1_12 ?_
      first | refine VX.meek rfl ?_ | refine VX.loadI rfl rfl au_l ?_ | refine VX.loadP rfl rfl rfl au_l ?_
      refine VX.guardT rfl rfl hb1_12 ?_
      refine VX.meek rfl ?_
      refine VX.pickO rfl (fun _ => rfl) ?_
      exact VX.nil ⟨rfl, rfl⟩
    · refine VX.guardF rfl rfl hb1_12 ?_
      refine VX.guardF rfl rfl hb1_12 ?_
      refine VX.guardF rfl rfl hb1_12 ?_
      exact VX.pickO rfl (fun h => absurd (h.symm.trans hb1_12) (by decide)) (VX.nil ⟨rfl, rfl⟩)
  refine VX.nil ?_
  refine VC.cond rfl (fun hc0 => ?_) (fun hc0 => ?_)
  · (try simp only [au_std] at hc0); have hres : atG w h px x y = 0 := if_neg (by rw [inB_iff]; omega)
    refine VC.reg tab_ok [] rfl ?_
    refine VX.meek rfl ?_
    refine VX.nil ?_
    refine VC.ret ?_
    exact ⟨trivial, _, rfl, Cv.eq (congrArg U8 hres.symm) rfl⟩
  · (try simp only [au_std] at hc0); have hin := in_place (x := x) (y := y) hw hh (by omega) (by omega) (by omega) (by omega); have hres : atG w h px x y = px[(y * w + x).toNat]! := if_pos (by rw [inB_iff]; omega)
    refine VC.skip ?_
    refine VC.reg tab_ok [] rfl ?_
    refine VX.meek rfl ?_
    first | refine VX.meek rfl ?_ | refine VX.loadI rfl rfl au_l ?_ | refine VX.loadP rfl rfl rfl au_l ?_
    iterate 2 refine VX.meek rfl ?_
    first | refine VX.meek rfl ?_ | refine VX.loadI rfl rfl au_l ?_ | refine VX.loadP rfl rfl rfl au_l ?_
    first | refine VX.mul rfl rfl (by omega) ?_ | refine VX.meek rfl ?_
    refine VX.meek rfl ?_
    first | refine VX.add rfl rfl (by omega) ?_ | refine VX.meek rfl ?_
    first | refine VX.idxI rfl rfl rfl rfl rfl rfl (by omega) ?_ | refine VX.idxO0 rfl rfl rfl rfl rfl rfl rfl (by omega) ?_ | refine VX.idxO0 rfl rfl rfl rfl rfl rfl au_z (by omega) ?_ | refine VX.idxO rfl rfl rfl rfl rfl rfl rfl (by omega) ?_ | refine VX.idxI rfl rfl rfl rfl rfl au_z (by omega) ?_ | refine VX.idxO rfl rfl rfl rfl rfl rfl au_z (by omega) ?_ | refine VX.meek rfl ?_
    first | refine VX.meek rfl ?_ | refine VX.loadI rfl rfl au_l ?_ | refine VX.loadP rfl rfl rfl au_l ?_
    refine VX.meek rfl ?_
    refine VX.nil ?_
    refine VC.ret ?_
    exact ⟨trivial, _, rfl, Cv.eq (congrArg U8 hres.symm) rfl⟩
theorem at23_t (w h : Nat) (px : List Int) (x y : Int) (c : Option Nat) (hw : w ≤ 128) (hh : h ≤ 128) (hl : px.length = w * h) : CallT Tryz.prog 75 [.agg [I64 w, I64 h, .slc 0 0 px.length 1 c], I64 x, I64 y] [.c (encL cU px)] (fun t H' => t = U8 (atG w h px x y) ∧ H' = [.c (encL cU px)]) := by
  refine CallT.intro tab_ok Tryz.func75 rfl (by kernel_rfl) (Nat.le_of_ble_eq_true rfl) ?_
  refine VC.reg tab_ok [3] rfl ?_
  refine VX.newI rfl rfl ?_
  refine VX.meek rfl ?_
  refine VX.nil ?_
  refine VC.seq ?_
  refine VC.reg tab_ok [] rfl ?_
  iterate 3 refine VX.meek rfl ?_
  refine' VX.merge (d := 12) [_, _, _] rfl ?_ rfl ?_
  rotate_left
  · refine VX.guard rfl rfl (fun hb1_2 => ?_) (fun hb1_2 => ?_)
    · have ghb1_2 := hb1_2
      try simp only [au_std, Bool.not_true, Bool.not_false] at ghb1_2
      refine VX.meek rfl ?_
      refine VX.guardT rfl rfl hb1_2 ?_
      refine VX.meek rfl ?_
      refine VX.pickO rfl (fun _ => rfl) ?_
      exact VX.nil ⟨rfl, rfl⟩
    · refine VX.guardF rfl rfl hb1_2 ?_
      exact VX.pickO rfl (fun h => absurd (h.symm.trans hb1_2) (by decide)) (VX.nil ⟨rfl, rfl⟩)
  refine VX.meek rfl ?_
  refine' VX.merge (d := 18) [_, _, _, _, _] rfl ?_ rfl ?_
  rotate_left
  · refine VX.guard rfl rfl (fun hb1_6 => ?_) (fun hb1_6 => ?_)
    · have ghb1_6 := hb1_6
      try simp only [au_std, Bool.not_true, Bool.not_false] at ghb1_6
      refine VX.meek rfl ?_
      refine VX.guardT rfl rfl hb1_6 ?_
      refine VX.meek rfl ?_
      refine VX.guardT rfl rfl hb1_6 ?_
      first | refine VX.meek rfl ?_ | refine VX.loadI rfl rfl au_l ?_ | refine VX.loadP rfl rfl rfl au_l ?_
      refine VX.guardT rfl rfl hb1_6 ?_
      refine VX.meek rfl ?_
      refine VX.pickO rfl (fun _ => rfl) ?_
      exact VX.nil ⟨rfl, rfl⟩
    · refine VX.guardF rfl rfl hb1_6 ?_
      refine VX.guardF rfl rfl hb1_6 ?_
      refine VX.guardF rfl rfl hb1_6 ?_
      exact VX.pickO rfl (fun h => absurd (h.symm.trans hb1_6) (by decide)) (VX.nil ⟨rfl, rfl⟩)
  refine VX.meek rfl ?_
  refine' VX.merge (d := 24) [_, _, _, _, _] rfl ?_ rfl ?_
  rotate_left
  · refine VX.guard rfl rfl (fun hb1_12 => ?_) (fun hb1_12 => ?_)
    · have ghb1_12 := hb1_12
      try simp only [au_std, Bool.not_true, Bool.not_false] at ghb1_12
      refine VX.meek rfl ?_
      refine VX.guardT rfl rfl hb1_12 ?_
      refine VX.meek rfl ?_
      refine VX.guardT rfl rfl hb1_12 ?_
      first | refine VX.meek rfl ?_ | refine VX.loadI rfl rfl au_l ?_ | refine VX.loadP rfl rfl rfl au_l ?_
      refine VX.guardT rfl rfl hb1_12 ?_
      refine VX.meek rfl ?_
      refine VX.pickO rfl (fun _ => rfl) ?_
      exact VX.nil ⟨rfl, rfl⟩
    · refine VX.guardF rfl rfl hb1_12 ?_
      refine VX.guardF rfl rfl hb1_12 ?_
      refine VX.guardF rfl rfl hb1_12 ?_
      exact VX.pickO rfl (fun h => absurd (h.symm.trans hb1_12) (by decide)) (VX.nil ⟨rfl, rfl⟩)
  refine VX.nil ?_
  refine VC.cond rfl (fun hc0 => ?_) (fun hc0 => ?_)
  · (try simp only [au_std] at hc0); have hres : atG w h px x y = 0 := if_neg (by rw [inB_iff]; omega)
    refine VC.reg tab_ok [] rfl ?_
    refine VX.meek rfl ?_
    refine VX.nil ?_
    refine VC.ret ?_
    exact ⟨trivial, _, rfl, congrArg U8 hres.symm, rfl⟩
  · (try simp only [au_std] at hc0); have hin := in_place (x := x) (y := y) hw hh (by omega) (by omega) (by omega) (by omega); have hres : atG w h px x y = px[(y * w + x).toNat]! := if_pos (by rw [inB_iff]; omega)
    refine VC.skip ?_
    refine VC.reg tab_ok [] rfl ?_
    refine VX.meek rfl ?_
    first | refine VX.meek rfl ?_ | refine VX.loadI rfl rfl au_l ?_ | refine VX.loadP rfl rfl rfl au_l ?_
    iterate 2 refine VX.meek rfl ?_
    first | refine VX.meek rfl ?_ | refine VX.loadI rfl rfl au_l ?_ | refine VX.loadP rfl rfl rfl au_l ?_
    first | refine VX.mul rfl rfl (by omega) ?_ | refine VX.meek rfl ?_
    refine VX.meek rfl ?_
    first | refine VX.add rfl rfl (by omega) ?_ | refine VX.meek rfl ?_
    first | refine VX.idxI rfl rfl rfl rfl rfl rfl (by omega) ?_ | refine VX.idxO0 rfl rfl rfl rfl rfl rfl rfl (by omega) ?_ | refine VX.idxO0 rfl rfl rfl rfl rfl rfl au_z (by omega) ?_ | refine VX.idxO rfl rfl rfl rfl rfl rfl rfl (by omega) ?_ | refine VX.idxI rfl rfl rfl rfl rfl au_z (by omega) ?_ | refine VX.idxO rfl rfl rfl rfl rfl rfl au_z (by omega) ?_ | refine VX.meek rfl ?_
    first | refine VX.meek rfl ?_ | refine VX.loadI rfl rfl au_l ?_ | refine VX.loadP rfl rfl rfl au_l ?_
    refine VX.meek rfl ?_
    refine VX.nil ?_
    refine VC.ret ?_
    exact ⟨trivial, _, rfl, congrArg U8 hres.symm, rfl⟩
abbrev inkT (f pl p : Int) : T := .agg [I64 f, U8 pl, U8 p]
theorem paint23_t (w h : Nat) (s : List Int) (x y f pl p : Int) (c : Option Nat) (hw : w ≤ 128) (hh : h ≤ 128) (hs : s.length = w * h) (hb : ∀ v ∈ s, 0 ≤ v ∧ v < 256) (hx : 0 ≤ x) (hx2 : x < w) (hy : 0 ≤ y) (hy2 : y < h) (hp : 0 ≤ p ∧ p < 256) (hpl : 0 ≤ pl ∧ pl < 256) :
    CallT Tryz.prog 92 [.agg [I64 w, I64 h, .slc 0 0 s.length 1 c], I64 x, I64 y, inkT f pl p] [.c (encL cU s)] (fun t H' => t = .tup [] ∧ H' = [.c (encL cU (s.set (y * w + x).toNat (mixI f p s[(y * w + x).toNat]! pl)))]) := by
  have hin := in_place hw hh hx hx2 hy hy2
  have hv := bang_bd hb (y * w + x).toNat
  have hat : atG w h s x y = s[(y * w + x).toNat]! := if_pos (inB_iff.2 ⟨hx, hx2, hy, hy2⟩)
  have hat2 := at23_t w h s x y c hw hh hs
  rw [hat] at hat2
  refine CallT.intro tab_ok Tryz.func92 rfl (by kernel_rfl) (Nat.le_of_ble_eq_true rfl) ?_
  refine VC.reg tab_ok [4, 7] rfl ?_
  refine VX.newI rfl rfl ?_
  refine VX.newI rfl rfl ?_
  refine VX.nil ?_
  refine VC.drwCN tab_ok [] [_, _, _, _, _, _, _, _, _, _, _, _, _, _, _, _, _, _, _] ([.d]) [false, false, false, false, false, false, false, false, false, false, false, false, false, false, false, true, false, false, false] rfl (by kernel_rfl) (by kernel_rfl) (by kernel_rfl) (by repeat' first | exact seen_nil | refine seen_dead ?_ | refine seen_same ?_) ?_
  refine VD.meek rfl ?_
  refine VD.meek rfl ?_
  refine VD.meek rfl ?_
  refine VD.meek rfl ?_
  refine VD.meek rfl ?_
  refine VD.mul rfl rfl (by omega) ?_
  refine VD.meek rfl ?_
  refine VD.add rfl rfl (by omega) ?_
  refine VD.meek rfl ?_
  refine VD.meek rfl ?_
  refine VD.meek rfl ?_
  refine VD.meek rfl ?_
  refine VD.meek rfl ?_
  refine VD.meek rfl ?_
  refine VD.meek rfl ?_
  refine VD.call (t := U8 s[(y * w + x).toNat]!) (F1 := [.c (encL cU s)]) rfl rfl ?_ ?_ ?_
  · refine CallT.frame (hat2) [0] rfl au_ci au_ci ?_
    rintro _ _ ⟨rfl, rfl⟩
    refine frK au_co au_co ?_
    exact ⟨rfl, rfl⟩
  · exact (by repeat' first | exact seen_nil | refine seen_dead ?_ | refine seen_same ?_)
  refine VD.meek rfl ?_
  refine VD.meek rfl ?_
  refine VD.callP rfl rfl (mix18_p f p _ pl hp hv hpl) ?_
  refine VD.nil ?_
  first | refine VX.idxI rfl rfl rfl rfl rfl rfl (by omega) ?_ | refine VX.idxO0 rfl rfl rfl rfl rfl rfl rfl (by omega) ?_ | refine VX.idxO0 rfl rfl rfl rfl rfl rfl au_z (by omega) ?_ | refine VX.idxO rfl rfl rfl rfl rfl rfl rfl (by omega) ?_ | refine VX.idxI rfl rfl rfl rfl rfl au_z (by omega) ?_ | refine VX.idxO rfl rfl rfl rfl rfl rfl au_z (by omega) ?_ | refine VX.meek rfl ?_
  refine VX.store rfl rfl rfl rfl rfl (by rw [encL_len, cU_sz]; dsimp only; omega) rfl ?_
  refine VX.nil ?_
  exact ⟨trivial, _, rfl, rfl, by rw [← cells_put (by omega)]; rfl⟩
theorem mApp_empty {tab : Tab} {H : Hp} {t1 t2 : Nat} {y : T} {i j : TyI} {e n2 : Nat} {ys : List T} {cs : List T} (hT : tab t1 = some i) (hk : i.k = .sl e) (hj : tab e = some j) (hs : srcCells tab (lookH H) t2 j.sz y = some (ys, n2)) (h2 : n2 * j.by_ ≤ 2 ^ 47) (h3 : n2 ≤ 2 ^ 47) (h4 : n2 * j.sz = ys.length) :
    mAppend tab H t1 t2 (.islc cs 0 (some 0)) y = some (.slc H.length 0 n2 j.sz none, H ++ [.c ys]) := by
  simp only [mAppend, hT, hk, hj, hs]
  rw [if_pos ⟨h2, h3, h4⟩]
theorem copied_t (w h : Nat) (px : List Int) (hl : px.length ≤ 100000) : CallT Tryz.prog 88 [gT w h px] [] (fun t H' => t = .agg [I64 w, I64 h, .slc 1 0 px.length 1 none] ∧ H' = [.c [I64 w, I64 h, .slc 1 0 px.length 1 none], .c (encL cU px)]) := by
  refine CallT.intro tab_ok Tryz.func88 rfl (by kernel_rfl) (Nat.le_of_ble_eq_true rfl) ?_
  refine VC.reg tab_ok [1] rfl ?_
  refine VX.newI rfl rfl ?_
  refine VX.new rfl rfl ?_
  refine VX.nil ?_
  refine VC.drwC tab_ok [7] [_, _, _, _, _, _, _, _] ([.c [I64 0, I64 0, NIL]]) [false, false, false, false, false, false, false, true] rfl (by kernel_rfl) (by kernel_rfl) (by kernel_rfl) (by repeat' first | exact seen_nil | refine seen_dead ?_ | refine seen_same ?_) ?_
  refine VD.meek rfl ?_
  refine VD.meek rfl ?_
  refine VD.meek rfl ?_
  refine VD.meek rfl ?_
  refine VD.newI rfl ?_
  refine VD.meek rfl ?_
  refine VD.meek rfl ?_
  refine VD.app rfl rfl (mApp_empty rfl rfl rfl (src_isl cU rfl rfl rfl) (by dsimp only; omega) (by omega) (by rw [encL_len]; rfl)) (seen_same seen_nil) ?_
  refine VD.nil ?_
  refine VX.meek rfl ?_
  refine VX.store rfl rfl rfl rfl rfl au_sR rfl ?_
  refine VX.nil ?_
  refine VC.ret ?_
  exact ⟨trivial, _, rfl, rfl, rfl⟩
theorem copied_p (w h : Nat) (px : List Int) (hl : px.length ≤ 100000) : CallP Tryz.prog 88 [gT w h px] (gT w h px) :=
  CallP.intro2 (by simp only [T.pureL, T.pure, encL_pure]; rfl) (by simp only [T.pureL, T.pure, encL_pure]; rfl) ((copied_t w h px hl).mono fun t H' ⟨h1, h2⟩ => by
    subst h1 h2; exact Cv.agg (cv_g (Cv.fslc0 ⟨rfl, by simp⟩ (CvL.pure (encL_pure cU _)))))
end
section
open Go.RowKit Go.Sort
set_option maxRecDepth 10000
def mixQ (f p pl : Int) : Int → Int → Int → Int := fun _ _ o => mixI f p o pl
theorem mixQ_bd (f p pl : Int) : ∀ x y o, 0 ≤ o ∧ o < 256 → 0 ≤ mixQ f p pl x y o ∧ mixQ f p pl x y o < 256 := fun x y o _ => by have := mixI_bd f p o pl; unfold mixQ; omega
def visV (V : Int → Int → Prop) (y x : Int) (a b : Int) : Prop := V a b ∧ (b < y ∨ (b = y ∧ a < x))
theorem paint23_n (w h : Nat) (s : List Int) (x y f pl p : Int) (n : Nat) (hn : s.length = n) (hw : w ≤ 128) (hh : h ≤ 128) (hs : s.length = w * h) (hb : ∀ v ∈ s, 0 ≤ v ∧ v < 256) (hx : 0 ≤ x) (hx2 : x < w) (hy : 0 ≤ y) (hy2 : y < h) (hp : 0 ≤ p ∧ p < 256) (hpl : 0 ≤ pl ∧ pl < 256) :
    CallT Tryz.prog 92 [.agg [I64 w, I64 h, .slc 0 0 n 1 none], I64 x, I64 y, inkT f pl p] [.c (encL cU s)] (fun t H' => t = .tup [] ∧ H' = [.c (encL cU (s.set (y * w + x).toNat (mixI f p s[(y * w + x).toNat]! pl)))]) := by
  subst hn; exact paint23_t w h s x y f pl p none hw hh hs hb hx hx2 hy hy2 hp hpl
theorem region23_q (w h : Nat) (px : List Int) (clip what : List Rect) (tl : List T) (htl : T.pureL tl = true) (f pl p : Int) (hw : w ≤ 128) (hh : h ≤ 128) (hl : px.length = w * h) (hb : ∀ v ∈ px, 0 ≤ v ∧ v < 256) (hcn : clip.length ≤ 1048576) (hwn : what.length ≤ 1048576) (hp : 0 ≤ p ∧ p < 256) (hpl : 0 ≤ pl ∧ pl < 256) :
    CallP Tryz.prog 27 [gT w h px, .islc (encL cR clip) clip.length none, .islc (encL cR what ++ tl) what.length none, inkT f pl p] (gT w h (paintL w (fun a b => inL (clip.filter countsB) a b ∧ inL (what.filter countsB) a b) (mixQ f p pl) px)) := by
  have hpu : T.pureL [gT w h px, .islc (encL cR clip) clip.length none, .islc (encL cR what ++ tl) what.length none, inkT f pl p] = true := by simp only [T.pureL, T.pure, pureL_app, encL_pure, htl]; rfl
  have hpr : T.pure (gT w h (paintL w (fun a b => inL (clip.filter countsB) a b ∧ inL (what.filter countsB) a b) (mixQ f p pl) px)) = true := by simp only [T.pureL, T.pure, encL_pure]; rfl
  have hwh : w * h ≤ 128 * 128 := Nat.mul_le_mul hw hh
  refine CallP.intro2 hpu hpr ?_
  generalize hV : (fun a b => inL (clip.filter countsB) a b ∧ inL (what.filter countsB) a b) = V
  have hV2 : ∀ a b, V a b ↔ inL (clip.filter countsB) a b ∧ inL (what.filter countsB) a b := fun a b => by rw [← hV]
  have hlen : ∀ y x, (paintL w (visV V y x) (mixQ f p pl) px).length = px.length := fun y x => paintL_len _ _ _ _
  have hgp : T.pureL [I64 w, I64 h, .islc (encL cU px) px.length none] = true := by simp only [T.pureL, T.pure, encL_pure, Bool.and_self]
  refine CallT.intro tab_ok Tryz.func27 rfl (by kernel_rfl) (Nat.le_of_ble_eq_true rfl) ?_
  refine VC.reg tab_ok [4, 7] rfl ?_
  refine VX.newI rfl rfl ?_
  refine VX.newI rfl rfl ?_
  refine VX.new rfl rfl ?_
  refine VX.nil ?_
  refine VC.reg tab_ok [] rfl ?_
  first | refine VX.meek rfl ?_ | refine VX.loadI rfl rfl au_l ?_ | refine VX.loadP rfl rfl rfl au_l ?_
  refine VX.callT rfl rfl (CallT.frame (copied_t w h px (by omega)) [] rfl au_ci au_ci ?_)
  rintro _ _ ⟨rfl, rfl⟩
  refine frK au_co au_co ?_
  refine VX.new rfl rfl ?_
  refine VX.store rfl rfl rfl rfl rfl au_sR rfl ?_
  refine VX.nil ?_
  refine VC.seq ?_
  refine VC.reg tab_ok [] rfl ?_
  refine VX.meek rfl ?_
  refine VX.nil ?_
  refine VC.block ?_
  refine VC.loopS (σ := Nat) (fun y => h - y) (fun y => y ≤ h) (fun y => [(10, I64 y), (8, .ptr 0 0), (9, .ptr 1 0)]) (fun y => [.c [I64 0, I64 0, NIL], .c [I64 w, I64 h, .slc 2 0 px.length 1 none], .c (encL cU (paintL w (visV V y 0) (mixQ f p pl) px))]) [1, 2, 4, 7] rfl (0) ?_ ?_ ?_
  · refine ⟨[some 0, some 3, some 2], rfl, by first | trivial | decide, rfl, ?_, ?_⟩ <;> (repeat' first | exact trivial | exact CvB_n | exact CvB_d | refine CvE_app ?_ ?_ | refine CvE_cons rfl ?_ ?_ | refine CvH_cons ?_ ?_ | refine CvB_c rfl ?_ | fail) <;> first | exact au_v | (first | exact Cv.pure hgp | exact cv_g (Cv.slc rfl (.inl rfl)) | (refine CvL.eq (congrArg (encL cU) ?_) (encL_pure cU _); exact (paint_none hl (fun a b _ _ _ _ hh => by unfold visV at hh; omega)).symm) | exact Cv.pure (by show T.pure (.islc (encL cR what ++ tl) what.length none) = true; simp only [T.pure, pureL_app, encL_pure, htl]; rfl))
  · (try dsimp only); omega
  rintro y hy
  refine VC.seq ?_
  refine VC.reg tab_ok [] rfl ?_
  iterate 2 refine VX.meek rfl ?_
  first | refine VX.meek rfl ?_ | refine VX.loadI rfl rfl au_l ?_ | refine VX.loadP rfl rfl rfl au_l ?_
  refine VX.meek rfl ?_
  refine VX.nil ?_
  refine VC.cond rfl (fun hc0 => ?_) (fun hc0 => ?_)
  · (try simp only [au_std] at hc0); have hyl : y < h := (by omega)
    refine VC.skip ?_
    refine VC.seq ?_
    refine VC.block ?_
    refine VC.reg tab_ok [] rfl ?_
    refine VX.meek rfl ?_
    refine VX.nil ?_
    refine VC.block ?_
    refine VC.loopS (σ := Nat) (fun x => w - x) (fun x => x ≤ w) (fun x => [(11, I64 x), (8, .ptr 0 0), (9, .ptr 1 0)]) (fun x => [.c [I64 0, I64 0, NIL], .c [I64 w, I64 h, .slc 2 0 px.length 1 none], .c (encL cU (paintL w (visV V y x) (mixQ f p pl) px))]) [1, 2, 4, 7, 10] rfl (0) ?_ ?_ ?_
    · refine ⟨[some 0, some 1, some 2], rfl, by first | trivial | decide, rfl, ?_, ?_⟩ <;> (repeat' first | exact trivial | exact CvB_n | exact CvB_d | refine CvE_app ?_ ?_ | refine CvE_cons rfl ?_ ?_ | refine CvH_cons ?_ ?_ | refine CvB_c rfl ?_ | fail) <;> first | exact au_v | (first | exact Cv.pure hgp | exact cv_g (Cv.slc rfl (.inl rfl)) | exact Cv.pure (by show T.pure (.islc (encL cR what ++ tl) what.length none) = true; simp only [T.pure, pureL_app, encL_pure, htl]; rfl))
    · (try dsimp only); omega
    rintro x hx
    refine VC.seq ?_
    refine VC.reg tab_ok [] rfl ?_
    iterate 2 refine VX.meek rfl ?_
    first | refine VX.meek rfl ?_ | refine VX.loadI rfl rfl au_l ?_ | refine VX.loadP rfl rfl rfl au_l ?_
    refine VX.meek rfl ?_
    refine VX.nil ?_
    refine VC.cond rfl (fun hc1 => ?_) (fun hc1 => ?_)
    · (try simp only [au_std] at hc1); have hxl : x < w := (by omega); have hpi := place_lt (x := (x : Int)) (y := (y : Int)) (by omega) (by omega) (by omega) (show (y : Int) < h by omega); have hln := hlen y x
      refine VC.skip ?_
      refine VC.seq ?_
      refine VC.block ?_
      refine VC.reg tab_ok [] rfl ?_
      iterate 3 refine VX.meek rfl ?_
      refine VX.callP0 rfl rfl rfl (in23_p clip x y hcn) ?_
      refine VX.meek rfl ?_
      refine' VX.merge (d := 35) [_, _, _, _, _] rfl ?_ rfl ?_
      rotate_left
      · refine VX.guard rfl rfl (fun hb8_4 => ?_) (fun hb8_4 => ?_)
        · have ghb8_4 := hb8_4
          try simp only [au_std, Bool.not_true, Bool.not_false] at ghb8_4
          refine VX.meek rfl ?_
          refine VX.guardT rfl rfl hb8_4 ?_
          refine VX.meek rfl ?_
          refine VX.guardT rfl rfl hb8_4 ?_
          refine VX.meek rfl ?_
          refine VX.guardT rfl rfl hb8_4 ?_
          refine VX.callP0 rfl rfl rfl (in23_q what tl htl x y hwn) ?_
          refine VX.pickA rfl (fun _ => rfl) ?_
          exact VX.nil ⟨rfl, rfl⟩
        · refine VX.guardF rfl rfl hb8_4 ?_
          refine VX.guardF rfl rfl hb8_4 ?_
          refine VX.guardF rfl rfl hb8_4 ?_
          exact VX.pickA rfl (fun h => absurd (h.symm.trans hb8_4) (by decide)) (VX.nil ⟨rfl, rfl⟩)
      refine VX.nil ?_
      refine VC.cond rfl (fun hc2 => ?_) (fun hc2 => ?_)
      · simp only [Bool.and_eq_true, decide_eq_true_eq] at hc2; have hVx := (hV2 x y).2 hc2
        have hst : (paintL w (visV V y x) (mixQ f p pl) px).set ((y : Int) * w + x).toNat (mixI f p (paintL w (visV V y x) (mixQ f p pl) px)[((y : Int) * w + x).toNat]! pl) = paintL w (visV V y (x + 1 : Nat)) (mixQ f p pl) px := paint_put hl (by omega) (by omega) (by omega) (show (y : Int) < h by omega) (by
          rw [paintL_not ⟨by omega, by omega⟩ (by omega) (by omega) (by unfold visV; omega)]; rfl) (fun a b _ _ _ _ => by
            unfold visV
            by_cases hab : a = x ∧ b = y
            · obtain ⟨rfl, rfl⟩ := hab; exact ⟨fun _ => .inr ⟨rfl, rfl⟩, fun _ => ⟨hVx, .inr ⟨rfl, by omega⟩⟩⟩
            · by_cases hv : V a b
              · simp only [hv, true_and]; omega
              · simp only [hv, false_and, false_or]; exact ⟨fun k => k.elim, fun k => absurd k hab⟩)
        refine VC.regN tab_ok [] rfl ?_
        first | refine VX.meek rfl ?_ | refine VX.loadI rfl rfl au_l ?_ | refine VX.loadP rfl rfl rfl au_l ?_
        iterate 2 refine VX.meek rfl ?_
        first | refine VX.meek rfl ?_ | refine VX.loadI rfl rfl au_l ?_ | refine VX.loadP rfl rfl rfl au_l ?_
        refine VX.callT rfl rfl (CallT.frame (paint23_n w h (paintL w (visV V y x) (mixQ f p pl) px) x y f pl p px.length hln hw hh (by rw [hln, hl]) (paintL_bd hb (mixQ_bd f p pl)) (by omega) (by omega) (by omega) (by omega) hp hpl) [2] rfl au_ci au_ci ?_)
        rintro _ _ ⟨rfl, rfl⟩
        refine frK au_co au_co ?_
        refine VX.nil ?_
        refine VC.regN tab_ok [] rfl ?_
        refine VX.meek rfl ?_
        first | refine VX.add rfl rfl (by omega) ?_ | refine VX.meek rfl ?_
        refine VX.meek rfl ?_
        refine VX.nil ?_
        refine ⟨x + 1, by (try dsimp only); omega, ?_, (by refine ⟨[some 0, some 1, some 2], rfl, by first | trivial | decide, rfl, ?_, ?_⟩ <;> (repeat' first | exact trivial | exact CvB_n | exact CvB_d | refine CvE_app ?_ ?_ | refine CvE_cons rfl ?_ ?_ | refine CvH_cons ?_ ?_ | refine CvB_c rfl ?_ | fail) <;> first | exact au_v | (first | exact Cv.pure hgp | exact cv_g (Cv.slc rfl (.inl rfl)) | exact CvL.eq (congrArg (encL cU) hst) (encL_pure cU _) | exact Cv.pure (by show T.pure (.islc (encL cR what ++ tl) what.length none) = true; simp only [T.pure, pureL_app, encL_pure, htl]; rfl)))⟩
        (try dsimp only); omega
      · have hVx : ¬ V x y := (fun k => by have k2 := (hV2 x y).1 k; rw [decide_eq_true k2.1, decide_eq_true k2.2] at hc2; cases hc2)
        have hst : paintL w (visV V y x) (mixQ f p pl) px = paintL w (visV V y (x + 1 : Nat)) (mixQ f p pl) px := paint_congr hl (fun a b _ _ _ _ => by
          unfold visV
          by_cases hab : a = x ∧ b = y
          · obtain ⟨rfl, rfl⟩ := hab; simp only [hVx, false_and]
          · by_cases hv : V a b
            · simp only [hv, true_and]; omega
            · simp only [hv, false_and]) (fun _ _ _ _ _ _ _ => rfl)
        refine VC.skip ?_
        refine VC.regN tab_ok [] rfl ?_
        refine VX.meek rfl ?_
        first | refine VX.add rfl rfl (by omega) ?_ | refine VX.meek rfl ?_
        refine VX.meek rfl ?_
        refine VX.nil ?_
        refine ⟨x + 1, by (try dsimp only); omega, ?_, (by refine ⟨[some 0, some 1, some 2], rfl, by first | trivial | decide, rfl, ?_, ?_⟩ <;> (repeat' first | exact trivial | exact CvB_n | exact CvB_d | refine CvE_app ?_ ?_ | refine CvE_cons rfl ?_ ?_ | refine CvH_cons ?_ ?_ | refine CvB_c rfl ?_ | fail) <;> first | exact au_v | (first | exact Cv.pure hgp | exact cv_g (Cv.slc rfl (.inl rfl)) | exact CvL.eq (congrArg (encL cU) hst) (encL_pure cU _) | exact Cv.pure (by show T.pure (.islc (encL cR what ++ tl) what.length none) = true; simp only [T.pure, pureL_app, encL_pure, htl]; rfl)))⟩
        (try dsimp only); omega
    · (try simp only [au_std] at hc1); have hxw : (x : Int) = w := (by omega)
      refine VC.exit ?_
      refine VC.regN tab_ok [] rfl ?_
      refine VX.meek rfl ?_
      first | refine VX.add rfl rfl (by omega) ?_ | refine VX.meek rfl ?_
      refine VX.meek rfl ?_
      refine VX.nil ?_
      refine ⟨y + 1, by (try dsimp only); omega, ?_, (by refine ⟨[some 0, some 1, some 2], rfl, by first | trivial | decide, rfl, ?_, ?_⟩ <;> (repeat' first | exact trivial | exact CvB_n | exact CvB_d | refine CvE_app ?_ ?_ | refine CvE_cons rfl ?_ ?_ | refine CvH_cons ?_ ?_ | refine CvB_c rfl ?_ | fail) <;> first | exact au_v | (first | exact Cv.pure hgp | exact cv_g (Cv.slc rfl (.inl rfl)) | (refine CvL.eq (congrArg (encL cU) ?_) (encL_pure cU _); exact paint_congr hl (fun a b h1 h2 h3 h4 => by unfold visV; by_cases hv : V a b; simp only [hv, true_and]; omega; simp only [hv, false_and]) (fun _ _ _ _ _ _ _ => rfl)) | exact Cv.pure (by show T.pure (.islc (encL cR what ++ tl) what.length none) = true; simp only [T.pure, pureL_app, encL_pure, htl]; rfl)))⟩
      (try dsimp only); omega
  · (try simp only [au_std] at hc0); obtain rfl : h = y := (by omega); have hfin : paintL w (visV V h 0) (mixQ f p pl) px = paintL w V (mixQ f p pl) px := paint_congr hl (fun a b h1 h2 h3 h4 => by unfold visV; by_cases hv : V a b; simp only [hv, true_and, true_iff]; omega; simp only [hv, false_and]) (fun _ _ _ _ _ _ _ => rfl)
    rw [hfin]; have hfl := paintL_len w V (mixQ f p pl) px
    refine VC.exit ?_
    refine VC.reg tab_ok [] rfl ?_
    first | refine VX.meek rfl ?_ | refine VX.loadI rfl rfl au_l ?_ | refine VX.loadP rfl rfl rfl au_l ?_
    refine VX.store rfl rfl rfl rfl rfl au_sR rfl ?_
    refine VX.nil ?_
    refine VC.ret ?_
    refine ⟨trivial, _, rfl, Cv.agg (cv_g ?_)⟩; rw [hfl]; exact Cv.fslc0 ⟨rfl, by simp⟩ (CvL.pure (encL_pure cU _))
noncomputable def rectsQ (w : Nat) (clip : List Rect) (f : Int → Int → Int → Int) (l : List Rect) (px : List Int) : List Int := l.foldl (fun s r => paintL w (fun x y => inL (clip.filter countsB) x y ∧ inL ([r].filter countsB) x y) f s) px
theorem rectsQ_len (w : Nat) (clip : List Rect) (f : Int → Int → Int → Int) : ∀ (l : List Rect) (px : List Int), (rectsQ w clip f l px).length = px.length
  | [], px => rfl
  | r :: l, px => by show (rectsQ w clip f l _).length = _; rw [rectsQ_len w clip f l, paintL_len]
theorem rectsQ_bd {w : Nat} {clip : List Rect} {f : Int → Int → Int → Int} (hf : ∀ x y o, 0 ≤ o ∧ o < 256 → 0 ≤ f x y o ∧ f x y o < 256) : ∀ {l : List Rect} {px : List Int}, (∀ v ∈ px, 0 ≤ v ∧ v < 256) → ∀ v ∈ rectsQ w clip f l px, 0 ≤ v ∧ v < 256
  | [], px, h => h
  | r :: l, px, h => rectsQ_bd hf (l := l) (paintL_bd h hf)
theorem rectsQ_snoc {w : Nat} {clip : List Rect} {f : Int → Int → Int → Int} {l : List Rect} {k : Nat} {px : List Int} (h : k < l.length) : rectsQ w clip f (l.take (k + 1)) px = paintL w (fun x y => inL (clip.filter countsB) x y ∧ inL ([l[k]!].filter countsB) x y) f (rectsQ w clip f (l.take k) px) := by
  unfold rectsQ
  rw [take_snoc h, List.foldl_append]; rfl
theorem rects23_p (w h : Nat) (px : List Int) (clip l : List Rect) (f pl p : Int) (hw : w ≤ 128) (hh : h ≤ 128) (hl : px.length = w * h) (hb : ∀ v ∈ px, 0 ≤ v ∧ v < 256) (hcn : clip.length ≤ 1048576) (hln : l.length ≤ 1048576) (hp : 0 ≤ p ∧ p < 256) (hpl : 0 ≤ pl ∧ pl < 256) :
    CallP Tryz.prog 32 [gT w h px, .islc (encL cR clip) clip.length none, inkT f pl p, .islc (encL cR l) l.length none] (gT w h (rectsQ w clip (mixQ f p pl) l px)) := by
  have hwh : w * h ≤ 128 * 128 := Nat.mul_le_mul hw hh
  have hgp : T.pureL [I64 w, I64 h, .islc (encL cU px) px.length none] = true := by simp only [T.pureL, T.pure, encL_pure, Bool.and_self]
  refine CallP.intro2 au_pu au_pu ?_
  refine CallT.intro tab_ok Tryz.func32 rfl (by kernel_rfl) (Nat.le_of_ble_eq_true rfl) ?_
  refine VC.reg tab_ok [6] rfl ?_
  refine VX.new rfl rfl ?_
  refine VX.newI rfl rfl ?_
  refine VX.new rfl rfl ?_
  refine VX.nil ?_
  refine VC.seq ?_
  refine VC.reg tab_ok [] rfl ?_
  refine VX.meek rfl ?_
  refine VX.nil ?_
  refine VC.block ?_
  refine VC.loopS (σ := Nat) (fun k => l.length - k) (fun k => k ≤ l.length) (fun k => [(9, I64 k), (8, .ptr 0 0), (4, .ptr 1 0)]) (fun k => [.c [I64 0, I64 0, NIL], .c [I64 w, I64 h, .islc (encL cU (rectsQ w clip (mixQ f p pl) (l.take k) px)) px.length none]]) [1, 3, 6] rfl (0) ?_ ?_ ?_
  · refine ⟨[some 1, some 0], rfl, by first | trivial | decide, rfl, ?_, ?_⟩ <;> (repeat' first | exact trivial | exact CvB_n | exact CvB_d | refine CvE_app ?_ ?_ | refine CvE_cons rfl ?_ ?_ | refine CvH_cons ?_ ?_ | refine CvB_c rfl ?_ | fail) <;> first | exact au_v | (first | exact CvL.pure rfl | exact CvL.pure hgp)
  · (try dsimp only); omega
  rintro k hk
  refine VC.seq ?_
  refine VC.reg tab_ok [] rfl ?_
  iterate 4 refine VX.meek rfl ?_
  refine VX.nil ?_
  refine VC.cond rfl (fun hc0 => ?_) (fun hc0 => ?_)
  · (try simp only [au_std] at hc0); have hkl : k < l.length := (by omega); have hsn := rectsQ_snoc (w := w) (clip := clip) (f := mixQ f p pl) (px := px) hkl; have hsl := rectsQ_len w clip (mixQ f p pl) (l.take k) px; have hsb := rectsQ_bd (w := w) (clip := clip) (mixQ_bd f p pl) (l := l.take k) hb
    have hdr : (encL cR l).drop (k * 4) = encL cR [l[k]!] ++ encL cR (l.drop (k + 1)) := (by rw [show (encL cR l).drop (k * 4) = encL cR (l.drop k) from encL_drop cR l k, List.drop_eq_getElem_cons hkl, getElem!_pos l k hkl]; rfl)
    have hreg : CallP Tryz.prog 27 [.agg [I64 w, I64 h, .islc (encL cU (rectsQ w clip (mixQ f p pl) (l.take k) px)) px.length none], .islc (encL cR clip) clip.length none, .islc (encL cR [l[k]!] ++ encL cR (l.drop (k + 1))) 1 none, inkT f pl p] (.agg [I64 w, I64 h, .islc (encL cU (rectsQ w clip (mixQ f p pl) (l.take (k + 1)) px)) px.length none]) := (by
      have q := region23_q w h (rectsQ w clip (mixQ f p pl) (l.take k) px) clip [l[k]!] (encL cR (l.drop (k + 1))) (encL_pure cR _) f pl p hw hh (by rw [hsl, hl]) hsb hcn (by simp) hp hpl
      rw [← hsn] at q
      simp only [gT, rectsQ_len] at q
      exact q)
    refine VC.skip ?_
    refine VC.seq ?_
    refine VC.block ?_
    refine VC.drwN tab_ok [] [_, _, _, _, _, _, _, _, _] rfl (by kernel_rfl) (by kernel_rfl) ?_
    first | refine VX.meek rfl ?_ | refine VX.loadI rfl rfl au_l ?_ | refine VX.loadP rfl rfl rfl au_l ?_
    iterate 4 refine VX.meek rfl ?_
    first | refine VX.add rfl rfl (by omega) ?_ | refine VX.meek rfl ?_
    refine VX.slcI (p := k) (r := k + 1) rfl rfl rfl rfl rfl rfl rfl rfl rfl (by omega) (by omega) (by omega) ?_; show VX _ _ _ _ _ _ ((22, .islc ((encL cR l).drop (k * 4)) (k + 1 - k) none) :: _) _ _; rw [hdr, show k + 1 - k = 1 from by omega]
    first | refine VX.meek rfl ?_ | refine VX.loadI rfl rfl au_l ?_ | refine VX.loadP rfl rfl rfl au_l ?_
    refine VX.callP0 rfl rfl rfl (hreg) ?_
    refine VX.nil ?_
    refine VX.store rfl rfl rfl rfl rfl au_sR rfl ?_
    refine VX.nil ?_
    refine VC.regN tab_ok [] rfl ?_
    refine VX.meek rfl ?_
    first | refine VX.add rfl rfl (by omega) ?_ | refine VX.meek rfl ?_
    refine VX.meek rfl ?_
    refine VX.nil ?_
    refine ⟨k + 1, by (try dsimp only); omega, ?_, (by refine ⟨[some 0, some 1], rfl, by first | trivial | decide, rfl, ?_, ?_⟩ <;> (repeat' first | exact trivial | exact CvB_n | exact CvB_d | refine CvE_app ?_ ?_ | refine CvE_cons rfl ?_ ?_ | refine CvH_cons ?_ ?_ | refine CvB_c rfl ?_ | fail) <;> first | exact au_v | (exact cv_g (Cv.pure (encL_pure cU _))))⟩
    (try dsimp only); omega
  · (try simp only [au_std] at hc0); obtain rfl : k = l.length := (by omega); rw [List.take_length]
    refine VC.exit ?_
    refine VC.reg tab_ok [] rfl ?_
    first | refine VX.meek rfl ?_ | refine VX.loadI rfl rfl au_l ?_ | refine VX.loadP rfl rfl rfl au_l ?_
    refine VX.callP0 rfl rfl rfl ((show CallP Tryz.prog 88 [.agg [I64 w, I64 h, .islc (encL cU (rectsQ w clip (mixQ f p pl) l px)) px.length none]] (.agg [I64 w, I64 h, .islc (encL cU (rectsQ w clip (mixQ f p pl) l px)) px.length none]) from by have q := copied_p w h (rectsQ w clip (mixQ f p pl) l px) (by rw [rectsQ_len]; omega); simp only [gT, rectsQ_len] at q; exact q)) ?_
    refine VX.store rfl rfl rfl rfl rfl au_sR rfl ?_
    refine VX.nil ?_
    refine VC.ret ?_
    refine ⟨trivial, _, rfl, Cv.agg (cv_g ?_)⟩; rw [rectsQ_len]; exact Cv.pure (encL_pure cU _)
end
section
open Go.RowKit Go.Sort
set_option maxRecDepth 10000
open Classical in
noncomputable def pointQ (w h : Nat) (C : Int → Int → Prop) (f : Int → Int → Int → Int) (q : Int × Int) (s : List Int) : List Int :=
  if inB' w h q.1 q.2 = true ∧ C q.1 q.2 then s.set (q.2 * w + q.1).toNat (f q.1 q.2 s[(q.2 * w + q.1).toNat]!) else s
noncomputable def pointsQ (w h : Nat) (C : Int → Int → Prop) (f : Int → Int → Int → Int) (l : List (Int × Int)) (px : List Int) : List Int := l.foldl (fun s q => pointQ w h C f q s) px
theorem pointsPx_eq (w h : Nat) (clip : List Rect) (p : PenS) (l : List (Int × Int)) (px : List Int) : pointsPx w h clip p l px = pointsQ w h (inL clip) (mixF p p.fo) l px := by
  unfold pointsPx pointsQ
  congr 1
  funext s q
  unfold pointPx pointQ
  by_cases hc : inB' w h q.1 q.2 = true ∧ inL clip q.1 q.2
  · rw [if_pos hc, if_pos hc]
  · rw [if_neg hc, if_neg hc]
theorem pointQ_len (w h : Nat) (C : Int → Int → Prop) (f : Int → Int → Int → Int) (q : Int × Int) (s : List Int) : (pointQ w h C f q s).length = s.length := by
  unfold pointQ; split
  · rw [List.length_set]
  · rfl
theorem pointsQ_len (w h : Nat) (C : Int → Int → Prop) (f : Int → Int → Int → Int) : ∀ (l : List (Int × Int)) (px : List Int), (pointsQ w h C f l px).length = px.length
  | [], px => rfl
  | q :: l, px => by show (pointsQ w h C f l _).length = _; rw [pointsQ_len w h C f l, pointQ_len]
theorem pointQ_bd {w h : Nat} {C : Int → Int → Prop} {f : Int → Int → Int → Int} (hf : ∀ x y o, 0 ≤ o ∧ o < 256 → 0 ≤ f x y o ∧ f x y o < 256) {q : Int × Int} {s : List Int} (hb : ∀ v ∈ s, 0 ≤ v ∧ v < 256) : ∀ v ∈ pointQ w h C f q s, 0 ≤ v ∧ v < 256 := by
  unfold pointQ; split
  · exact set_bd hb (hf _ _ _ (bang_bd hb _))
  · exact hb
theorem pointsQ_bd {w h : Nat} {C : Int → Int → Prop} {f : Int → Int → Int → Int} (hf : ∀ x y o, 0 ≤ o ∧ o < 256 → 0 ≤ f x y o ∧ f x y o < 256) : ∀ {l : List (Int × Int)} {px : List Int}, (∀ v ∈ px, 0 ≤ v ∧ v < 256) → ∀ v ∈ pointsQ w h C f l px, 0 ≤ v ∧ v < 256
  | [], px, hb => hb
  | q :: l, px, hb => pointsQ_bd hf (l := l) (pointQ_bd hf hb)
theorem pointsQ_snoc {w h : Nat} {C : Int → Int → Prop} {f : Int → Int → Int → Int} {l : List (Int × Int)} {k : Nat} {px : List Int} (hk : k < l.length) : pointsQ w h C f (l.take (k + 1)) px = pointQ w h C f l[k]! (pointsQ w h C f (l.take k) px) := by
  unfold pointsQ
  rw [take_snoc hk, List.foldl_append]; rfl
theorem pointsQ_congr {w h : Nat} {C D : Int → Int → Prop} {f : Int → Int → Int → Int} (h1 : ∀ x y, C x y ↔ D x y) (l : List (Int × Int)) (px : List Int) : pointsQ w h C f l px = pointsQ w h D f l px := by
  have : C = D := funext fun x => funext fun y => propext (h1 x y)
  rw [this]
theorem points23_p (w h : Nat) (px : List Int) (clip : List Rect) (l : List (Int × Int)) (f pl p : Int) (hw : w ≤ 128) (hh : h ≤ 128) (hl : px.length = w * h) (hb : ∀ v ∈ px, 0 ≤ v ∧ v < 256) (hcn : clip.length ≤ 1048576) (hln : l.length ≤ 1048576) (hp : 0 ≤ p ∧ p < 256) (hpl : 0 ≤ pl ∧ pl < 256) :
    CallP Tryz.prog 31 [gT w h px, .islc (encL cR clip) clip.length none, inkT f pl p, .islc (encL cP l) l.length none] (gT w h (pointsQ w h (fun a b => inL (clip.filter countsB) a b) (mixQ f p pl) l px)) := by
  have hwh : w * h ≤ 128 * 128 := Nat.mul_le_mul hw hh
  have hgp : T.pureL [I64 w, I64 h, .islc (encL cU px) px.length none] = true := by simp only [T.pureL, T.pure, encL_pure, Bool.and_self]
  have hfl := pointsQ_len w h (fun a b => inL (clip.filter countsB) a b) (mixQ f p pl) l px
  generalize hC : (fun a b => inL (clip.filter countsB) a b) = C
  have hC2 : ∀ a b, C a b ↔ inL (clip.filter countsB) a b := fun a b => by rw [← hC]
  rw [hC] at hfl
  refine CallP.intro2 au_pu au_pu ?_
  refine CallT.intro tab_ok Tryz.func31 rfl (by kernel_rfl) (Nat.le_of_ble_eq_true rfl) ?_
  refine VC.reg tab_ok [4, 6] rfl ?_
  refine VX.newI rfl rfl ?_
  refine VX.newI rfl rfl ?_
  refine VX.new rfl rfl ?_
  refine VX.nil ?_
  refine VC.reg tab_ok [] rfl ?_
  first | refine VX.meek rfl ?_ | refine VX.loadI rfl rfl au_l ?_ | refine VX.loadP rfl rfl rfl au_l ?_
  refine VX.callT rfl rfl (CallT.frame (copied_t w h px (by omega)) [] rfl au_ci au_ci ?_)
  rintro _ _ ⟨rfl, rfl⟩
  refine frK au_co au_co ?_
  refine VX.new rfl rfl ?_
  refine VX.store rfl rfl rfl rfl rfl au_sP rfl ?_
  refine VX.nil ?_
  refine VC.seq ?_
  refine VC.reg tab_ok [] rfl ?_
  refine VX.meek rfl ?_
  refine VX.nil ?_
  refine VC.block ?_
  refine VC.loopS (σ := Nat) (fun k => l.length - k) (fun k => k ≤ l.length) (fun k => [(10, I64 k), (8, .ptr 0 0), (9, .ptr 1 0)]) (fun k => [.c [I64 0, I64 0, NIL], .c [I64 w, I64 h, .slc 2 0 px.length 1 none], .c (encL cU (pointsQ w h C (mixQ f p pl) (l.take k) px))]) [1, 3, 4, 6] rfl (0) ?_ ?_ ?_
  · refine ⟨[some 0, some 3, some 2], rfl, by first | trivial | decide, rfl, ?_, ?_⟩ <;> (repeat' first | exact trivial | exact CvB_n | exact CvB_d | refine CvE_app ?_ ?_ | refine CvE_cons rfl ?_ ?_ | refine CvH_cons ?_ ?_ | refine CvB_c rfl ?_ | fail) <;> first | exact au_v | (first | exact Cv.pure hgp | exact cv_g (Cv.slc rfl (.inl rfl)) | exact CvL.pure (encL_pure cU _))
  · (try dsimp only); omega
  rintro k hk
  refine VC.seq ?_
  refine VC.reg tab_ok [] rfl ?_
  iterate 4 refine VX.meek rfl ?_
  refine VX.nil ?_
  refine VC.cond rfl (fun hc0 => ?_) (fun hc0 => ?_)
  · (try simp only [au_std] at hc0); have hkl : k < l.length := (by omega); have hsl := pointsQ_len w h C (mixQ f p pl) (l.take k) px; have hsb := pointsQ_bd (w := w) (h := h) (C := C) (mixQ_bd f p pl) (l := l.take k) hb; have hsn := pointsQ_snoc (w := w) (h := h) (C := C) (f := mixQ f p pl) (px := px) hkl
    refine VC.skip ?_
    refine VC.seq ?_
    refine VC.block ?_
    refine VC.drw tab_ok [] [_, _, _, _, _, _, _, _, _, _, _, _] rfl (by kernel_rfl) (by kernel_rfl) ?_
    iterate 2 refine VX.meek rfl ?_
    first | refine VX.idxI rfl rfl rfl rfl rfl rfl (by omega) ?_ | refine VX.idxO0 rfl rfl rfl rfl rfl rfl rfl (by omega) ?_ | refine VX.idxO0 rfl rfl rfl rfl rfl rfl au_z (by omega) ?_ | refine VX.idxO rfl rfl rfl rfl rfl rfl rfl (by omega) ?_ | refine VX.idxI rfl rfl rfl rfl rfl au_z (by omega) ?_ | refine VX.idxO rfl rfl rfl rfl rfl rfl au_z (by omega) ?_ | refine VX.meek rfl ?_
    refine VX.meek rfl ?_
    first | refine VX.meek rfl ?_ | refine VX.loadI rfl rfl au_l ?_ | refine VX.loadP rfl rfl rfl au_l ?_
    iterate 2 refine VX.meek rfl ?_
    first | refine VX.idxI rfl rfl rfl rfl rfl rfl (by omega) ?_ | refine VX.idxO0 rfl rfl rfl rfl rfl rfl rfl (by omega) ?_ | refine VX.idxO0 rfl rfl rfl rfl rfl rfl au_z (by omega) ?_ | refine VX.idxO rfl rfl rfl rfl rfl rfl rfl (by omega) ?_ | refine VX.idxI rfl rfl rfl rfl rfl au_z (by omega) ?_ | refine VX.idxO rfl rfl rfl rfl rfl rfl au_z (by omega) ?_ | refine VX.meek rfl ?_
    refine VX.meek rfl ?_
    first | refine VX.meek rfl ?_ | refine VX.loadI rfl rfl au_l ?_ | refine VX.loadP rfl rfl rfl au_l ?_
    iterate 2 refine VX.meek rfl ?_
    refine VX.nil ?_
    refine VX.nil ?_
    refine VC.reg tab_ok [] rfl ?_
    iterate 3 refine VX.meek rfl ?_
    refine' VX.merge (d := 36) [_, _, _] rfl ?_ rfl ?_
    rotate_left
    · refine VX.guard rfl rfl (fun hb6_2 => ?_) (fun hb6_2 => ?_)
      · have ghb6_2 := hb6_2
        try simp only [au_std, Bool.not_true, Bool.not_false] at ghb6_2
        refine VX.meek rfl ?_
        refine VX.guardT rfl rfl hb6_2 ?_
        refine VX.meek rfl ?_
        refine VX.pickA rfl (fun _ => rfl) ?_
        exact VX.nil ⟨rfl, rfl⟩
      · refine VX.guardF rfl rfl hb6_2 ?_
        exact VX.pickA rfl (fun h => absurd (h.symm.trans hb6_2) (by decide)) (VX.nil ⟨rfl, rfl⟩)
    refine VX.meek rfl ?_
    refine' VX.merge (d := 42) [_, _, _, _, _] rfl ?_ rfl ?_
    rotate_left
    · refine VX.guard rfl rfl (fun hb6_6 => ?_) (fun hb6_6 => ?_)
      · have ghb6_6 := hb6_6
        try simp only [au_std, Bool.not_true, Bool.not_false] at ghb6_6
        refine VX.meek rfl ?_
        refine VX.guardT rfl rfl hb6_6 ?_
        refine VX.meek rfl ?_
        refine VX.guardT rfl rfl hb6_6 ?_
        first | refine VX.meek rfl ?_ | refine VX.loadI rfl rfl au_l ?_ | refine VX.loadP rfl rfl rfl au_l ?_
        refine VX.guardT rfl rfl hb6_6 ?_
        refine VX.meek rfl ?_
        refine VX.pickA rfl (fun _ => rfl) ?_
        exact VX.nil ⟨rfl, rfl⟩
      · refine VX.guardF rfl rfl hb6_6 ?_
        refine VX.guardF rfl rfl hb6_6 ?_
        refine VX.guardF rfl rfl hb6_6 ?_
        exact VX.pickA rfl (fun h => absurd (h.symm.trans hb6_6) (by decide)) (VX.nil ⟨rfl, rfl⟩)
    refine VX.meek rfl ?_
    refine' VX.merge (d := 48) [_, _, _, _, _] rfl ?_ rfl ?_
    rotate_left
    · refine VX.guard rfl rfl (fun hb6_12 => ?_) (fun hb6_12 => ?_)
      · have ghb6_12 := hb6_12
        try simp only [au_std, Bool.not_true, Bool.not_false] at ghb6_12
        refine VX.meek rfl ?_
        refine VX.guardT rfl rfl hb6_12 ?_
        refine VX.meek rfl ?_
        refine VX.guardT rfl rfl hb6_12 ?_
        first | refine VX.meek rfl ?_ | refine VX.loadI rfl rfl au_l ?_ | refine VX.loadP rfl rfl rfl au_l ?_
        refine VX.guardT rfl rfl hb6_12 ?_
        refine VX.meek rfl ?_
        refine VX.pickA rfl (fun _ => rfl) ?_
        exact VX.nil ⟨rfl, rfl⟩
      · refine VX.guardF rfl rfl hb6_12 ?_
        refine VX.guardF rfl rfl hb6_12 ?_
        refine VX.guardF rfl rfl hb6_12 ?_
        exact VX.pickA rfl (fun h => absurd (h.symm.trans hb6_12) (by decide)) (VX.nil ⟨rfl, rfl⟩)
    refine VX.meek rfl ?_
    refine' VX.merge (d := 54) [_, _, _, _, _] rfl ?_ rfl ?_
    rotate_left
    · refine VX.guard rfl rfl (fun hb6_18 => ?_) (fun hb6_18 => ?_)
      · have ghb6_18 := hb6_18
        try simp only [au_std, Bool.not_true, Bool.not_false] at ghb6_18
        refine VX.meek rfl ?_
        refine VX.guardT rfl rfl hb6_18 ?_
        refine VX.meek rfl ?_
        refine VX.guardT rfl rfl hb6_18 ?_
        refine VX.meek rfl ?_
        refine VX.guardT rfl rfl hb6_18 ?_
        refine VX.callP0 rfl rfl rfl (in23_p clip l[k]!.1 l[k]!.2 hcn) ?_
        refine VX.pickA rfl (fun _ => rfl) ?_
        exact VX.nil ⟨rfl, rfl⟩
      · refine VX.guardF rfl rfl hb6_18 ?_
        refine VX.guardF rfl rfl hb6_18 ?_
        refine VX.guardF rfl rfl hb6_18 ?_
        exact VX.pickA rfl (fun h => absurd (h.symm.trans hb6_18) (by decide)) (VX.nil ⟨rfl, rfl⟩)
    refine VX.nil ?_
    refine VC.cond rfl (fun hc1 => ?_) (fun hc1 => ?_)
    · simp only [Bool.and_eq_true, decide_eq_true_eq] at hc1; have hpos : 0 ≤ l[k]!.1 ∧ l[k]!.1 < w ∧ 0 ≤ l[k]!.2 ∧ l[k]!.2 < h := (by omega)
      have hst : pointQ w h C (mixQ f p pl) l[k]! (pointsQ w h C (mixQ f p pl) (l.take k) px) = (pointsQ w h C (mixQ f p pl) (l.take k) px).set (l[k]!.2 * w + l[k]!.1).toNat (mixI f p (pointsQ w h C (mixQ f p pl) (l.take k) px)[(l[k]!.2 * w + l[k]!.1).toNat]! pl) := if_pos ⟨inB_iff.2 hpos, (hC2 _ _).2 hc1.2⟩
      refine VC.regN tab_ok [] rfl ?_
      first | refine VX.meek rfl ?_ | refine VX.loadI rfl rfl au_l ?_ | refine VX.loadP rfl rfl rfl au_l ?_
      iterate 2 refine VX.meek rfl ?_
      first | refine VX.meek rfl ?_ | refine VX.loadI rfl rfl au_l ?_ | refine VX.loadP rfl rfl rfl au_l ?_
      refine VX.callT rfl rfl (CallT.frame (paint23_n w h (pointsQ w h C (mixQ f p pl) (l.take k) px) l[k]!.1 l[k]!.2 f pl p px.length hsl hw hh (by rw [hsl, hl]) hsb hpos.1 hpos.2.1 hpos.2.2.1 hpos.2.2.2 hp hpl) [2] rfl au_ci au_ci ?_)
      rintro _ _ ⟨rfl, rfl⟩
      refine frK au_co au_co ?_
      refine VX.nil ?_
      refine VC.regN tab_ok [] rfl ?_
      refine VX.meek rfl ?_
      first | refine VX.add rfl rfl (by omega) ?_ | refine VX.meek rfl ?_
      refine VX.meek rfl ?_
      refine VX.nil ?_
      refine ⟨k + 1, by (try dsimp only); omega, ?_, (by refine ⟨[some 0, some 1, some 2], rfl, by first | trivial | decide, rfl, ?_, ?_⟩ <;> (repeat' first | exact trivial | exact CvB_n | exact CvB_d | refine CvE_app ?_ ?_ | refine CvE_cons rfl ?_ ?_ | refine CvH_cons ?_ ?_ | refine CvB_c rfl ?_ | fail) <;> first | exact au_v | (first | exact Cv.pure hgp | exact cv_g (Cv.slc rfl (.inl rfl)) | exact CvL.eq (congrArg (encL cU) (hsn.trans hst).symm) (encL_pure cU _)))⟩
      (try dsimp only); omega
    · have hst : pointQ w h C (mixQ f p pl) l[k]! (pointsQ w h C (mixQ f p pl) (l.take k) px) = pointsQ w h C (mixQ f p pl) (l.take k) px := if_neg (fun q => by
        have q1 := inB_iff.1 q.1
        have q2 := (hC2 _ _).1 q.2
        simp only [Bool.and_eq_false_iff, decide_eq_false_iff_not] at hc1
        rcases hc1 with k1 | k1
        · omega
        · exact k1 q2)
      refine VC.skip ?_
      refine VC.regN tab_ok [] rfl ?_
      refine VX.meek rfl ?_
      first | refine VX.add rfl rfl (by omega) ?_ | refine VX.meek rfl ?_
      refine VX.meek rfl ?_
      refine VX.nil ?_
      refine ⟨k + 1, by (try dsimp only); omega, ?_, (by refine ⟨[some 0, some 1, some 2], rfl, by first | trivial | decide, rfl, ?_, ?_⟩ <;> (repeat' first | exact trivial | exact CvB_n | exact CvB_d | refine CvE_app ?_ ?_ | refine CvE_cons rfl ?_ ?_ | refine CvH_cons ?_ ?_ | refine CvB_c rfl ?_ | fail) <;> first | exact au_v | (first | exact Cv.pure hgp | exact cv_g (Cv.slc rfl (.inl rfl)) | exact CvL.eq (congrArg (encL cU) (hsn.trans hst).symm) (encL_pure cU _)))⟩
      (try dsimp only); omega
  · (try simp only [au_std] at hc0); obtain rfl : k = l.length := (by omega); rw [List.take_length]
    refine VC.exit ?_
    refine VC.reg tab_ok [] rfl ?_
    first | refine VX.meek rfl ?_ | refine VX.loadI rfl rfl au_l ?_ | refine VX.loadP rfl rfl rfl au_l ?_
    refine VX.store rfl rfl rfl rfl rfl au_sP rfl ?_
    refine VX.nil ?_
    refine VC.ret ?_
    refine ⟨trivial, _, rfl, Cv.agg (cv_g ?_)⟩; rw [hfl]; exact Cv.fslc0 ⟨rfl, by simp⟩ (CvL.pure (encL_pure cU _))
end
end Go.Proofs.YtelhkfdpkjkpjaaGreat
