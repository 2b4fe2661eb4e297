/-
  The proof's lemmas, part 6.
-/
import Derived.Test.YtelhkfdpkjkpjaaGreatZce
import Derived.OpenVars
import Derived.Carry
namespace Go.Proofs.YtelhkfdpkjkpjaaGreat
set_option linter.unusedSimpArgs false
set_option linter.unusedVariables false
section
open Go.RowKit Go.Sort
set_option maxRecDepth 10000
set_option maxHeartbeats 4000000
theorem rest_eq (a n : Int) (hn : 0 < n) : (a.tmod n + n).tmod n = a % n := by
  have h1 : -n < a.tmod n := by have := Int.lt_tmod_of_pos a hn; omega
  rw [Int.tmod_eq_emod_of_nonneg (by omega), Int.add_emod_right]
  have h2 : a.tmod n = a + n * (-(a.tdiv n)) := by have := Int.mul_tdiv_add_tmod a n; rw [Int.mul_neg]; omega
  rw [h2, Int.add_mul_emod_self_left]
section
variable {q : Bool} {P : Program} {tab : Tab} {im : List Nat} {ds : List (Option Nat)} {l : List Oper} {E : Env} {H : Hp} {K : Env → Hp → Prop} {d : Nat} {ty : TypeId} {pos : String} {after : Array Edge}
theorem VX.quo {x y : Operand} {t t2 : Nat} {a c : Int} (hx : E.opd x = some (I64 a)) (hy : E.opd y = some (I64 c)) (ha : 0 ≤ a) (ha2 : a ≤ 9000000000000000000) (hc : 0 < c) (k : VX q P tab im ds l ((d, I64 (a / c)) :: E) H K) : VX q P tab im ds (⟨some d, .binOp .quo t x y t2, ty, pos, after, none⟩ :: l) E H K := by
  refine VX.meek (t := I64 (a / c)) ?_ k
  have h1 : a / c ≤ a := Int.ediv_le_self c ha
  have h2 : 0 ≤ a / c := Int.ediv_nonneg ha (by omega)
  have hc' : ¬ c = 0 := by omega
  simp only [opM, hx, hy, mBin, binInt]
  rw [if_neg hc', Int.tdiv_eq_ediv_of_nonneg ha, wrap_in (by omega)]
  rfl
theorem VX.rem {x y : Operand} {t t2 : Nat} {a c : Int} (hx : E.opd x = some (I64 a)) (hy : E.opd y = some (I64 c)) (ha : 0 ≤ a) (hc : 0 < c) (k : VX q P tab im ds l ((d, I64 (a % c)) :: E) H K) : VX q P tab im ds (⟨some d, .binOp .rem t x y t2, ty, pos, after, none⟩ :: l) E H K := by
  refine VX.meek (t := I64 (a % c)) ?_ k
  have hc' : ¬ c = 0 := by omega
  simp only [opM, hx, hy, mBin, binInt]
  rw [if_neg hc', Int.tmod_eq_emod_of_nonneg ha]
  rfl
theorem VX.rem0 {x y : Operand} {t t2 : Nat} {a c : Int} (hx : E.opd x = some (I64 a)) (hy : E.opd y = some (I64 c)) (hc : c ≠ 0) (k : VX q P tab im ds l ((d, I64 (a.tmod c)) :: E) H K) : VX q P tab im ds (⟨some d, .binOp .rem t x y t2, ty, pos, after, none⟩ :: l) E H K := by
  refine VX.meek (t := I64 (a.tmod c)) ?_ k
  simp only [opM, hx, hy, mBin, binInt]
  rw [if_neg hc]
  rfl
end
theorem rest_p (a n : Int) (hn : 0 < n ∧ n ≤ 128) : CallP Tryz.prog 73 [I64 a, I64 n] (I64 (a % n)) := by
  have hr := rest_eq a n hn.1
  have h1 : -n < a.tmod n := by have := Int.lt_tmod_of_pos a hn.1; omega
  have h2 : a.tmod n < n := Int.tmod_lt_of_pos a hn.1
  rw [← hr]
  refine CallP.intro2 au_pu au_pu ?_
  refine CallT.intro tab_ok Tryz.func73 rfl (by kernel_rfl) (Nat.le_of_ble_eq_true rfl) ?_
  refine VC.reg tab_ok [] rfl ?_
  refine VX.meek rfl ?_
  refine VX.nil ?_
  refine VC.reg tab_ok [] rfl ?_
  iterate 2 refine VX.meek rfl ?_
  refine VX.rem0 rfl rfl (by omega) ?_
  refine VX.meek rfl ?_
  first | refine VX.add rfl rfl (by omega) ?_ | refine VX.meek rfl ?_
  refine VX.meek rfl ?_
  refine VX.rem0 rfl rfl (by omega) ?_
  refine VX.meek rfl ?_
  refine VX.nil ?_
  refine VC.ret ?_
  exact ⟨trivial, _, rfl, Cv.eq (by first | rfl | (simp [*]; done)) rfl⟩
def coordB (n : Int) : Bool := decide (-1048576 ≤ n) && decide (n ≤ 1048576)
theorem coord_p (n : Int) : CallP Tryz.prog 65 [I64 n] (BL (coordB n)) := by
  refine CallP.intro2 au_pu au_pu ?_
  refine CallT.intro tab_ok Tryz.func65 rfl (by kernel_rfl) (Nat.le_of_ble_eq_true rfl) ?_
  refine VC.reg tab_ok [] rfl ?_
  refine VX.meek rfl ?_
  refine VX.nil ?_
  refine VC.reg tab_ok [] rfl ?_
  iterate 3 refine VX.meek rfl ?_
  refine' VX.merge (d := 8) [_, _, _] rfl ?_ rfl ?_
  rotate_left
  · refine VX.guard rfl rfl (fun hb1_2 => ?_) (fun hb1_2 => ?_)
    · have ghb1_2 := hb1_2
      try simp only [au_std, Bool.not_true, Bool.not_false] at ghb1_2
      refine VX.meek rfl ?_
      refine VX.guardT rfl rfl hb1_2 ?_
      refine VX.meek rfl ?_
      refine VX.pickA rfl (fun _ => rfl) ?_
      exact VX.nil ⟨rfl, rfl⟩
    · refine VX.guardF rfl rfl hb1_2 ?_
      exact VX.pickA rfl (fun h => absurd (h.symm.trans hb1_2) (by decide)) (VX.nil ⟨rfl, rfl⟩)
  refine VX.meek rfl ?_
  refine VX.nil ?_
  refine VC.ret ?_
  exact ⟨trivial, _, rfl, Cv.eq (by first | rfl | (simp [*]; done)) rfl⟩
abbrev plP (w h : Nat) (px : List Int) : T := .iptr (plC w h px (.islc (encL cU px) px.length none)) 0
theorem plC_pure (w h : Nat) (px : List Int) : T.pureL (plC w h px (.islc (encL cU px) px.length none)) = true := by simp only [T.pureL, T.pure, encL_pure]; rfl
theorem planeOf_p (w h : Nat) (px : List Int) (hw : w ≤ 128) (hh : h ≤ 128) (hl : px.length = w * h) (hb : ∀ v ∈ px, 0 ≤ v ∧ v < 256) : CallP Tryz.prog 66 [gT w h px] (plP w h px) :=
  CallP.intro2 (by simp only [T.pureL, T.pure, encL_pure]; rfl) (plC_pure w h px) ((planeOf_t w h px hw hh hl hb).mono fun t H' ⟨h1, h2⟩ => by
    subst h1 h2; exact Cv.iptr (cv_pl (Cv.pure (encL_pure cU _)) (Cv.fslc0 ⟨rfl, by simp⟩ (CvL.pure (encL_pure cU _)))))
def tileF (tw th : Nat) (tpx : List Int) (x y : Int) : Int → Int → Int → Int := fun a b _ => tpx[(((b - y) % (th : Int)) * tw + (a - x) % (tw : Int)).toNat]!
theorem tile1_t (w h tw th : Nat) (px s tpx : List Int) (x y a b : Int) (hw : w ≤ 128) (hh : h ≤ 128) (hl : px.length = w * h) (hs : s.length = w * h) (htw : 1 ≤ tw ∧ tw ≤ 128) (hth : 1 ≤ th ∧ th ≤ 128) (htl : tpx.length = tw * th) (hx : -1048576 ≤ x ∧ x ≤ 1048576) (hy : -1048576 ≤ y ∧ y ≤ 1048576) (ha : 0 ≤ a) (ha2 : a < w) (hb : 0 ≤ b) (hb2 : b < h) :
    CallT Tryz.prog 70 ([] ++ [I64 a, I64 b] ++ (.iptr [plT 0 w h px] 0 :: [.iptr [plP tw th tpx] 0, .iptr [I64 x] 0, .iptr [I64 y] 0])) [.c (encL cU s)] (fun t H' => t = .tup [] ∧ H' = [.c (encL cU (s.set (b * w + a).toNat (tileF tw th tpx x y a b s[(b * w + a).toNat]!)))]) := by
  have hm1 := Int.emod_nonneg (a - x) (show (tw : Int) ≠ 0 by omega)
  have hm2 := Int.emod_lt_of_pos (a - x) (show (0 : Int) < tw by omega)
  have hm3 := Int.emod_nonneg (b - y) (show (th : Int) ≠ 0 by omega)
  have hm4 := Int.emod_lt_of_pos (b - y) (show (0 : Int) < th by omega)
  have hwas : CallP Tryz.prog 72 [plP tw th tpx, I64 ((a - x) % (tw : Int)), I64 ((b - y) % (th : Int))] (U8 (tileF tw th tpx x y a b s[(b * w + a).toNat]!)) :=
    CallP.intro2 (by simp only [T.pureL, T.pure, encL_pure]; rfl) rfl ((was_t tw th tpx (.islc (encL cU tpx) tpx.length none) [] _ _ htw.2 hth.2 htl hm1 hm2 hm3 hm4).mono fun t H' ⟨h1, h2⟩ => by subst h1; exact Cv.eq rfl rfl)
  refine CallT.intro tab_ok Tryz.func70 rfl (by kernel_rfl) (Nat.le_of_ble_eq_true rfl) ?_
  refine VC.drwN tab_ok [] [_, _, _, _, _, _, _, _, _, _, _, _, _, _, _, _, _, _, _, _, _] rfl (by kernel_rfl) (by kernel_rfl) ?_
  first | refine VX.meek rfl ?_ | refine VX.loadI rfl rfl au_l ?_ | refine VX.loadP rfl rfl rfl au_l ?_
  iterate 2 refine VX.meek rfl ?_
  first | refine VX.meek rfl ?_ | refine VX.loadI rfl rfl au_l ?_ | refine VX.loadP rfl rfl rfl au_l ?_
  refine VX.meek rfl ?_
  first | refine VX.meek rfl ?_ | refine VX.loadI rfl rfl au_l ?_ | refine VX.loadP rfl rfl rfl au_l ?_
  first | refine VX.sub rfl rfl (by omega) ?_ | refine VX.meek rfl ?_
  first | refine VX.meek rfl ?_ | refine VX.loadI rfl rfl au_l ?_ | refine VX.loadP rfl rfl rfl au_l ?_
  iterate 2 refine VX.meek rfl ?_
  first | refine VX.meek rfl ?_ | refine VX.loadI rfl rfl au_l ?_ | refine VX.loadP rfl rfl rfl au_l ?_
  refine VX.callP0 rfl rfl rfl (rest_p (a - x) tw ⟨by omega, by omega⟩) ?_
  refine VX.meek rfl ?_
  first | refine VX.meek rfl ?_ | refine VX.loadI rfl rfl au_l ?_ | refine VX.loadP rfl rfl rfl au_l ?_
  first | refine VX.sub rfl rfl (by omega) ?_ | refine VX.meek rfl ?_
  first | refine VX.meek rfl ?_ | refine VX.loadI rfl rfl au_l ?_ | refine VX.loadP rfl rfl rfl au_l ?_
  iterate 2 refine VX.meek rfl ?_
  first | refine VX.meek rfl ?_ | refine VX.loadI rfl rfl au_l ?_ | refine VX.loadP rfl rfl rfl au_l ?_
  refine VX.callP0 rfl rfl rfl (rest_p (b - y) th ⟨by omega, by omega⟩) ?_
  refine VX.callP0 rfl rfl rfl (hwas) ?_
  refine VX.nil ?_
  refine VX.callT rfl rfl (CallT.frame (set_t w h px s a b _ hw hh hl hs ha ha2 hb hb2) [0] rfl au_ci au_ci ?_)
  rintro _ _ ⟨rfl, rfl⟩
  refine frK au_co au_co ?_
  refine VX.nil ?_
  exact ⟨trivial, _, rfl, rfl, rfl⟩
theorem reg_pure (l : List Rect) : T.pureL [.islc (encL cR l) l.length none] = true := by simp only [T.pureL, T.pure, encL_pure, Bool.and_self]
theorem plP_pure (w h : Nat) (px : List Int) : T.pureL [plP w h px] = true := by simp only [T.pureL, T.pure, encL_pure]; rfl
theorem tile_leaf {lb : Nat} {E : Env} {H : Hp} {w h tw th : Nat} {px tpx : List Int} {clip what : List Rect} {x y : Int} (a b c : Nat) (hlb : lbOk lb 0 [some 0, some c])
    (h6 : E.get 6 = some (.iptr [I64 w, I64 h, .islc (encL cU px) px.length none] 0)) (h7 : E.get 7 = some (.iptr [.islc (encL cR clip) clip.length none] 0)) (h8 : E.get 8 = some (.iptr [.islc (encL cR what) what.length none] 0))
    (h10 : E.get 10 = some (.iptr [I64 x] 0)) (h11 : E.get 11 = some (.iptr [I64 y] 0)) (h12 : E.get 12 = some (.ptr 0 0)) (h13 : E.get 13 = some (.ptr a 0)) (h14 : E.get 14 = some (.ptr b 0))
    (k0 : lookH H 0 = some [I64 0, I64 0, NIL]) (ka : lookH H a = some [plT c w h px]) (kb : lookH H b = some [plP tw th tpx]) (kc : lookH H c = some (encL cU px))
    (n0 : (decide (c ≠ 0) && decide (a ≠ 0) && decide (a ≠ c) && decide (b ≠ 0) && decide (b ≠ c)) = true) :
    Conv lb E H ([(6, .iptr [I64 w, I64 h, .islc (encL cU px) px.length none] 0), (7, .iptr [.islc (encL cR clip) clip.length none] 0), (8, .iptr [.islc (encL cR what) what.length none] 0), (10, .iptr [I64 x] 0), (11, .iptr [I64 y] 0), (12, .ptr 0 0), (13, .iptr [plT 1 w h px] 0), (14, .iptr [plP tw th tpx] 0)] ++ []) [.c [I64 0, I64 0, NIL], .c (encL cU px)] := by
  simp only [Bool.and_eq_true, decide_eq_true_eq] at n0
  obtain ⟨⟨⟨⟨m1, m2⟩, m3⟩, m4⟩, m5⟩ := n0
  have hgp : T.pureL [I64 w, I64 h, .islc (encL cU px) px.length none] = true := by simp only [T.pureL, T.pure, encL_pure, Bool.and_self]
  refine ⟨[some 0, some c], by have e : Nat.beq 0 c = false := (by cases c with | zero => exact absurd rfl m1 | succ c => rfl); simp [injB, noneIn, e], hlb, rfl, ?_, ?_⟩
  · refine CvE_cons h6 (Cv.pure hgp) (CvE_cons h7 (Cv.pure (reg_pure clip)) (CvE_cons h8 (Cv.pure (reg_pure what)) (CvE_cons h10 (Cv.pure rfl) (CvE_cons h11 (Cv.pure rfl) (CvE_cons h12 (Cv.ptr rfl) (CvE_cons h13 ?_ (CvE_cons h14 ?_ trivial)))))))
    · exact Cv.fptr ⟨ka, by simp; omega⟩ (CvL.cons (Cv.iptr (cv_pl (Cv.pure (encL_pure cU _)) (Cv.slc rfl (.inl rfl)))) CvL.nil)
    · exact Cv.fptr ⟨kb, by simp; omega⟩ (CvL.pure (plP_pure tw th tpx))
  · refine CvH_cons (CvB_c k0 (CvL.pure rfl)) (CvH_cons (CvB_c kc (CvL.pure (encL_pure cU _))) ?_)
    exact trivial
theorem tileF_bd {tw th : Nat} {tpx : List Int} {x y : Int} (hb : ∀ v ∈ tpx, 0 ≤ v ∧ v < 256) : ∀ a b o, 0 ≤ o ∧ o < 256 → 0 ≤ tileF tw th tpx x y a b o ∧ tileF tw th tpx x y a b o < 256 := fun a b o _ => bang_bd hb _
theorem tile_p {n m : Nat} (w h tw th : Nat) (px tpx : List Int) (clip what : List Rect) (x y : Int) (hw : w ≤ 128) (hh : h ≤ 128) (hl : px.length = w * h) (hpb : ∀ v ∈ px, 0 ≤ v ∧ v < 256) (htw2 : tw ≤ 128) (hth2 : th ≤ 128) (htl : tpx.length = tw * th) (htz : (tw = 0 ∧ th = 0) ∨ (1 ≤ tw ∧ 1 ≤ th)) (htb : ∀ v ∈ tpx, 0 ≤ v ∧ v < 256)
    (hc : Reg n clip) (ht : Reg m what) (hnm : n + m ≤ 498) (hx : coordB x = true) (hy : coordB y = true) :
    CallP Tryz.prog 18 [gT w h px, regT clip, regT what, gT tw th tpx, I64 x, I64 y] (gT w h (if tw = 0 then px else paintL w (fun a b => inL clip a b ∧ inL what a b) (tileF tw th tpx x y) px)) := by
  have hgp : T.pureL [I64 w, I64 h, .islc (encL cU px) px.length none] = true := by simp only [T.pureL, T.pure, encL_pure, Bool.and_self]
  have hm := opL_reg (k := and) rfl hc ht
  have hr := opL_reg (k := and) rfl hm (Reg.of [⟨0, 0, w, h⟩])
  have hlen : (opL and (opL and clip what) (bandOf [⟨0, 0, (w : Int), (h : Int)⟩])).length ≤ 1048576 := Nat.le_trans hr.len (Nat.le_trans (Nat.mul_le_mul (by simp; omega) (by simp; omega)) (show 500 * 500 ≤ 1048576 by decide))
  have hins : ∀ x y, inL (opL and (opL and clip what) (bandOf [⟨0, 0, (w : Int), (h : Int)⟩])) x y → 0 ≤ x ∧ x < w ∧ 0 ≤ y ∧ y < h := fun x y hi => (in_plane0 hw hh x y).1 (opL_sub2 hm (Reg.of _) hi).2
  have hres : paintL w (inL (opL and (opL and clip what) (bandOf [⟨0, 0, (w : Int), (h : Int)⟩]))) (tileF tw th tpx x y) px = paintL w (fun x y => inL clip x y ∧ inL what x y) (tileF tw th tpx x y) px := paint_congr hl (fun a b h1 h2 h3 h4 => by rw [opL_and hm (Reg.of _), opL_and hc ht, in_plane0 hw hh]; simp [h1, h2, h3, h4]) (fun _ _ _ _ _ _ _ => rfl)
  rw [← hres]
  have hwi : CallP Tryz.prog 68 [regT (opL and clip what), rectT ⟨0, 0, w, h⟩] (regT (opL and (opL and clip what) (bandOf [⟨0, 0, (w : Int), (h : Int)⟩]))) := within_p hm ⟨0, 0, w, h⟩ ⟨by unfold i64; dsimp only; omega, by unfold i64; dsimp only; omega⟩ (by omega)
  generalize opL and (opL and clip what) (bandOf [⟨0, 0, (w : Int), (h : Int)⟩]) = R at *
  have hbd := paintL_bd (w := w) (V := inL R) hpb (tileF_bd (tw := tw) (th := th) (x := x) (y := y) htb)
  have hpl := paintL_len w (inL R) (tileF tw th tpx x y) px
  have hx2 : -1048576 ≤ x ∧ x ≤ 1048576 := by unfold coordB at hx; simp at hx; omega
  have hy2 : -1048576 ≤ y ∧ y ≤ 1048576 := by unfold coordB at hy; simp at hy; omega
  have hcs : T.pureL [.iptr [plP tw th tpx] 0, .iptr [I64 x] 0, .iptr [I64 y] 0] = true := by simp only [T.pureL, T.pure, encL_pure]; rfl
  refine CallP.intro2 au_pu au_pu ?_
  refine CallT.intro tab_ok Tryz.func18 rfl (by kernel_rfl) (Nat.le_of_ble_eq_true rfl) ?_
  refine VC.reg tab_ok [6, 7, 8, 9, 10, 11] rfl ?_
  refine VX.newI rfl rfl ?_
  refine VX.newI rfl rfl ?_
  refine VX.newI rfl rfl ?_
  refine VX.newI rfl rfl ?_
  refine VX.newI rfl rfl ?_
  refine VX.newI rfl rfl ?_
  refine VX.new rfl rfl ?_
  refine VX.nil ?_
  refine VC.seq ?_
  refine VC.reg tab_ok [] rfl ?_
  first | refine VX.meek rfl ?_ | refine VX.loadI rfl rfl au_l ?_ | refine VX.loadP rfl rfl rfl au_l ?_
  refine VX.callP0 rfl rfl rfl (coord_p x) ?_
  iterate 2 refine VX.meek rfl ?_
  refine' VX.merge (d := 22) [_, _, _, _] rfl ?_ rfl ?_
  rotate_left
  · refine VX.guard rfl rfl (fun hb1_3 => ?_) (fun hb1_3 => ?_)
    · have ghb1_3 := hb1_3
      try simp only [au_std, Bool.not_true, Bool.not_false] at ghb1_3
      first | refine VX.meek rfl ?_ | refine VX.loadI rfl rfl au_l ?_ | refine VX.loadP rfl rfl rfl au_l ?_
      refine VX.guardT rfl rfl hb1_3 ?_
      refine VX.callP0 rfl rfl rfl (coord_p y) ?_
      refine VX.guardT rfl rfl hb1_3 ?_
      refine VX.meek rfl ?_
      refine VX.pickO rfl (fun _ => rfl) ?_
      exact VX.nil ⟨rfl, rfl⟩
    · refine VX.guardF rfl rfl hb1_3 ?_
      refine VX.guardF rfl rfl hb1_3 ?_
      exact VX.pickO rfl (fun h => absurd (h.symm.trans hb1_3) (by decide)) (VX.nil ⟨rfl, rfl⟩)
  refine VX.nil ?_
  refine VC.cond rfl (fun hc0 => ?_) (fun hc0 => ?_)
  · exact absurd hc0 (by rw [hx, hy]; decide)
  · (try simp only [au_std] at hc0)
    refine VC.skip ?_
    refine VC.drwAll tab_ok [] (by kernel_rfl) rfl ([(6, .iptr [I64 w, I64 h, .islc (encL cU px) px.length none] 0), (7, .iptr [.islc (encL cR clip) clip.length none] 0), (8, .iptr [.islc (encL cR what) what.length none] 0), (10, .iptr [I64 x] 0), (11, .iptr [I64 y] 0), (12, .ptr 0 0), (13, .iptr [plT 1 w h px] 0), (14, .iptr [plP tw th tpx] 0)]) ([.c [I64 0, I64 0, NIL], .c (encL cU px)]) [] rfl ?_ ?_
    · refine AnyV.more [0, 2, 4, 5] (by kernel_rfl) (by simp) ?_
      refine allI_cons ?_ ?_
      · refine anyV_op rfl ?_
        first | refine VX.meek rfl ?_ | refine VX.loadI rfl rfl au_l ?_ | refine VX.loadP rfl rfl rfl au_l ?_
        refine VX.nil ?_
        refine AnyV.more [1, 2, 4, 5] (by kernel_rfl) (by simp) ?_
        refine allI_cons ?_ ?_
        · refine anyV_op rfl ?_
          refine VX.callT rfl rfl (CallT.frame (planeOf_t w h px hw hh hl hpb) [] rfl au_ci au_ci ?_)
          rintro _ _ ⟨rfl, rfl⟩
          refine frK au_co au_co ?_
          refine VX.nil ?_
          refine AnyV.more [2, 4, 5] (by kernel_rfl) (by simp) ?_
          refine allI_cons ?_ ?_
          · refine anyV_op rfl ?_
            first | refine VX.meek rfl ?_ | refine VX.loadI rfl rfl au_l ?_ | refine VX.loadP rfl rfl rfl au_l ?_
            refine VX.nil ?_
            refine AnyV.more [3, 4, 5] (by kernel_rfl) (by simp) ?_
            refine allI_cons ?_ ?_
            · refine anyV_op rfl ?_
              refine VX.callP0 rfl rfl rfl (planeOf_p tw th tpx htw2 hth2 htl htb) ?_
              refine VX.nil ?_
              refine AnyV.more [4, 5] (by kernel_rfl) (by simp) ?_
              refine allI_cons ?_ ?_
              · refine anyV_op rfl ?_
                refine VX.new rfl rfl ?_
                refine VX.nil ?_
                refine AnyV.more [5] (by kernel_rfl) (by simp) ?_
                refine allI_cons ?_ ?_
                · refine anyV_op rfl ?_
                  refine VX.new rfl rfl ?_
                  refine VX.nil ?_
                  refine AnyV.more [6] (by kernel_rfl) (by simp) ?_
                  refine allI_cons ?_ ?_
                  · refine anyV_op rfl ?_
                    refine VX.store rfl rfl rfl rfl rfl au_sR rfl ?_
                    refine VX.nil ?_
                    refine AnyV.more [7] (by kernel_rfl) (by simp) ?_
                    refine allI_cons ?_ ?_
                    · refine anyV_op rfl ?_
                      refine VX.store rfl rfl rfl rfl rfl au_sR rfl ?_
                      refine VX.nil ?_
                      exact AnyV.fin (by kernel_rfl) (tile_leaf 2 3 1 trivial rfl rfl rfl rfl rfl rfl rfl rfl rfl rfl rfl rfl rfl)
                    exact trivial
                  exact trivial
                exact trivial
              refine allI_cons ?_ ?_
              · refine anyV_op rfl ?_
                refine VX.new rfl rfl ?_
                refine VX.nil ?_
                refine AnyV.more [4] (by kernel_rfl) (by simp) ?_
                refine allI_cons ?_ ?_
                · refine anyV_op rfl ?_
                  refine VX.new rfl rfl ?_
                  refine VX.nil ?_
                  refine AnyV.more [6] (by kernel_rfl) (by simp) ?_
                  refine allI_cons ?_ ?_
                  · refine anyV_op rfl ?_
                    refine VX.store rfl rfl rfl rfl rfl au_sR rfl ?_
                    refine VX.nil ?_
                    refine AnyV.more [7] (by kernel_rfl) (by simp) ?_
                    refine allI_cons ?_ ?_
                    · refine anyV_op rfl ?_
                      refine VX.store rfl rfl rfl rfl rfl au_sR rfl ?_
                      refine VX.nil ?_
                      exact AnyV.fin (by kernel_rfl) (tile_leaf 3 2 1 trivial rfl rfl rfl rfl rfl rfl rfl rfl rfl rfl rfl rfl rfl)
                    exact trivial
                  exact trivial
                exact trivial
              exact trivial
            refine allI_cons ?_ ?_
            · refine anyV_op rfl ?_
              refine VX.new rfl rfl ?_
              refine VX.nil ?_
              refine AnyV.more [3, 5] (by kernel_rfl) (by simp) ?_
              refine allI_cons ?_ ?_
              · refine anyV_op rfl ?_
                refine VX.callP0 rfl rfl rfl (planeOf_p tw th tpx htw2 hth2 htl htb) ?_
                refine VX.nil ?_
                refine AnyV.more [5] (by kernel_rfl) (by simp) ?_
                refine allI_cons ?_ ?_
                · refine anyV_op rfl ?_
                  refine VX.new rfl rfl ?_
                  refine VX.nil ?_
                  refine AnyV.more [6] (by kernel_rfl) (by simp) ?_
                  refine allI_cons ?_ ?_
                  · refine anyV_op rfl ?_
                    refine VX.store rfl rfl rfl rfl rfl au_sR rfl ?_
                    refine VX.nil ?_
                    refine AnyV.more [7] (by kernel_rfl) (by simp) ?_
                    refine allI_cons ?_ ?_
                    · refine anyV_op rfl ?_
                      refine VX.store rfl rfl rfl rfl rfl au_sR rfl ?_
                      refine VX.nil ?_
                      exact AnyV.fin (by kernel_rfl) (tile_leaf 2 3 1 trivial rfl rfl rfl rfl rfl rfl rfl rfl rfl rfl rfl rfl rfl)
                    exact trivial
                  exact trivial
                exact trivial
              refine allI_cons ?_ ?_
              · refine anyV_op rfl ?_
                refine VX.new rfl rfl ?_
                refine VX.nil ?_
                refine AnyV.more [3] (by kernel_rfl) (by simp) ?_
                refine allI_cons ?_ ?_
                · refine anyV_op rfl ?_
                  refine VX.callP0 rfl rfl rfl (planeOf_p tw th tpx htw2 hth2 htl htb) ?_
                  refine VX.nil ?_
                  refine AnyV.more [6] (by kernel_rfl) (by simp) ?_
                  refine allI_cons ?_ ?_
                  · refine anyV_op rfl ?_
                    refine VX.store rfl rfl rfl rfl rfl au_sR rfl ?_
                    refine VX.nil ?_
                    refine AnyV.more [7] (by kernel_rfl) (by simp) ?_
                    refine allI_cons ?_ ?_
                    · refine anyV_op rfl ?_
                      refine VX.store rfl rfl rfl rfl rfl au_sR rfl ?_
                      refine VX.nil ?_
                      exact AnyV.fin (by kernel_rfl) (tile_leaf 2 3 1 trivial rfl rfl rfl rfl rfl rfl rfl rfl rfl rfl rfl rfl rfl)
                    exact trivial
                  exact trivial
                exact trivial
              exact trivial
            refine allI_cons ?_ ?_
            · refine anyV_op rfl ?_
              refine VX.new rfl rfl ?_
              refine VX.nil ?_
              refine AnyV.more [3, 4] (by kernel_rfl) (by simp) ?_
              refine allI_cons ?_ ?_
              · refine anyV_op rfl ?_
                refine VX.callP0 rfl rfl rfl (planeOf_p tw th tpx htw2 hth2 htl htb) ?_
                refine VX.nil ?_
                refine AnyV.more [4] (by kernel_rfl) (by simp) ?_
                refine allI_cons ?_ ?_
                · refine anyV_op rfl ?_
                  refine VX.new rfl rfl ?_
                  refine VX.nil ?_
                  refine AnyV.more [6] (by kernel_rfl) (by simp) ?_
                  refine allI_cons ?_ ?_
                  · refine anyV_op rfl ?_
                    refine VX.store rfl rfl rfl rfl rfl au_sR rfl ?_
                    refine VX.nil ?_
                    refine AnyV.more [7] (by kernel_rfl) (by simp) ?_
                    refine allI_cons ?_ ?_
                    · refine anyV_op rfl ?_
                      refine VX.store rfl rfl rfl rfl rfl au_sR rfl ?_
                      refine VX.nil ?_
                      exact AnyV.fin (by kernel_rfl) (tile_leaf 3 2 1 trivial rfl rfl rfl rfl rfl rfl rfl rfl rfl rfl rfl rfl rfl)
                    exact trivial
                  exact trivial
                exact trivial
              refine allI_cons ?_ ?_
              · refine anyV_op rfl ?_
                refine VX.new rfl rfl ?_
                refine VX.nil ?_
                refine AnyV.more [3] (by kernel_rfl) (by simp) ?_
                refine allI_cons ?_ ?_
                · refine anyV_op rfl ?_
                  refine VX.callP0 rfl rfl rfl (planeOf_p tw th tpx htw2 hth2 htl htb) ?_
                  refine VX.nil ?_
                  refine AnyV.more [6] (by kernel_rfl) (by simp) ?_
                  refine allI_cons ?_ ?_
                  · refine anyV_op rfl ?_
                    refine VX.store rfl rfl rfl rfl rfl au_sR rfl ?_
                    refine VX.nil ?_
                    refine AnyV.more [7] (by kernel_rfl) (by simp) ?_
                    refine allI_cons ?_ ?_
                    · refine anyV_op rfl ?_
                      refine VX.store rfl rfl rfl rfl rfl au_sR rfl ?_
                      refine VX.nil ?_
                      exact AnyV.fin (by kernel_rfl) (tile_leaf 3 2 1 trivial rfl rfl rfl rfl rfl rfl rfl rfl rfl rfl rfl rfl rfl)
                    exact trivial
                  exact trivial
                exact trivial
              exact trivial
            exact trivial
          refine allI_cons ?_ ?_
          · refine anyV_op rfl ?_
            refine VX.new rfl rfl ?_
            refine VX.nil ?_
            refine AnyV.more [2, 5] (by kernel_rfl) (by simp) ?_
            refine allI_cons ?_ ?_
            · refine anyV_op rfl ?_
              first | refine VX.meek rfl ?_ | refine VX.loadI rfl rfl au_l ?_ | refine VX.loadP rfl rfl rfl au_l ?_
              refine VX.nil ?_
              refine AnyV.more [3, 5] (by kernel_rfl) (by simp) ?_
              refine allI_cons ?_ ?_
              · refine anyV_op rfl ?_
                refine VX.callP0 rfl rfl rfl (planeOf_p tw th tpx htw2 hth2 htl htb) ?_
                refine VX.nil ?_
                refine AnyV.more [5] (by kernel_rfl) (by simp) ?_
                refine allI_cons ?_ ?_
                · refine anyV_op rfl ?_
                  refine VX.new rfl rfl ?_
                  refine VX.nil ?_
                  refine AnyV.more [6] (by kernel_rfl) (by simp) ?_
                  refine allI_cons ?_ ?_
                  · refine anyV_op rfl ?_
                    refine VX.store rfl rfl rfl rfl rfl au_sR rfl ?_
                    refine VX.nil ?_
                    refine AnyV.more [7] (by kernel_rfl) (by simp) ?_
                    refine allI_cons ?_ ?_
                    · refine anyV_op rfl ?_
                      refine VX.store rfl rfl rfl rfl rfl au_sR rfl ?_
                      refine VX.nil ?_
                      exact AnyV.fin (by kernel_rfl) (tile_leaf 2 3 1 trivial rfl rfl rfl rfl rfl rfl rfl rfl rfl rfl rfl rfl rfl)
                    exact trivial
                  exact trivial
                exact trivial
              refine allI_cons ?_ ?_
              · refine anyV_op rfl ?_
                refine VX.new rfl rfl ?_
                refine VX.nil ?_
                refine AnyV.more [3] (by kernel_rfl) (by simp) ?_
                refine allI_cons ?_ ?_
                · refine anyV_op rfl ?_
                  refine VX.callP0 rfl rfl rfl (planeOf_p tw th tpx htw2 hth2 htl htb) ?_
                  refine VX.nil ?_
                  refine AnyV.more [6] (by kernel_rfl) (by simp) ?_
                  refine allI_cons ?_ ?_
                  · refine anyV_op rfl ?_
                    refine VX.store rfl rfl rfl rfl rfl au_sR rfl ?_
                    refine VX.nil ?_
                    refine AnyV.more [7] (by kernel_rfl) (by simp) ?_
                    refine allI_cons ?_ ?_
                    · refine anyV_op rfl ?_
                      refine VX.store rfl rfl rfl rfl rfl au_sR rfl ?_
                      refine VX.nil ?_
                      exact AnyV.fin (by kernel_rfl) (tile_leaf 2 3 1 trivial rfl rfl rfl rfl rfl rfl rfl rfl rfl rfl rfl rfl rfl)
                    exact trivial
                  exact trivial
                exact trivial
              exact trivial
            refine allI_cons ?_ ?_
            · refine anyV_op rfl ?_
              refine VX.new rfl rfl ?_
              refine VX.nil ?_
              refine AnyV.more [2] (by kernel_rfl) (by simp) ?_
              refine allI_cons ?_ ?_
              · refine anyV_op rfl ?_
                first | refine VX.meek rfl ?_ | refine VX.loadI rfl rfl au_l ?_ | refine VX.loadP rfl rfl rfl au_l ?_
                refine VX.nil ?_
                refine AnyV.more [3] (by kernel_rfl) (by simp) ?_
                refine allI_cons ?_ ?_
                · refine anyV_op rfl ?_
                  refine VX.callP0 rfl rfl rfl (planeOf_p tw th tpx htw2 hth2 htl htb) ?_
                  refine VX.nil ?_
                  refine AnyV.more [6] (by kernel_rfl) (by simp) ?_
                  refine allI_cons ?_ ?_
                  · refine anyV_op rfl ?_
                    refine VX.store rfl rfl rfl rfl rfl au_sR rfl ?_
                    refine VX.nil ?_
                    refine AnyV.more [7] (by kernel_rfl) (by simp) ?_
                    refine allI_cons ?_ ?_
                    · refine anyV_op rfl ?_
                      refine VX.store rfl rfl rfl rfl rfl au_sR rfl ?_
                      refine VX.nil ?_
                      exact AnyV.fin (by kernel_rfl) (tile_leaf 2 3 1 trivial rfl rfl rfl rfl rfl rfl rfl rfl rfl rfl rfl rfl rfl)
                    exact trivial
                  exact trivial
                exact trivial
              exact trivial
            exact trivial
          refine allI_cons ?_ ?_
          · refine anyV_op rfl ?_
            refine VX.new rfl rfl ?_
            refine VX.nil ?_
            refine AnyV.more [2, 4] (by kernel_rfl) (by simp) ?_
            refine allI_cons ?_ ?_
            · refine anyV_op rfl ?_
              first | refine VX.meek rfl ?_ | refine VX.loadI rfl rfl au_l ?_ | refine VX.loadP rfl rfl rfl au_l ?_
              refine VX.nil ?_
              refine AnyV.more [3, 4] (by kernel_rfl) (by simp) ?_
              refine allI_cons ?_ ?_
              · refine anyV_op rfl ?_
                refine VX.callP0 rfl rfl rfl (planeOf_p tw th tpx htw2 hth2 htl htb) ?_
                refine VX.nil ?_
                refine AnyV.more [4] (by kernel_rfl) (by simp) ?_
                refine allI_cons ?_ ?_
                · refine anyV_op rfl ?_
                  refine VX.new rfl rfl ?_
                  refine VX.nil ?_
                  refine AnyV.more [6] (by kernel_rfl) (by simp) ?_
                  refine allI_cons ?_ ?_
                  · refine anyV_op rfl ?_
                    refine VX.store rfl rfl rfl rfl rfl au_sR rfl ?_
                    refine VX.nil ?_
                    refine AnyV.more [7] (by kernel_rfl) (by simp) ?_
                    refine allI_cons ?_ ?_
                    · refine anyV_op rfl ?_
                      refine VX.store rfl rfl rfl rfl rfl au_sR rfl ?_
                      refine VX.nil ?_
                      exact AnyV.fin (by kernel_rfl) (tile_leaf 3 2 1 trivial rfl rfl rfl rfl rfl rfl rfl rfl rfl rfl rfl rfl rfl)
                    exact trivial
                  exact trivial
                exact trivial
              refine allI_cons ?_ ?_
              · refine anyV_op rfl ?_
                refine VX.new rfl rfl ?_
                refine VX.nil ?_
                refine AnyV.more [3] (by kernel_rfl) (by simp) ?_
                refine allI_cons ?_ ?_
                · refine anyV_op rfl ?_
                  refine VX.callP0 rfl rfl rfl (planeOf_p tw th tpx htw2 hth2 htl htb) ?_
                  refine VX.nil ?_
                  refine AnyV.more [6] (by kernel_rfl) (by simp) ?_
                  refine allI_cons ?_ ?_
                  · refine anyV_op rfl ?_
                    refine VX.store rfl rfl rfl rfl rfl au_sR rfl ?_
                    refine VX.nil ?_
                    refine AnyV.more [7] (by kernel_rfl) (by simp) ?_
                    refine allI_cons ?_ ?_
                    · refine anyV_op rfl ?_
                      refine VX.store rfl rfl rfl rfl rfl au_sR rfl ?_
                      refine VX.nil ?_
                      exact AnyV.fin (by kernel_rfl) (tile_leaf 3 2 1 trivial rfl rfl rfl rfl rfl rfl rfl rfl rfl rfl rfl rfl rfl)
                    exact trivial
                  exact trivial
                exact trivial
              exact trivial
            refine allI_cons ?_ ?_
            · refine anyV_op rfl ?_
              refine VX.new rfl rfl ?_
              refine VX.nil ?_
              refine AnyV.more [2] (by kernel_rfl) (by simp) ?_
              refine allI_cons ?_ ?_
              · refine anyV_op rfl ?_
                first | refine VX.meek rfl ?_ | refine VX.loadI rfl rfl au_l ?_ | refine VX.loadP rfl rfl rfl au_l ?_
                refine VX.nil ?_
                refine AnyV.more [3] (by kernel_rfl) (by simp) ?_
                refine allI_cons ?_ ?_
                · refine anyV_op rfl ?_
                  refine VX.callP0 rfl rfl rfl (planeOf_p tw th tpx htw2 hth2 htl htb) ?_
                  refine VX.nil ?_
                  refine AnyV.more [6] (by kernel_rfl) (by simp) ?_
                  refine allI_cons ?_ ?_
                  · refine anyV_op rfl ?_
                    refine VX.store rfl rfl rfl rfl rfl au_sR rfl ?_
                    refine VX.nil ?_
                    refine AnyV.more [7] (by kernel_rfl) (by simp) ?_
                    refine allI_cons ?_ ?_
                    · refine anyV_op rfl ?_
                      refine VX.store rfl rfl rfl rfl rfl au_sR rfl ?_
                      refine VX.nil ?_
                      exact AnyV.fin (by kernel_rfl) (tile_leaf 3 2 1 trivial rfl rfl rfl rfl rfl rfl rfl rfl rfl rfl rfl rfl rfl)
                    exact trivial
                  exact trivial
                exact trivial
              exact trivial
            exact trivial
          exact trivial
        refine allI_cons ?_ ?_
        · refine anyV_op rfl ?_
          first | refine VX.meek rfl ?_ | refine VX.loadI rfl rfl au_l ?_ | refine VX.loadP rfl rfl rfl au_l ?_
          refine VX.nil ?_
          refine AnyV.more [1, 4, 5] (by kernel_rfl) (by simp) ?_
          refine allI_cons ?_ ?_
          · refine anyV_op rfl ?_
            refine VX.callT rfl rfl (CallT.frame (planeOf_t w h px hw hh hl hpb) [] rfl au_ci au_ci ?_)
            rintro _ _ ⟨rfl, rfl⟩
            refine frK au_co au_co ?_
            refine VX.nil ?_
            refine AnyV.more [3, 4, 5] (by kernel_rfl) (by simp) ?_
            refine allI_cons ?_ ?_
            · refine anyV_op rfl ?_
              refine VX.callP0 rfl rfl rfl (planeOf_p tw th tpx htw2 hth2 htl htb) ?_
              refine VX.nil ?_
              refine AnyV.more [4, 5] (by kernel_rfl) (by simp) ?_
              refine allI_cons ?_ ?_
              · refine anyV_op rfl ?_
                refine VX.new rfl rfl ?_
                refine VX.nil ?_
                refine AnyV.more [5] (by kernel_rfl) (by simp) ?_
                refine allI_cons ?_ ?_
                · refine anyV_op rfl ?_
                  refine VX.new rfl rfl ?_
                  refine VX.nil ?_
                  refine AnyV.more [6] (by kernel_rfl) (by simp) ?_
                  refine allI_cons ?_ ?_
                  · refine anyV_op rfl ?_
                    refine VX.store rfl rfl rfl rfl rfl au_sR rfl ?_
                    refine VX.nil ?_
                    refine AnyV.more [7] (by kernel_rfl) (by simp) ?_
                    refine allI_cons ?_ ?_
                    · refine anyV_op rfl ?_
                      refine VX.store rfl rfl rfl rfl rfl au_sR rfl ?_
                      refine VX.nil ?_
                      exact AnyV.fin (by kernel_rfl) (tile_leaf 2 3 1 trivial rfl rfl rfl rfl rfl rfl rfl rfl rfl rfl rfl rfl rfl)
                    exact trivial
                  exact trivial
                exact trivial
              refine allI_cons ?_ ?_
              · refine anyV_op rfl ?_
                refine VX.new rfl rfl ?_
                refine VX.nil ?_
                refine AnyV.more [4] (by kernel_rfl) (by simp) ?_
                refine allI_cons ?_ ?_
                · refine anyV_op rfl ?_
                  refine VX.new rfl rfl ?_
                  refine VX.nil ?_
                  refine AnyV.more [6] (by kernel_rfl) (by simp) ?_
                  refine allI_cons ?_ ?_
                  · refine anyV_op rfl ?_
                    refine VX.store rfl rfl rfl rfl rfl au_sR rfl ?_
                    refine VX.nil ?_
                    refine AnyV.more [7] (by kernel_rfl) (by simp) ?_
                    refine allI_cons ?_ ?_
                    · refine anyV_op rfl ?_
                      refine VX.store rfl rfl rfl rfl rfl au_sR rfl ?_
                      refine VX.nil ?_
                      exact AnyV.fin (by kernel_rfl) (tile_leaf 3 2 1 trivial rfl rfl rfl rfl rfl rfl rfl rfl rfl rfl rfl rfl rfl)
                    exact trivial
                  exact trivial
                exact trivial
              exact trivial
            refine allI_cons ?_ ?_
            · refine anyV_op rfl ?_
              refine VX.new rfl rfl ?_
              refine VX.nil ?_
              refine AnyV.more [3, 5] (by kernel_rfl) (by simp) ?_
              refine allI_cons ?_ ?_
              · refine anyV_op rfl ?_
                refine VX.callP0 rfl rfl rfl (planeOf_p tw th tpx htw2 hth2 htl htb) ?_
                refine VX.nil ?_
                refine AnyV.more [5] (by kernel_rfl) (by simp) ?_
                refine allI_cons ?_ ?_
                · refine anyV_op rfl ?_
                  refine VX.new rfl rfl ?_
                  refine VX.nil ?_
                  refine AnyV.more [6] (by kernel_rfl) (by simp) ?_
                  refine allI_cons ?_ ?_
                  · refine anyV_op rfl ?_
                    refine VX.store rfl rfl rfl rfl rfl au_sR rfl ?_
                    refine VX.nil ?_
                    refine AnyV.more [7] (by kernel_rfl) (by simp) ?_
                    refine allI_cons ?_ ?_
                    · refine anyV_op rfl ?_
                      refine VX.store rfl rfl rfl rfl rfl au_sR rfl ?_
                      refine VX.nil ?_
                      exact AnyV.fin (by kernel_rfl) (tile_leaf 2 3 1 trivial rfl rfl rfl rfl rfl rfl rfl rfl rfl rfl rfl rfl rfl)
                    exact trivial
                  exact trivial
                exact trivial
              refine allI_cons ?_ ?_
              · refine anyV_op rfl ?_
                refine VX.new rfl rfl ?_
                refine VX.nil ?_
                refine AnyV.more [3] (by kernel_rfl) (by simp) ?_
                refine allI_cons ?_ ?_
                · refine anyV_op rfl ?_
                  refine VX.callP0 rfl rfl rfl (planeOf_p tw th tpx htw2 hth2 htl htb) ?_
                  refine VX.nil ?_
                  refine AnyV.more [6] (by kernel_rfl) (by simp) ?_
                  refine allI_cons ?_ ?_
                  · refine anyV_op rfl ?_
                    refine VX.store rfl rfl rfl rfl rfl au_sR rfl ?_
                    refine VX.nil ?_
                    refine AnyV.more [7] (by kernel_rfl) (by simp) ?_
                    refine allI_cons ?_ ?_
                    · refine anyV_op rfl ?_
                      refine VX.store rfl rfl rfl rfl rfl au_sR rfl ?_
                      refine VX.nil ?_
                      exact AnyV.fin (by kernel_rfl) (tile_leaf 2 3 1 trivial rfl rfl rfl rfl rfl rfl rfl rfl rfl rfl rfl rfl rfl)
                    exact trivial
                  exact trivial
                exact trivial
              exact trivial
            refine allI_cons ?_ ?_
            · refine anyV_op rfl ?_
              refine VX.new rfl rfl ?_
              refine VX.nil ?_
              refine AnyV.more [3, 4] (by kernel_rfl) (by simp) ?_
              refine allI_cons ?_ ?_
              · refine anyV_op rfl ?_
                refine VX.callP0 rfl rfl rfl (planeOf_p tw th tpx htw2 hth2 htl htb) ?_
                refine VX.nil ?_
                refine AnyV.more [4] (by kernel_rfl) (by simp) ?_
                refine allI_cons ?_ ?_
                · refine anyV_op rfl ?_
                  refine VX.new rfl rfl ?_
                  refine VX.nil ?_
                  refine AnyV.more [6] (by kernel_rfl) (by simp) ?_
                  refine allI_cons ?_ ?_
                  · refine anyV_op rfl ?_
                    refine VX.store rfl rfl rfl rfl rfl au_sR rfl ?_
                    refine VX.nil ?_
                    refine AnyV.more [7] (by kernel_rfl) (by simp) ?_
                    refine allI_cons ?_ ?_
                    · refine anyV_op rfl ?_
                      refine VX.store rfl rfl rfl rfl rfl au_sR rfl ?_
                      refine VX.nil ?_
                      exact AnyV.fin (by kernel_rfl) (tile_leaf 3 2 1 trivial rfl rfl rfl rfl rfl rfl rfl rfl rfl rfl rfl rfl rfl)
                    exact trivial
                  exact trivial
                exact trivial
              refine allI_cons ?_ ?_
              · refine anyV_op rfl ?_
                refine VX.new rfl rfl ?_
                refine VX.nil ?_
                refine AnyV.more [3] (by kernel_rfl) (by simp) ?_
                refine allI_cons ?_ ?_
                · refine anyV_op rfl ?_
                  refine VX.callP0 rfl rfl rfl (planeOf_p tw th tpx htw2 hth2 htl htb) ?_
                  refine VX.nil ?_
                  refine AnyV.more [6] (by kernel_rfl) (by simp) ?_
                  refine allI_cons ?_ ?_
                  · refine anyV_op rfl ?_
                    refine VX.store rfl rfl rfl rfl rfl au_sR rfl ?_
                    refine VX.nil ?_
                    refine AnyV.more [7] (by kernel_rfl) (by simp) ?_
                    refine allI_cons ?_ ?_
                    · refine anyV_op rfl ?_
                      refine VX.store rfl rfl rfl rfl rfl au_sR rfl ?_
                      refine VX.nil ?_
                      exact AnyV.fin (by kernel_rfl) (tile_leaf 3 2 1 trivial rfl rfl rfl rfl rfl rfl rfl rfl rfl rfl rfl rfl rfl)
                    exact trivial
                  exact trivial
                exact trivial
              exact trivial
            exact trivial
          refine allI_cons ?_ ?_
          · refine anyV_op rfl ?_
            refine VX.new rfl rfl ?_
            refine VX.nil ?_
            refine AnyV.more [1, 5] (by kernel_rfl) (by simp) ?_
            refine allI_cons ?_ ?_
            · refine anyV_op rfl ?_
              refine VX.callT rfl rfl (CallT.frame (planeOf_t w h px hw hh hl hpb) [] rfl au_ci au_ci ?_)
              rintro _ _ ⟨rfl, rfl⟩
              refine frK au_co au_co ?_
              refine VX.nil ?_
              refine AnyV.more [3, 5] (by kernel_rfl) (by simp) ?_
              refine allI_cons ?_ ?_
              · refine anyV_op rfl ?_
                refine VX.callP0 rfl rfl rfl (planeOf_p tw th tpx htw2 hth2 htl htb) ?_
                refine VX.nil ?_
                refine AnyV.more [5] (by kernel_rfl) (by simp) ?_
                refine allI_cons ?_ ?_
                · refine anyV_op rfl ?_
                  refine VX.new rfl rfl ?_
                  refine VX.nil ?_
                  refine AnyV.more [6] (by kernel_rfl) (by simp) ?_
                  refine allI_cons ?_ ?_
                  · refine anyV_op rfl ?_
                    refine VX.store rfl rfl rfl rfl rfl au_sR rfl ?_
                    refine VX.nil ?_
                    refine AnyV.more [7] (by kernel_rfl) (by simp) ?_
                    refine allI_cons ?_ ?_
                    · refine anyV_op rfl ?_
                      refine VX.store rfl rfl rfl rfl rfl au_sR rfl ?_
                      refine VX.nil ?_
                      exact AnyV.fin (by kernel_rfl) (tile_leaf 1 3 2 trivial rfl rfl rfl rfl rfl rfl rfl rfl rfl rfl rfl rfl rfl)
                    exact trivial
                  exact trivial
                exact trivial
              refine allI_cons ?_ ?_
              · refine anyV_op rfl ?_
                refine VX.new rfl rfl ?_
                refine VX.nil ?_
                refine AnyV.more [3] (by kernel_rfl) (by simp) ?_
                refine allI_cons ?_ ?_
                · refine anyV_op rfl ?_
                  refine VX.callP0 rfl rfl rfl (planeOf_p tw th tpx htw2 hth2 htl htb) ?_
                  refine VX.nil ?_
                  refine AnyV.more [6] (by kernel_rfl) (by simp) ?_
                  refine allI_cons ?_ ?_
                  · refine anyV_op rfl ?_
                    refine VX.store rfl rfl rfl rfl rfl au_sR rfl ?_
                    refine VX.nil ?_
                    refine AnyV.more [7] (by kernel_rfl) (by simp) ?_
                    refine allI_cons ?_ ?_
                    · refine anyV_op rfl ?_
                      refine VX.store rfl rfl rfl rfl rfl au_sR rfl ?_
                      refine VX.nil ?_
                      exact AnyV.fin (by kernel_rfl) (tile_leaf 1 3 2 trivial rfl rfl rfl rfl rfl rfl rfl rfl rfl rfl rfl rfl rfl)
                    exact trivial
                  exact trivial
                exact trivial
              exact trivial
            refine allI_cons ?_ ?_
            · refine anyV_op rfl ?_
              refine VX.new rfl rfl ?_
              refine VX.nil ?_
              refine AnyV.more [1] (by kernel_rfl) (by simp) ?_
              refine allI_cons ?_ ?_
              · refine anyV_op rfl ?_
                refine VX.callT rfl rfl (CallT.frame (planeOf_t w h px hw hh hl hpb) [] rfl au_ci au_ci ?_)
                rintro _ _ ⟨rfl, rfl⟩
                refine frK au_co au_co ?_
                refine VX.nil ?_
                refine AnyV.more [3] (by kernel_rfl) (by simp) ?_
                refine allI_cons ?_ ?_
                · refine anyV_op rfl ?_
                  refine VX.callP0 rfl rfl rfl (planeOf_p tw th tpx htw2 hth2 htl htb) ?_
                  refine VX.nil ?_
                  refine AnyV.more [6] (by kernel_rfl) (by simp) ?_
                  refine allI_cons ?_ ?_
                  · refine anyV_op rfl ?_
                    refine VX.store rfl rfl rfl rfl rfl au_sR rfl ?_
                    refine VX.nil ?_
                    refine AnyV.more [7] (by kernel_rfl) (by simp) ?_
                    refine allI_cons ?_ ?_
                    · refine anyV_op rfl ?_
                      refine VX.store rfl rfl rfl rfl rfl au_sR rfl ?_
                      refine VX.nil ?_
                      exact AnyV.fin (by kernel_rfl) (tile_leaf 1 2 3 trivial rfl rfl rfl rfl rfl rfl rfl rfl rfl rfl rfl rfl rfl)
                    exact trivial
                  exact trivial
                exact trivial
              exact trivial
            exact trivial
          refine allI_cons ?_ ?_
          · refine anyV_op rfl ?_
            refine VX.new rfl rfl ?_
            refine VX.nil ?_
            refine AnyV.more [1, 4] (by kernel_rfl) (by simp) ?_
            refine allI_cons ?_ ?_
            · refine anyV_op rfl ?_
              refine VX.callT rfl rfl (CallT.frame (planeOf_t w h px hw hh hl hpb) [] rfl au_ci au_ci ?_)
              rintro _ _ ⟨rfl, rfl⟩
              refine frK au_co au_co ?_
              refine VX.nil ?_
              refine AnyV.more [3, 4] (by kernel_rfl) (by simp) ?_
              refine allI_cons ?_ ?_
              · refine anyV_op rfl ?_
                refine VX.callP0 rfl rfl rfl (planeOf_p tw th tpx htw2 hth2 htl htb) ?_
                refine VX.nil ?_
                refine AnyV.more [4] (by kernel_rfl) (by simp) ?_
                refine allI_cons ?_ ?_
                · refine anyV_op rfl ?_
                  refine VX.new rfl rfl ?_
                  refine VX.nil ?_
                  refine AnyV.more [6] (by kernel_rfl) (by simp) ?_
                  refine allI_cons ?_ ?_
                  · refine anyV_op rfl ?_
                    refine VX.store rfl rfl rfl rfl rfl au_sR rfl ?_
                    refine VX.nil ?_
                    refine AnyV.more [7] (by kernel_rfl) (by simp) ?_
                    refine allI_cons ?_ ?_
                    · refine anyV_op rfl ?_
                      refine VX.store rfl rfl rfl rfl rfl au_sR rfl ?_
                      refine VX.nil ?_
                      exact AnyV.fin (by kernel_rfl) (tile_leaf 3 1 2 trivial rfl rfl rfl rfl rfl rfl rfl rfl rfl rfl rfl rfl rfl)
                    exact trivial
                  exact trivial
                exact trivial
              refine allI_cons ?_ ?_
              · refine anyV_op rfl ?_
                refine VX.new rfl rfl ?_
                refine VX.nil ?_
                refine AnyV.more [3] (by kernel_rfl) (by simp) ?_
                refine allI_cons ?_ ?_
                · refine anyV_op rfl ?_
                  refine VX.callP0 rfl rfl rfl (planeOf_p tw th tpx htw2 hth2 htl htb) ?_
                  refine VX.nil ?_
                  refine AnyV.more [6] (by kernel_rfl) (by simp) ?_
                  refine allI_cons ?_ ?_
                  · refine anyV_op rfl ?_
                    refine VX.store rfl rfl rfl rfl rfl au_sR rfl ?_
                    refine VX.nil ?_
                    refine AnyV.more [7] (by kernel_rfl) (by simp) ?_
                    refine allI_cons ?_ ?_
                    · refine anyV_op rfl ?_
                      refine VX.store rfl rfl rfl rfl rfl au_sR rfl ?_
                      refine VX.nil ?_
                      exact AnyV.fin (by kernel_rfl) (tile_leaf 3 1 2 trivial rfl rfl rfl rfl rfl rfl rfl rfl rfl rfl rfl rfl rfl)
                    exact trivial
                  exact trivial
                exact trivial
              exact trivial
            refine allI_cons ?_ ?_
            · refine anyV_op rfl ?_
              refine VX.new rfl rfl ?_
              refine VX.nil ?_
              refine AnyV.more [1] (by kernel_rfl) (by simp) ?_
              refine allI_cons ?_ ?_
              · refine anyV_op rfl ?_
                refine VX.callT rfl rfl (CallT.frame (planeOf_t w h px hw hh hl hpb) [] rfl au_ci au_ci ?_)
                rintro _ _ ⟨rfl, rfl⟩
                refine frK au_co au_co ?_
                refine VX.nil ?_
                refine AnyV.more [3] (by kernel_rfl) (by simp) ?_
                refine allI_cons ?_ ?_
                · refine anyV_op rfl ?_
                  refine VX.callP0 rfl rfl rfl (planeOf_p tw th tpx htw2 hth2 htl htb) ?_
                  refine VX.nil ?_
                  refine AnyV.more [6] (by kernel_rfl) (by simp) ?_
                  refine allI_cons ?_ ?_
                  · refine anyV_op rfl ?_
                    refine VX.store rfl rfl rfl rfl rfl au_sR rfl ?_
                    refine VX.nil ?_
                    refine AnyV.more [7] (by kernel_rfl) (by simp) ?_
                    refine allI_cons ?_ ?_
                    · refine anyV_op rfl ?_
                      refine VX.store rfl rfl rfl rfl rfl au_sR rfl ?_
                      refine VX.nil ?_
                      exact AnyV.fin (by kernel_rfl) (tile_leaf 2 1 3 trivial rfl rfl rfl rfl rfl rfl rfl rfl rfl rfl rfl rfl rfl)
                    exact trivial
                  exact trivial
                exact trivial
              exact trivial
            exact trivial
          exact trivial
        refine allI_cons ?_ ?_
        · refine anyV_op rfl ?_
          refine VX.new rfl rfl ?_
          refine VX.nil ?_
          refine AnyV.more [1, 2, 5] (by kernel_rfl) (by simp) ?_
          refine allI_cons ?_ ?_
          · refine anyV_op rfl ?_
            refine VX.callT rfl rfl (CallT.frame (planeOf_t w h px hw hh hl hpb) [] rfl au_ci au_ci ?_)
            rintro _ _ ⟨rfl, rfl⟩
            refine frK au_co au_co ?_
            refine VX.nil ?_
            refine AnyV.more [2, 5] (by kernel_rfl) (by simp) ?_
            refine allI_cons ?_ ?_
            · refine anyV_op rfl ?_
              first | refine VX.meek rfl ?_ | refine VX.loadI rfl rfl au_l ?_ | refine VX.loadP rfl rfl rfl au_l ?_
              refine VX.nil ?_
              refine AnyV.more [3, 5] (by kernel_rfl) (by simp) ?_
              refine allI_cons ?_ ?_
              · refine anyV_op rfl ?_
                refine VX.callP0 rfl rfl rfl (planeOf_p tw th tpx htw2 hth2 htl htb) ?_
                refine VX.nil ?_
                refine AnyV.more [5] (by kernel_rfl) (by simp) ?_
                refine allI_cons ?_ ?_
                · refine anyV_op rfl ?_
                  refine VX.new rfl rfl ?_
                  refine VX.nil ?_
                  refine AnyV.more [6] (by kernel_rfl) (by simp) ?_
                  refine allI_cons ?_ ?_
                  · refine anyV_op rfl ?_
                    refine VX.store rfl rfl rfl rfl rfl au_sR rfl ?_
                    refine VX.nil ?_
                    refine AnyV.more [7] (by kernel_rfl) (by simp) ?_
                    refine allI_cons ?_ ?_
                    · refine anyV_op rfl ?_
                      refine VX.store rfl rfl rfl rfl rfl au_sR rfl ?_
                      refine VX.nil ?_
                      exact AnyV.fin (by kernel_rfl) (tile_leaf 1 3 2 trivial rfl rfl rfl rfl rfl rfl rfl rfl rfl rfl rfl rfl rfl)
                    exact trivial
                  exact trivial
                exact trivial
              refine allI_cons ?_ ?_
              · refine anyV_op rfl ?_
                refine VX.new rfl rfl ?_
                refine VX.nil ?_
                refine AnyV.more [3] (by kernel_rfl) (by simp) ?_
                refine allI_cons ?_ ?_
                · refine anyV_op rfl ?_
                  refine VX.callP0 rfl rfl rfl (planeOf_p tw th tpx htw2 hth2 htl htb) ?_
                  refine VX.nil ?_
                  refine AnyV.more [6] (by kernel_rfl) (by simp) ?_
                  refine allI_cons ?_ ?_
                  · refine anyV_op rfl ?_
                    refine VX.store rfl rfl rfl rfl rfl au_sR rfl ?_
                    refine VX.nil ?_
                    refine AnyV.more [7] (by kernel_rfl) (by simp) ?_
                    refine allI_cons ?_ ?_
                    · refine anyV_op rfl ?_
                      refine VX.store rfl rfl rfl rfl rfl au_sR rfl ?_
                      refine VX.nil ?_
                      exact AnyV.fin (by kernel_rfl) (tile_leaf 1 3 2 trivial rfl rfl rfl rfl rfl rfl rfl rfl rfl rfl rfl rfl rfl)
                    exact trivial
                  exact trivial
                exact trivial
              exact trivial
            refine allI_cons ?_ ?_
            · refine anyV_op rfl ?_
              refine VX.new rfl rfl ?_
              refine VX.nil ?_
              refine AnyV.more [2] (by kernel_rfl) (by simp) ?_
              refine allI_cons ?_ ?_
              · refine anyV_op rfl ?_
                first | refine VX.meek rfl ?_ | refine VX.loadI rfl rfl au_l ?_ | refine VX.loadP rfl rfl rfl au_l ?_
                refine VX.nil ?_
                refine AnyV.more [3] (by kernel_rfl) (by simp) ?_
                refine allI_cons ?_ ?_
                · refine anyV_op rfl ?_
                  refine VX.callP0 rfl rfl rfl (planeOf_p tw th tpx htw2 hth2 htl htb) ?_
                  refine VX.nil ?_
                  refine AnyV.more [6] (by kernel_rfl) (by simp) ?_
                  refine allI_cons ?_ ?_
                  · refine anyV_op rfl ?_
                    refine VX.store rfl rfl rfl rfl rfl au_sR rfl ?_
                    refine VX.nil ?_
                    refine AnyV.more [7] (by kernel_rfl) (by simp) ?_
                    refine allI_cons ?_ ?_
                    · refine anyV_op rfl ?_
                      refine VX.store rfl rfl rfl rfl rfl au_sR rfl ?_
                      refine VX.nil ?_
                      exact AnyV.fin (by kernel_rfl) (tile_leaf 1 3 2 trivial rfl rfl rfl rfl rfl rfl rfl rfl rfl rfl rfl rfl rfl)
                    exact trivial
                  exact trivial
                exact trivial
              exact trivial
            exact trivial
          refine allI_cons ?_ ?_
          · refine anyV_op rfl ?_
            first | refine VX.meek rfl ?_ | refine VX.loadI rfl rfl au_l ?_ | refine VX.loadP rfl rfl rfl au_l ?_
            refine VX.nil ?_
            refine AnyV.more [1, 5] (by kernel_rfl) (by simp) ?_
            refine allI_cons ?_ ?_
            · refine anyV_op rfl ?_
              refine VX.callT rfl rfl (CallT.frame (planeOf_t w h px hw hh hl hpb) [] rfl au_ci au_ci ?_)
              rintro _ _ ⟨rfl, rfl⟩
              refine frK au_co au_co ?_
              refine VX.nil ?_
              refine AnyV.more [3, 5] (by kernel_rfl) (by simp) ?_
              refine allI_cons ?_ ?_
              · refine anyV_op rfl ?_
                refine VX.callP0 rfl rfl rfl (planeOf_p tw th tpx htw2 hth2 htl htb) ?_
                refine VX.nil ?_
                refine AnyV.more [5] (by kernel_rfl) (by simp) ?_
                refine allI_cons ?_ ?_
                · refine anyV_op rfl ?_
                  refine VX.new rfl rfl ?_
                  refine VX.nil ?_
                  refine AnyV.more [6] (by kernel_rfl) (by simp) ?_
                  refine allI_cons ?_ ?_
                  · refine anyV_op rfl ?_
                    refine VX.store rfl rfl rfl rfl rfl au_sR rfl ?_
                    refine VX.nil ?_
                    refine AnyV.more [7] (by kernel_rfl) (by simp) ?_
                    refine allI_cons ?_ ?_
                    · refine anyV_op rfl ?_
                      refine VX.store rfl rfl rfl rfl rfl au_sR rfl ?_
                      refine VX.nil ?_
                      exact AnyV.fin (by kernel_rfl) (tile_leaf 1 3 2 trivial rfl rfl rfl rfl rfl rfl rfl rfl rfl rfl rfl rfl rfl)
                    exact trivial
                  exact trivial
                exact trivial
              refine allI_cons ?_ ?_
              · refine anyV_op rfl ?_
                refine VX.new rfl rfl ?_
                refine VX.nil ?_
                refine AnyV.more [3] (by kernel_rfl) (by simp) ?_
                refine allI_cons ?_ ?_
                · refine anyV_op rfl ?_
                  refine VX.callP0 rfl rfl rfl (planeOf_p tw th tpx htw2 hth2 htl htb) ?_
                  refine VX.nil ?_
                  refine AnyV.more [6] (by kernel_rfl) (by simp) ?_
                  refine allI_cons ?_ ?_
                  · refine anyV_op rfl ?_
                    refine VX.store rfl rfl rfl rfl rfl au_sR rfl ?_
                    refine VX.nil ?_
                    refine AnyV.more [7] (by kernel_rfl) (by simp) ?_
                    refine allI_cons ?_ ?_
                    · refine anyV_op rfl ?_
                      refine VX.store rfl rfl rfl rfl rfl au_sR rfl ?_
                      refine VX.nil ?_
                      exact AnyV.fin (by kernel_rfl) (tile_leaf 1 3 2 trivial rfl rfl rfl rfl rfl rfl rfl rfl rfl rfl rfl rfl rfl)
                    exact trivial
                  exact trivial
                exact trivial
              exact trivial
            refine allI_cons ?_ ?_
            · refine anyV_op rfl ?_
              refine VX.new rfl rfl ?_
              refine VX.nil ?_
              refine AnyV.more [1] (by kernel_rfl) (by simp) ?_
              refine allI_cons ?_ ?_
              · refine anyV_op rfl ?_
                refine VX.callT rfl rfl (CallT.frame (planeOf_t w h px hw hh hl hpb) [] rfl au_ci au_ci ?_)
                rintro _ _ ⟨rfl, rfl⟩
                refine frK au_co au_co ?_
                refine VX.nil ?_
                refine AnyV.more [3] (by kernel_rfl) (by simp) ?_
                refine allI_cons ?_ ?_
                · refine anyV_op rfl ?_
                  refine VX.callP0 rfl rfl rfl (planeOf_p tw th tpx htw2 hth2 htl htb) ?_
                  refine VX.nil ?_
                  refine AnyV.more [6] (by kernel_rfl) (by simp) ?_
                  refine allI_cons ?_ ?_
                  · refine anyV_op rfl ?_
                    refine VX.store rfl rfl rfl rfl rfl au_sR rfl ?_
                    refine VX.nil ?_
                    refine AnyV.more [7] (by kernel_rfl) (by simp) ?_
                    refine allI_cons ?_ ?_
                    · refine anyV_op rfl ?_
                      refine VX.store rfl rfl rfl rfl rfl au_sR rfl ?_
                      refine VX.nil ?_
                      exact AnyV.fin (by kernel_rfl) (tile_leaf 1 2 3 trivial rfl rfl rfl rfl rfl rfl rfl rfl rfl rfl rfl rfl rfl)
                    exact trivial
                  exact trivial
                exact trivial
              exact trivial
            exact trivial
          refine allI_cons ?_ ?_
          · refine anyV_op rfl ?_
            refine VX.new rfl rfl ?_
            refine VX.nil ?_
            refine AnyV.more [1, 2] (by kernel_rfl) (by simp) ?_
            refine allI_cons ?_ ?_
            · refine anyV_op rfl ?_
              refine VX.callT rfl rfl (CallT.frame (planeOf_t w h px hw hh hl hpb) [] rfl au_ci au_ci ?_)
              rintro _ _ ⟨rfl, rfl⟩
              refine frK au_co au_co ?_
              refine VX.nil ?_
              refine AnyV.more [2] (by kernel_rfl) (by simp) ?_
              refine allI_cons ?_ ?_
              · refine anyV_op rfl ?_
                first | refine VX.meek rfl ?_ | refine VX.loadI rfl rfl au_l ?_ | refine VX.loadP rfl rfl rfl au_l ?_
                refine VX.nil ?_
                refine AnyV.more [3] (by kernel_rfl) (by simp) ?_
                refine allI_cons ?_ ?_
                · refine anyV_op rfl ?_
                  refine VX.callP0 rfl rfl rfl (planeOf_p tw th tpx htw2 hth2 htl htb) ?_
                  refine VX.nil ?_
                  refine AnyV.more [6] (by kernel_rfl) (by simp) ?_
                  refine allI_cons ?_ ?_
                  · refine anyV_op rfl ?_
                    refine VX.store rfl rfl rfl rfl rfl au_sR rfl ?_
                    refine VX.nil ?_
                    refine AnyV.more [7] (by kernel_rfl) (by simp) ?_
                    refine allI_cons ?_ ?_
                    · refine anyV_op rfl ?_
                      refine VX.store rfl rfl rfl rfl rfl au_sR rfl ?_
                      refine VX.nil ?_
                      exact AnyV.fin (by kernel_rfl) (tile_leaf 1 2 3 trivial rfl rfl rfl rfl rfl rfl rfl rfl rfl rfl rfl rfl rfl)
                    exact trivial
                  exact trivial
                exact trivial
              exact trivial
            refine allI_cons ?_ ?_
            · refine anyV_op rfl ?_
              first | refine VX.meek rfl ?_ | refine VX.loadI rfl rfl au_l ?_ | refine VX.loadP rfl rfl rfl au_l ?_
              refine VX.nil ?_
              refine AnyV.more [1] (by kernel_rfl) (by simp) ?_
              refine allI_cons ?_ ?_
              · refine anyV_op rfl ?_
                refine VX.callT rfl rfl (CallT.frame (planeOf_t w h px hw hh hl hpb) [] rfl au_ci au_ci ?_)
                rintro _ _ ⟨rfl, rfl⟩
                refine frK au_co au_co ?_
                refine VX.nil ?_
                refine AnyV.more [3] (by kernel_rfl) (by simp) ?_
                refine allI_cons ?_ ?_
                · refine anyV_op rfl ?_
                  refine VX.callP0 rfl rfl rfl (planeOf_p tw th tpx htw2 hth2 htl htb) ?_
                  refine VX.nil ?_
                  refine AnyV.more [6] (by kernel_rfl) (by simp) ?_
                  refine allI_cons ?_ ?_
                  · refine anyV_op rfl ?_
                    refine VX.store rfl rfl rfl rfl rfl au_sR rfl ?_
                    refine VX.nil ?_
                    refine AnyV.more [7] (by kernel_rfl) (by simp) ?_
                    refine allI_cons ?_ ?_
                    · refine anyV_op rfl ?_
                      refine VX.store rfl rfl rfl rfl rfl au_sR rfl ?_
                      refine VX.nil ?_
                      exact AnyV.fin (by kernel_rfl) (tile_leaf 1 2 3 trivial rfl rfl rfl rfl rfl rfl rfl rfl rfl rfl rfl rfl rfl)
                    exact trivial
                  exact trivial
                exact trivial
              exact trivial
            exact trivial
          exact trivial
        refine allI_cons ?_ ?_
        · refine anyV_op rfl ?_
          refine VX.new rfl rfl ?_
          refine VX.nil ?_
          refine AnyV.more [1, 2, 4] (by kernel_rfl) (by simp) ?_
          refine allI_cons ?_ ?_
          · refine anyV_op rfl ?_
            refine VX.callT rfl rfl (CallT.frame (planeOf_t w h px hw hh hl hpb) [] rfl au_ci au_ci ?_)
            rintro _ _ ⟨rfl, rfl⟩
            refine frK au_co au_co ?_
            refine VX.nil ?_
            refine AnyV.more [2, 4] (by kernel_rfl) (by simp) ?_
            refine allI_cons ?_ ?_
            · refine anyV_op rfl ?_
              first | refine VX.meek rfl ?_ | refine VX.loadI rfl rfl au_l ?_ | refine VX.loadP rfl rfl rfl au_l ?_
              refine VX.nil ?_
              refine AnyV.more [3, 4] (by kernel_rfl) (by simp) ?_
              refine allI_cons ?_ ?_
              · refine anyV_op rfl ?_
                refine VX.callP0 rfl rfl rfl (planeOf_p tw th tpx htw2 hth2 htl htb) ?_
                refine VX.nil ?_
                refine AnyV.more [4] (by kernel_rfl) (by simp) ?_
                refine allI_cons ?_ ?_
                · refine anyV_op rfl ?_
                  refine VX.new rfl rfl ?_
                  refine VX.nil ?_
                  refine AnyV.more [6] (by kernel_rfl) (by simp) ?_
                  refine allI_cons ?_ ?_
                  · refine anyV_op rfl ?_
                    refine VX.store rfl rfl rfl rfl rfl au_sR rfl ?_
                    refine VX.nil ?_
                    refine AnyV.more [7] (by kernel_rfl) (by simp) ?_
                    refine allI_cons ?_ ?_
                    · refine anyV_op rfl ?_
                      refine VX.store rfl rfl rfl rfl rfl au_sR rfl ?_
                      refine VX.nil ?_
                      exact AnyV.fin (by kernel_rfl) (tile_leaf 3 1 2 trivial rfl rfl rfl rfl rfl rfl rfl rfl rfl rfl rfl rfl rfl)
                    exact trivial
                  exact trivial
                exact trivial
              refine allI_cons ?_ ?_
              · refine anyV_op rfl ?_
                refine VX.new rfl rfl ?_
                refine VX.nil ?_
                refine AnyV.more [3] (by kernel_rfl) (by simp) ?_
                refine allI_cons ?_ ?_
                · refine anyV_op rfl ?_
                  refine VX.callP0 rfl rfl rfl (planeOf_p tw th tpx htw2 hth2 htl htb) ?_
                  refine VX.nil ?_
                  refine AnyV.more [6] (by kernel_rfl) (by simp) ?_
                  refine allI_cons ?_ ?_
                  · refine anyV_op rfl ?_
                    refine VX.store rfl rfl rfl rfl rfl au_sR rfl ?_
                    refine VX.nil ?_
                    refine AnyV.more [7] (by kernel_rfl) (by simp) ?_
                    refine allI_cons ?_ ?_
                    · refine anyV_op rfl ?_
                      refine VX.store rfl rfl rfl rfl rfl au_sR rfl ?_
                      refine VX.nil ?_
                      exact AnyV.fin (by kernel_rfl) (tile_leaf 3 1 2 trivial rfl rfl rfl rfl rfl rfl rfl rfl rfl rfl rfl rfl rfl)
                    exact trivial
                  exact trivial
                exact trivial
              exact trivial
            refine allI_cons ?_ ?_
            · refine anyV_op rfl ?_
              refine VX.new rfl rfl ?_
              refine VX.nil ?_
              refine AnyV.more [2] (by kernel_rfl) (by simp) ?_
              refine allI_cons ?_ ?_
              · refine anyV_op rfl ?_
                first | refine VX.meek rfl ?_ | refine VX.loadI rfl rfl au_l ?_ | refine VX.loadP rfl rfl rfl au_l ?_
                refine VX.nil ?_
                refine AnyV.more [3] (by kernel_rfl) (by simp) ?_
                refine allI_cons ?_ ?_
                · refine anyV_op rfl ?_
                  refine VX.callP0 rfl rfl rfl (planeOf_p tw th tpx htw2 hth2 htl htb) ?_
                  refine VX.nil ?_
                  refine AnyV.more [6] (by kernel_rfl) (by simp) ?_
                  refine allI_cons ?_ ?_
                  · refine anyV_op rfl ?_
                    refine VX.store rfl rfl rfl rfl rfl au_sR rfl ?_
                    refine VX.nil ?_
                    refine AnyV.more [7] (by kernel_rfl) (by simp) ?_
                    refine allI_cons ?_ ?_
                    · refine anyV_op rfl ?_
                      refine VX.store rfl rfl rfl rfl rfl au_sR rfl ?_
                      refine VX.nil ?_
                      exact AnyV.fin (by kernel_rfl) (tile_leaf 3 1 2 trivial rfl rfl rfl rfl rfl rfl rfl rfl rfl rfl rfl rfl rfl)
                    exact trivial
                  exact trivial
                exact trivial
              exact trivial
            exact trivial
          refine allI_cons ?_ ?_
          · refine anyV_op rfl ?_
            first | refine VX.meek rfl ?_ | refine VX.loadI rfl rfl au_l ?_ | refine VX.loadP rfl rfl rfl au_l ?_
            refine VX.nil ?_
            refine AnyV.more [1, 4] (by kernel_rfl) (by simp) ?_
            refine allI_cons ?_ ?_
            · refine anyV_op rfl ?_
              refine VX.callT rfl rfl (CallT.frame (planeOf_t w h px hw hh hl hpb) [] rfl au_ci au_ci ?_)
              rintro _ _ ⟨rfl, rfl⟩
              refine frK au_co au_co ?_
              refine VX.nil ?_
              refine AnyV.more [3, 4] (by kernel_rfl) (by simp) ?_
              refine allI_cons ?_ ?_
              · refine anyV_op rfl ?_
                refine VX.callP0 rfl rfl rfl (planeOf_p tw th tpx htw2 hth2 htl htb) ?_
                refine VX.nil ?_
                refine AnyV.more [4] (by kernel_rfl) (by simp) ?_
                refine allI_cons ?_ ?_
                · refine anyV_op rfl ?_
                  refine VX.new rfl rfl ?_
                  refine VX.nil ?_
                  refine AnyV.more [6] (by kernel_rfl) (by simp) ?_
                  refine allI_cons ?_ ?_
                  · refine anyV_op rfl ?_
                    refine VX.store rfl rfl rfl rfl rfl au_sR rfl ?_
                    refine VX.nil ?_
                    refine AnyV.more [7] (by kernel_rfl) (by simp) ?_
                    refine allI_cons ?_ ?_
                    · refine anyV_op rfl ?_
                      refine VX.store rfl rfl rfl rfl rfl au_sR rfl ?_
                      refine VX.nil ?_
                      exact AnyV.fin (by kernel_rfl) (tile_leaf 3 1 2 trivial rfl rfl rfl rfl rfl rfl rfl rfl rfl rfl rfl rfl rfl)
                    exact trivial
                  exact trivial
                exact trivial
              refine allI_cons ?_ ?_
              · refine anyV_op rfl ?_
                refine VX.new rfl rfl ?_
                refine VX.nil ?_
                refine AnyV.more [3] (by kernel_rfl) (by simp) ?_
                refine allI_cons ?_ ?_
                · refine anyV_op rfl ?_
                  refine VX.callP0 rfl rfl rfl (planeOf_p tw th tpx htw2 hth2 htl htb) ?_
                  refine VX.nil ?_
                  refine AnyV.more [6] (by kernel_rfl) (by simp) ?_
                  refine allI_cons ?_ ?_
                  · refine anyV_op rfl ?_
                    refine VX.store rfl rfl rfl rfl rfl au_sR rfl ?_
                    refine VX.nil ?_
                    refine AnyV.more [7] (by kernel_rfl) (by simp) ?_
                    refine allI_cons ?_ ?_
                    · refine anyV_op rfl ?_
                      refine VX.store rfl rfl rfl rfl rfl au_sR rfl ?_
                      refine VX.nil ?_
                      exact AnyV.fin (by kernel_rfl) (tile_leaf 3 1 2 trivial rfl rfl rfl rfl rfl rfl rfl rfl rfl rfl rfl rfl rfl)
                    exact trivial
                  exact trivial
                exact trivial
              exact trivial
            refine allI_cons ?_ ?_
            · refine anyV_op rfl ?_
              refine VX.new rfl rfl ?_
              refine VX.nil ?_
              refine AnyV.more [1] (by kernel_rfl) (by simp) ?_
              refine allI_cons ?_ ?_
              · refine anyV_op rfl ?_
                refine VX.callT rfl rfl (CallT.frame (planeOf_t w h px hw hh hl hpb) [] rfl au_ci au_ci ?_)
                rintro _ _ ⟨rfl, rfl⟩
                refine frK au_co au_co ?_
                refine VX.nil ?_
                refine AnyV.more [3] (by kernel_rfl) (by simp) ?_
                refine allI_cons ?_ ?_
                · refine anyV_op rfl ?_
                  refine VX.callP0 rfl rfl rfl (planeOf_p tw th tpx htw2 hth2 htl htb) ?_
                  refine VX.nil ?_
                  refine AnyV.more [6] (by kernel_rfl) (by simp) ?_
                  refine allI_cons ?_ ?_
                  · refine anyV_op rfl ?_
                    refine VX.store rfl rfl rfl rfl rfl au_sR rfl ?_
                    refine VX.nil ?_
                    refine AnyV.more [7] (by kernel_rfl) (by simp) ?_
                    refine allI_cons ?_ ?_
                    · refine anyV_op rfl ?_
                      refine VX.store rfl rfl rfl rfl rfl au_sR rfl ?_
                      refine VX.nil ?_
                      exact AnyV.fin (by kernel_rfl) (tile_leaf 2 1 3 trivial rfl rfl rfl rfl rfl rfl rfl rfl rfl rfl rfl rfl rfl)
                    exact trivial
                  exact trivial
                exact trivial
              exact trivial
            exact trivial
          refine allI_cons ?_ ?_
          · refine anyV_op rfl ?_
            refine VX.new rfl rfl ?_
            refine VX.nil ?_
            refine AnyV.more [1, 2] (by kernel_rfl) (by simp) ?_
            refine allI_cons ?_ ?_
            · refine anyV_op rfl ?_
              refine VX.callT rfl rfl (CallT.frame (planeOf_t w h px hw hh hl hpb) [] rfl au_ci au_ci ?_)
              rintro _ _ ⟨rfl, rfl⟩
              refine frK au_co au_co ?_
              refine VX.nil ?_
              refine AnyV.more [2] (by kernel_rfl) (by simp) ?_
              refine allI_cons ?_ ?_
              · refine anyV_op rfl ?_
                first | refine VX.meek rfl ?_ | refine VX.loadI rfl rfl au_l ?_ | refine VX.loadP rfl rfl rfl au_l ?_
                refine VX.nil ?_
                refine AnyV.more [3] (by kernel_rfl) (by simp) ?_
                refine allI_cons ?_ ?_
                · refine anyV_op rfl ?_
                  refine VX.callP0 rfl rfl rfl (planeOf_p tw th tpx htw2 hth2 htl htb) ?_
                  refine VX.nil ?_
                  refine AnyV.more [6] (by kernel_rfl) (by simp) ?_
                  refine allI_cons ?_ ?_
                  · refine anyV_op rfl ?_
                    refine VX.store rfl rfl rfl rfl rfl au_sR rfl ?_
                    refine VX.nil ?_
                    refine AnyV.more [7] (by kernel_rfl) (by simp) ?_
                    refine allI_cons ?_ ?_
                    · refine anyV_op rfl ?_
                      refine VX.store rfl rfl rfl rfl rfl au_sR rfl ?_
                      refine VX.nil ?_
                      exact AnyV.fin (by kernel_rfl) (tile_leaf 2 1 3 trivial rfl rfl rfl rfl rfl rfl rfl rfl rfl rfl rfl rfl rfl)
                    exact trivial
                  exact trivial
                exact trivial
              exact trivial
            refine allI_cons ?_ ?_
            · refine anyV_op rfl ?_
              first | refine VX.meek rfl ?_ | refine VX.loadI rfl rfl au_l ?_ | refine VX.loadP rfl rfl rfl au_l ?_
              refine VX.nil ?_
              refine AnyV.more [1] (by kernel_rfl) (by simp) ?_
              refine allI_cons ?_ ?_
              · refine anyV_op rfl ?_
                refine VX.callT rfl rfl (CallT.frame (planeOf_t w h px hw hh hl hpb) [] rfl au_ci au_ci ?_)
                rintro _ _ ⟨rfl, rfl⟩
                refine frK au_co au_co ?_
                refine VX.nil ?_
                refine AnyV.more [3] (by kernel_rfl) (by simp) ?_
                refine allI_cons ?_ ?_
                · refine anyV_op rfl ?_
                  refine VX.callP0 rfl rfl rfl (planeOf_p tw th tpx htw2 hth2 htl htb) ?_
                  refine VX.nil ?_
                  refine AnyV.more [6] (by kernel_rfl) (by simp) ?_
                  refine allI_cons ?_ ?_
                  · refine anyV_op rfl ?_
                    refine VX.store rfl rfl rfl rfl rfl au_sR rfl ?_
                    refine VX.nil ?_
                    refine AnyV.more [7] (by kernel_rfl) (by simp) ?_
                    refine allI_cons ?_ ?_
                    · refine anyV_op rfl ?_
                      refine VX.store rfl rfl rfl rfl rfl au_sR rfl ?_
                      refine VX.nil ?_
                      exact AnyV.fin (by kernel_rfl) (tile_leaf 2 1 3 trivial rfl rfl rfl rfl rfl rfl rfl rfl rfl rfl rfl rfl rfl)
                    exact trivial
                  exact trivial
                exact trivial
              exact trivial
            exact trivial
          exact trivial
        exact trivial
      refine allI_cons ?_ ?_
      · refine anyV_op rfl ?_
        first | refine VX.meek rfl ?_ | refine VX.loadI rfl rfl au_l ?_ | refine VX.loadP rfl rfl rfl au_l ?_
        refine VX.nil ?_
        refine AnyV.more [0, 4, 5] (by kernel_rfl) (by simp) ?_
        refine allI_cons ?_ ?_
        · refine anyV_op rfl ?_
          first | refine VX.meek rfl ?_ | refine VX.loadI rfl rfl au_l ?_ | refine VX.loadP rfl rfl rfl au_l ?_
          refine VX.nil ?_
          refine AnyV.more [1, 4, 5] (by kernel_rfl) (by simp) ?_
          refine allI_cons ?_ ?_
          · refine anyV_op rfl ?_
            refine VX.callT rfl rfl (CallT.frame (planeOf_t w h px hw hh hl hpb) [] rfl au_ci au_ci ?_)
            rintro _ _ ⟨rfl, rfl⟩
            refine frK au_co au_co ?_
            refine VX.nil ?_
            refine AnyV.more [3, 4, 5] (by kernel_rfl) (by simp) ?_
            refine allI_cons ?_ ?_
            · refine anyV_op rfl ?_
              refine VX.callP0 rfl rfl rfl (planeOf_p tw th tpx htw2 hth2 htl htb) ?_
              refine VX.nil ?_
              refine AnyV.more [4, 5] (by kernel_rfl) (by simp) ?_
              refine allI_cons ?_ ?_
              · refine anyV_op rfl ?_
                refine VX.new rfl rfl ?_
                refine VX.nil ?_
                refine AnyV.more [5] (by kernel_rfl) (by simp) ?_
                refine allI_cons ?_ ?_
                · refine anyV_op rfl ?_
                  refine VX.new rfl rfl ?_
                  refine VX.nil ?_
                  refine AnyV.more [6] (by kernel_rfl) (by simp) ?_
                  refine allI_cons ?_ ?_
                  · refine anyV_op rfl ?_
                    refine VX.store rfl rfl rfl rfl rfl au_sR rfl ?_
                    refine VX.nil ?_
                    refine AnyV.more [7] (by kernel_rfl) (by simp) ?_
                    refine allI_cons ?_ ?_
                    · refine anyV_op rfl ?_
                      refine VX.store rfl rfl rfl rfl rfl au_sR rfl ?_
                      refine VX.nil ?_
                      exact AnyV.fin (by kernel_rfl) (tile_leaf 2 3 1 trivial rfl rfl rfl rfl rfl rfl rfl rfl rfl rfl rfl rfl rfl)
                    exact trivial
                  exact trivial
                exact trivial
              refine allI_cons ?_ ?_
              · refine anyV_op rfl ?_
                refine VX.new rfl rfl ?_
                refine VX.nil ?_
                refine AnyV.more [4] (by kernel_rfl) (by simp) ?_
                refine allI_cons ?_ ?_
                · refine anyV_op rfl ?_
                  refine VX.new rfl rfl ?_
                  refine VX.nil ?_
                  refine AnyV.more [6] (by kernel_rfl) (by simp) ?_
                  refine allI_cons ?_ ?_
                  · refine anyV_op rfl ?_
                    refine VX.store rfl rfl rfl rfl rfl au_sR rfl ?_
                    refine VX.nil ?_
                    refine AnyV.more [7] (by kernel_rfl) (by simp) ?_
                    refine allI_cons ?_ ?_
                    · refine anyV_op rfl ?_
                      refine VX.store rfl rfl rfl rfl rfl au_sR rfl ?_
                      refine VX.nil ?_
                      exact AnyV.fin (by kernel_rfl) (tile_leaf 3 2 1 trivial rfl rfl rfl rfl rfl rfl rfl rfl rfl rfl rfl rfl rfl)
                    exact trivial
                  exact trivial
                exact trivial
              exact trivial
            refine allI_cons ?_ ?_
            · refine anyV_op rfl ?_
              refine VX.new rfl rfl ?_
              refine VX.nil ?_
              refine AnyV.more [3, 5] (by kernel_rfl) (by simp) ?_
              refine allI_cons ?_ ?_
              · refine anyV_op rfl ?_
                refine VX.callP0 rfl rfl rfl (planeOf_p tw th tpx htw2 hth2 htl htb) ?_
                refine VX.nil ?_
                refine AnyV.more [5] (by kernel_rfl) (by simp) ?_
                refine allI_cons ?_ ?_
                · refine anyV_op rfl ?_
                  refine VX.new rfl rfl ?_
                  refine VX.nil ?_
                  refine AnyV.more [6] (by kernel_rfl) (by simp) ?_
                  refine allI_cons ?_ ?_
                  · refine anyV_op rfl ?_
                    refine VX.store rfl rfl rfl rfl rfl au_sR rfl ?_
                    refine VX.nil ?_
                    refine AnyV.more [7] (by kernel_rfl) (by simp) ?_
                    refine allI_cons ?_ ?_
                    · refine anyV_op rfl ?_
                      refine VX.store rfl rfl rfl rfl rfl au_sR rfl ?_
                      refine VX.nil ?_
                      exact AnyV.fin (by kernel_rfl) (tile_leaf 2 3 1 trivial rfl rfl rfl rfl rfl rfl rfl rfl rfl rfl rfl rfl rfl)
                    exact trivial
                  exact trivial
                exact trivial
              refine allI_cons ?_ ?_
              · refine anyV_op rfl ?_
                refine VX.new rfl rfl ?_
                refine VX.nil ?_
                refine AnyV.more [3] (by kernel_rfl) (by simp) ?_
                refine allI_cons ?_ ?_
                · refine anyV_op rfl ?_
                  refine VX.callP0 rfl rfl rfl (planeOf_p tw th tpx htw2 hth2 htl htb) ?_
                  refine VX.nil ?_
                  refine AnyV.more [6] (by kernel_rfl) (by simp) ?_
                  refine allI_cons ?_ ?_
                  · refine anyV_op rfl ?_
                    refine VX.store rfl rfl rfl rfl rfl au_sR rfl ?_
                    refine VX.nil ?_
                    refine AnyV.more [7] (by kernel_rfl) (by simp) ?_
                    refine allI_cons ?_ ?_
                    · refine anyV_op rfl ?_
                      refine VX.store rfl rfl rfl rfl rfl au_sR rfl ?_
                      refine VX.nil ?_
                      exact AnyV.fin (by kernel_rfl) (tile_leaf 2 3 1 trivial rfl rfl rfl rfl rfl rfl rfl rfl rfl rfl rfl rfl rfl)
                    exact trivial
                  exact trivial
                exact trivial
              exact trivial
            refine allI_cons ?_ ?_
            · refine anyV_op rfl ?_
              refine VX.new rfl rfl ?_
              refine VX.nil ?_
              refine AnyV.more [3, 4] (by kernel_rfl) (by simp) ?_
              refine allI_cons ?_ ?_
              · refine anyV_op rfl ?_
                refine VX.callP0 rfl rfl rfl (planeOf_p tw th tpx htw2 hth2 htl htb) ?_
                refine VX.nil ?_
                refine AnyV.more [4] (by kernel_rfl) (by simp) ?_
                refine allI_cons ?_ ?_
                · refine anyV_op rfl ?_
                  refine VX.new rfl rfl ?_
                  refine VX.nil ?_
                  refine AnyV.more [6] (by kernel_rfl) (by simp) ?_
                  refine allI_cons ?_ ?_
                  · refine anyV_op rfl ?_
                    refine VX.store rfl rfl rfl rfl rfl au_sR rfl ?_
                    refine VX.nil ?_
                    refine AnyV.more [7] (by kernel_rfl) (by simp) ?_
                    refine allI_cons ?_ ?_
                    · refine anyV_op rfl ?_
                      refine VX.store rfl rfl rfl rfl rfl au_sR rfl ?_
                      refine VX.nil ?_
                      exact AnyV.fin (by kernel_rfl) (tile_leaf 3 2 1 trivial rfl rfl rfl rfl rfl rfl rfl rfl rfl rfl rfl rfl rfl)
                    exact trivial
                  exact trivial
                exact trivial
              refine allI_cons ?_ ?_
              · refine anyV_op rfl ?_
                refine VX.new rfl rfl ?_
                refine VX.nil ?_
                refine AnyV.more [3] (by kernel_rfl) (by simp) ?_
                refine allI_cons ?_ ?_
                · refine anyV_op rfl ?_
                  refine VX.callP0 rfl rfl rfl (planeOf_p tw th tpx htw2 hth2 htl htb) ?_
                  refine VX.nil ?_
                  refine AnyV.more [6] (by kernel_rfl) (by simp) ?_
                  refine allI_cons ?_ ?_
                  · refine anyV_op rfl ?_
                    refine VX.store rfl rfl rfl rfl rfl au_sR rfl ?_
                    refine VX.nil ?_
                    refine AnyV.more [7] (by kernel_rfl) (by simp) ?_
                    refine allI_cons ?_ ?_
                    · refine anyV_op rfl ?_
                      refine VX.store rfl rfl rfl rfl rfl au_sR rfl ?_
                      refine VX.nil ?_
                      exact AnyV.fin (by kernel_rfl) (tile_leaf 3 2 1 trivial rfl rfl rfl rfl rfl rfl rfl rfl rfl rfl rfl rfl rfl)
                    exact trivial
                  exact trivial
                exact trivial
              exact trivial
            exact trivial
          refine allI_cons ?_ ?_
          · refine anyV_op rfl ?_
            refine VX.new rfl rfl ?_
            refine VX.nil ?_
            refine AnyV.more [1, 5] (by kernel_rfl) (by simp) ?_
            refine allI_cons ?_ ?_
            · refine anyV_op rfl ?_
              refine VX.callT rfl rfl (CallT.frame (planeOf_t w h px hw hh hl hpb) [] rfl au_ci au_ci ?_)
              rintro _ _ ⟨rfl, rfl⟩
              refine frK au_co au_co ?_
              refine VX.nil ?_
              refine AnyV.more [3, 5] (by kernel_rfl) (by simp) ?_
              refine allI_cons ?_ ?_
              · refine anyV_op rfl ?_
                refine VX.callP0 rfl rfl rfl (planeOf_p tw th tpx htw2 hth2 htl htb) ?_
                refine VX.nil ?_
                refine AnyV.more [5] (by kernel_rfl) (by simp) ?_
                refine allI_cons ?_ ?_
                · refine anyV_op rfl ?_
                  refine VX.new rfl rfl ?_
                  refine VX.nil ?_
                  refine AnyV.more [6] (by kernel_rfl) (by simp) ?_
                  refine allI_cons ?_ ?_
                  · refine anyV_op rfl ?_
                    refine VX.store rfl rfl rfl rfl rfl au_sR rfl ?_
                    refine VX.nil ?_
                    refine AnyV.more [7] (by kernel_rfl) (by simp) ?_
                    refine allI_cons ?_ ?_
                    · refine anyV_op rfl ?_
                      refine VX.store rfl rfl rfl rfl rfl au_sR rfl ?_
                      refine VX.nil ?_
                      exact AnyV.fin (by kernel_rfl) (tile_leaf 1 3 2 trivial rfl rfl rfl rfl rfl rfl rfl rfl rfl rfl rfl rfl rfl)
                    exact trivial
                  exact trivial
                exact trivial
              refine allI_cons ?_ ?_
              · refine anyV_op rfl ?_
                refine VX.new rfl rfl ?_
                refine VX.nil ?_
                refine AnyV.more [3] (by kernel_rfl) (by simp) ?_
                refine allI_cons ?_ ?_
                · refine anyV_op rfl ?_
                  refine VX.callP0 rfl rfl rfl (planeOf_p tw th tpx htw2 hth2 htl htb) ?_
                  refine VX.nil ?_
                  refine AnyV.more [6] (by kernel_rfl) (by simp) ?_
                  refine allI_cons ?_ ?_
                  · refine anyV_op rfl ?_
                    refine VX.store rfl rfl rfl rfl rfl au_sR rfl ?_
                    refine VX.nil ?_
                    refine AnyV.more [7] (by kernel_rfl) (by simp) ?_
                    refine allI_cons ?_ ?_
                    · refine anyV_op rfl ?_
                      refine VX.store rfl rfl rfl rfl rfl au_sR rfl ?_
                      refine VX.nil ?_
                      exact AnyV.fin (by kernel_rfl) (tile_leaf 1 3 2 trivial rfl rfl rfl rfl rfl rfl rfl rfl rfl rfl rfl rfl rfl)
                    exact trivial
                  exact trivial
                exact trivial
              exact trivial
            refine allI_cons ?_ ?_
            · refine anyV_op rfl ?_
              refine VX.new rfl rfl ?_
              refine VX.nil ?_
              refine AnyV.more [1] (by kernel_rfl) (by simp) ?_
              refine allI_cons ?_ ?_
              · refine anyV_op rfl ?_
                refine VX.callT rfl rfl (CallT.frame (planeOf_t w h px hw hh hl hpb) [] rfl au_ci au_ci ?_)
                rintro _ _ ⟨rfl, rfl⟩
                refine frK au_co au_co ?_
                refine VX.nil ?_
                refine AnyV.more [3] (by kernel_rfl) (by simp) ?_
                refine allI_cons ?_ ?_
                · refine anyV_op rfl ?_
                  refine VX.callP0 rfl rfl rfl (planeOf_p tw th tpx htw2 hth2 htl htb) ?_
                  refine VX.nil ?_
                  refine AnyV.more [6] (by kernel_rfl) (by simp) ?_
                  refine allI_cons ?_ ?_
                  · refine anyV_op rfl ?_
                    refine VX.store rfl rfl rfl rfl rfl au_sR rfl ?_
                    refine VX.nil ?_
                    refine AnyV.more [7] (by kernel_rfl) (by simp) ?_
                    refine allI_cons ?_ ?_
                    · refine anyV_op rfl ?_
                      refine VX.store rfl rfl rfl rfl rfl au_sR rfl ?_
                      refine VX.nil ?_
                      exact AnyV.fin (by kernel_rfl) (tile_leaf 1 2 3 trivial rfl rfl rfl rfl rfl rfl rfl rfl rfl rfl rfl rfl rfl)
                    exact trivial
                  exact trivial
                exact trivial
              exact trivial
            exact trivial
          refine allI_cons ?_ ?_
          · refine anyV_op rfl ?_
            refine VX.new rfl rfl ?_
            refine VX.nil ?_
            refine AnyV.more [1, 4] (by kernel_rfl) (by simp) ?_
            refine allI_cons ?_ ?_
            · refine anyV_op rfl ?_
              refine VX.callT rfl rfl (CallT.frame (planeOf_t w h px hw hh hl hpb) [] rfl au_ci au_ci ?_)
              rintro _ _ ⟨rfl, rfl⟩
              refine frK au_co au_co ?_
              refine VX.nil ?_
              refine AnyV.more [3, 4] (by kernel_rfl) (by simp) ?_
              refine allI_cons ?_ ?_
              · refine anyV_op rfl ?_
                refine VX.callP0 rfl rfl rfl (planeOf_p tw th tpx htw2 hth2 htl htb) ?_
                refine VX.nil ?_
                refine AnyV.more [4] (by kernel_rfl) (by simp) ?_
                refine allI_cons ?_ ?_
                · refine anyV_op rfl ?_
                  refine VX.new rfl rfl ?_
                  refine VX.nil ?_
                  refine AnyV.more [6] (by kernel_rfl) (by simp) ?_
                  refine allI_cons ?_ ?_
                  · refine anyV_op rfl ?_
                    refine VX.store rfl rfl rfl rfl rfl au_sR rfl ?_
                    refine VX.nil ?_
                    refine AnyV.more [7] (by kernel_rfl) (by simp) ?_
                    refine allI_cons ?_ ?_
                    · refine anyV_op rfl ?_
                      refine VX.store rfl rfl rfl rfl rfl au_sR rfl ?_
                      refine VX.nil ?_
                      exact AnyV.fin (by kernel_rfl) (tile_leaf 3 1 2 trivial rfl rfl rfl rfl rfl rfl rfl rfl rfl rfl rfl rfl rfl)
                    exact trivial
                  exact trivial
                exact trivial
              refine allI_cons ?_ ?_
              · refine anyV_op rfl ?_
                refine VX.new rfl rfl ?_
                refine VX.nil ?_
                refine AnyV.more [3] (by kernel_rfl) (by simp) ?_
                refine allI_cons ?_ ?_
                · refine anyV_op rfl ?_
                  refine VX.callP0 rfl rfl rfl (planeOf_p tw th tpx htw2 hth2 htl htb) ?_
                  refine VX.nil ?_
                  refine AnyV.more [6] (by kernel_rfl) (by simp) ?_
                  refine allI_cons ?_ ?_
                  · refine anyV_op rfl ?_
                    refine VX.store rfl rfl rfl rfl rfl au_sR rfl ?_
                    refine VX.nil ?_
                    refine AnyV.more [7] (by kernel_rfl) (by simp) ?_
                    refine allI_cons ?_ ?_
                    · refine anyV_op rfl ?_
                      refine VX.store rfl rfl rfl rfl rfl au_sR rfl ?_
                      refine VX.nil ?_
                      exact AnyV.fin (by kernel_rfl) (tile_leaf 3 1 2 trivial rfl rfl rfl rfl rfl rfl rfl rfl rfl rfl rfl rfl rfl)
                    exact trivial
                  exact trivial
                exact trivial
              exact trivial
            refine allI_cons ?_ ?_
            · refine anyV_op rfl ?_
              refine VX.new rfl rfl ?_
              refine VX.nil ?_
              refine AnyV.more [1] (by kernel_rfl) (by simp) ?_
              refine allI_cons ?_ ?_
              · refine anyV_op rfl ?_
                refine VX.callT rfl rfl (CallT.frame (planeOf_t w h px hw hh hl hpb) [] rfl au_ci au_ci ?_)
                rintro _ _ ⟨rfl, rfl⟩
                refine frK au_co au_co ?_
                refine VX.nil ?_
                refine AnyV.more [3] (by kernel_rfl) (by simp) ?_
                refine allI_cons ?_ ?_
                · refine anyV_op rfl ?_
                  refine VX.callP0 rfl rfl rfl (planeOf_p tw th tpx htw2 hth2 htl htb) ?_
                  refine VX.nil ?_
                  refine AnyV.more [6] (by kernel_rfl) (by simp) ?_
                  refine allI_cons ?_ ?_
                  · refine anyV_op rfl ?_
                    refine VX.store rfl rfl rfl rfl rfl au_sR rfl ?_
                    refine VX.nil ?_
                    refine AnyV.more [7] (by kernel_rfl) (by simp) ?_
                    refine allI_cons ?_ ?_
                    · refine anyV_op rfl ?_
                      refine VX.store rfl rfl rfl rfl rfl au_sR rfl ?_
                      refine VX.nil ?_
                      exact AnyV.fin (by kernel_rfl) (tile_leaf 2 1 3 trivial rfl rfl rfl rfl rfl rfl rfl rfl rfl rfl rfl rfl rfl)
                    exact trivial
                  exact trivial
                exact trivial
              exact trivial
            exact trivial
          exact trivial
        refine allI_cons ?_ ?_
        · refine anyV_op rfl ?_
          refine VX.new rfl rfl ?_
          refine VX.nil ?_
          refine AnyV.more [0, 5] (by kernel_rfl) (by simp) ?_
          refine allI_cons ?_ ?_
          · refine anyV_op rfl ?_
            first | refine VX.meek rfl ?_ | refine VX.loadI rfl rfl au_l ?_ | refine VX.loadP rfl rfl rfl au_l ?_
            refine VX.nil ?_
            refine AnyV.more [1, 5] (by kernel_rfl) (by simp) ?_
            refine allI_cons ?_ ?_
            · refine anyV_op rfl ?_
              refine VX.callT rfl rfl (CallT.frame (planeOf_t w h px hw hh hl hpb) [] rfl au_ci au_ci ?_)
              rintro _ _ ⟨rfl, rfl⟩
              refine frK au_co au_co ?_
              refine VX.nil ?_
              refine AnyV.more [3, 5] (by kernel_rfl) (by simp) ?_
              refine allI_cons ?_ ?_
              · refine anyV_op rfl ?_
                refine VX.callP0 rfl rfl rfl (planeOf_p tw th tpx htw2 hth2 htl htb) ?_
                refine VX.nil ?_
                refine AnyV.more [5] (by kernel_rfl) (by simp) ?_
                refine allI_cons ?_ ?_
                · refine anyV_op rfl ?_
                  refine VX.new rfl rfl ?_
                  refine VX.nil ?_
                  refine AnyV.more [6] (by kernel_rfl) (by simp) ?_
                  refine allI_cons ?_ ?_
                  · refine anyV_op rfl ?_
                    refine VX.store rfl rfl rfl rfl rfl au_sR rfl ?_
                    refine VX.nil ?_
                    refine AnyV.more [7] (by kernel_rfl) (by simp) ?_
                    refine allI_cons ?_ ?_
                    · refine anyV_op rfl ?_
                      refine VX.store rfl rfl rfl rfl rfl au_sR rfl ?_
                      refine VX.nil ?_
                      exact AnyV.fin (by kernel_rfl) (tile_leaf 1 3 2 trivial rfl rfl rfl rfl rfl rfl rfl rfl rfl rfl rfl rfl rfl)
                    exact trivial
                  exact trivial
                exact trivial
              refine allI_cons ?_ ?_
              · refine anyV_op rfl ?_
                refine VX.new rfl rfl ?_
                refine VX.nil ?_
                refine AnyV.more [3] (by kernel_rfl) (by simp) ?_
                refine allI_cons ?_ ?_
                · refine anyV_op rfl ?_
                  refine VX.callP0 rfl rfl rfl (planeOf_p tw th tpx htw2 hth2 htl htb) ?_
                  refine VX.nil ?_
                  refine AnyV.more [6] (by kernel_rfl) (by simp) ?_
                  refine allI_cons ?_ ?_
                  · refine anyV_op rfl ?_
                    refine VX.store rfl rfl rfl rfl rfl au_sR rfl ?_
                    refine VX.nil ?_
                    refine AnyV.more [7] (by kernel_rfl) (by simp) ?_
                    refine allI_cons ?_ ?_
                    · refine anyV_op rfl ?_
                      refine VX.store rfl rfl rfl rfl rfl au_sR rfl ?_
                      refine VX.nil ?_
                      exact AnyV.fin (by kernel_rfl) (tile_leaf 1 3 2 trivial rfl rfl rfl rfl rfl rfl rfl rfl rfl rfl rfl rfl rfl)
                    exact trivial
                  exact trivial
                exact trivial
              exact trivial
            refine allI_cons ?_ ?_
            · refine anyV_op rfl ?_
              refine VX.new rfl rfl ?_
              refine VX.nil ?_
              refine AnyV.more [1] (by kernel_rfl) (by simp) ?_
              refine allI_cons ?_ ?_
              · refine anyV_op rfl ?_
                refine VX.callT rfl rfl (CallT.frame (planeOf_t w h px hw hh hl hpb) [] rfl au_ci au_ci ?_)
                rintro _ _ ⟨rfl, rfl⟩
                refine frK au_co au_co ?_
                refine VX.nil ?_
                refine AnyV.more [3] (by kernel_rfl) (by simp) ?_
                refine allI_cons ?_ ?_
                · refine anyV_op rfl ?_
                  refine VX.callP0 rfl rfl rfl (planeOf_p tw th tpx htw2 hth2 htl htb) ?_
                  refine VX.nil ?_
                  refine AnyV.more [6] (by kernel_rfl) (by simp) ?_
                  refine allI_cons ?_ ?_
                  · refine anyV_op rfl ?_
                    refine VX.store rfl rfl rfl rfl rfl au_sR rfl ?_
                    refine VX.nil ?_
                    refine AnyV.more [7] (by kernel_rfl) (by simp) ?_
                    refine allI_cons ?_ ?_
                    · refine anyV_op rfl ?_
                      refine VX.store rfl rfl rfl rfl rfl au_sR rfl ?_
                      refine VX.nil ?_
                      exact AnyV.fin (by kernel_rfl) (tile_leaf 1 2 3 trivial rfl rfl rfl rfl rfl rfl rfl rfl rfl rfl rfl rfl rfl)
                    exact trivial
                  exact trivial
                exact trivial
              exact trivial
            exact trivial
          refine allI_cons ?_ ?_
          · refine anyV_op rfl ?_
            refine VX.new rfl rfl ?_
            refine VX.nil ?_
            refine AnyV.more [0] (by kernel_rfl) (by simp) ?_
            refine allI_cons ?_ ?_
            · refine anyV_op rfl ?_
              first | refine VX.meek rfl ?_ | refine VX.loadI rfl rfl au_l ?_ | refine VX.loadP rfl rfl rfl au_l ?_
              refine VX.nil ?_
              refine AnyV.more [1] (by kernel_rfl) (by simp) ?_
              refine allI_cons ?_ ?_
              · refine anyV_op rfl ?_
                refine VX.callT rfl rfl (CallT.frame (planeOf_t w h px hw hh hl hpb) [] rfl au_ci au_ci ?_)
                rintro _ _ ⟨rfl, rfl⟩
                refine frK au_co au_co ?_
                refine VX.nil ?_
                refine AnyV.more [3] (by kernel_rfl) (by simp) ?_
                refine allI_cons ?_ ?_
                · refine anyV_op rfl ?_
                  refine VX.callP0 rfl rfl rfl (planeOf_p tw th tpx htw2 hth2 htl htb) ?_
                  refine VX.nil ?_
                  refine AnyV.more [6] (by kernel_rfl) (by simp) ?_
                  refine allI_cons ?_ ?_
                  · refine anyV_op rfl ?_
                    refine VX.store rfl rfl rfl rfl rfl au_sR rfl ?_
                    refine VX.nil ?_
                    refine AnyV.more [7] (by kernel_rfl) (by simp) ?_
                    refine allI_cons ?_ ?_
                    · refine anyV_op rfl ?_
                      refine VX.store rfl rfl rfl rfl rfl au_sR rfl ?_
                      refine VX.nil ?_
                      exact AnyV.fin (by kernel_rfl) (tile_leaf 1 2 3 trivial rfl rfl rfl rfl rfl rfl rfl rfl rfl rfl rfl rfl rfl)
                    exact trivial
                  exact trivial
                exact trivial
              exact trivial
            exact trivial
          exact trivial
        refine allI_cons ?_ ?_
        · refine anyV_op rfl ?_
          refine VX.new rfl rfl ?_
          refine VX.nil ?_
          refine AnyV.more [0, 4] (by kernel_rfl) (by simp) ?_
          refine allI_cons ?_ ?_
          · refine anyV_op rfl ?_
            first | refine VX.meek rfl ?_ | refine VX.loadI rfl rfl au_l ?_ | refine VX.loadP rfl rfl rfl au_l ?_
            refine VX.nil ?_
            refine AnyV.more [1, 4] (by kernel_rfl) (by simp) ?_
            refine allI_cons ?_ ?_
            · refine anyV_op rfl ?_
              refine VX.callT rfl rfl (CallT.frame (planeOf_t w h px hw hh hl hpb) [] rfl au_ci au_ci ?_)
              rintro _ _ ⟨rfl, rfl⟩
              refine frK au_co au_co ?_
              refine VX.nil ?_
              refine AnyV.more [3, 4] (by kernel_rfl) (by simp) ?_
              refine allI_cons ?_ ?_
              · refine anyV_op rfl ?_
                refine VX.callP0 rfl rfl rfl (planeOf_p tw th tpx htw2 hth2 htl htb) ?_
                refine VX.nil ?_
                refine AnyV.more [4] (by kernel_rfl) (by simp) ?_
                refine allI_cons ?_ ?_
                · refine anyV_op rfl ?_
                  refine VX.new rfl rfl ?_
                  refine VX.nil ?_
                  refine AnyV.more [6] (by kernel_rfl) (by simp) ?_
                  refine allI_cons ?_ ?_
                  · refine anyV_op rfl ?_
                    refine VX.store rfl rfl rfl rfl rfl au_sR rfl ?_
                    refine VX.nil ?_
                    refine AnyV.more [7] (by kernel_rfl) (by simp) ?_
                    refine allI_cons ?_ ?_
                    · refine anyV_op rfl ?_
                      refine VX.store rfl rfl rfl rfl rfl au_sR rfl ?_
                      refine VX.nil ?_
                      exact AnyV.fin (by kernel_rfl) (tile_leaf 3 1 2 trivial rfl rfl rfl rfl rfl rfl rfl rfl rfl rfl rfl rfl rfl)
                    exact trivial
                  exact trivial
                exact trivial
              refine allI_cons ?_ ?_
              · refine anyV_op rfl ?_
                refine VX.new rfl rfl ?_
                refine VX.nil ?_
                refine AnyV.more [3] (by kernel_rfl) (by simp) ?_
                refine allI_cons ?_ ?_
                · refine anyV_op rfl ?_
                  refine VX.callP0 rfl rfl rfl (planeOf_p tw th tpx htw2 hth2 htl htb) ?_
                  refine VX.nil ?_
                  refine AnyV.more [6] (by kernel_rfl) (by simp) ?_
                  refine allI_cons ?_ ?_
                  · refine anyV_op rfl ?_
                    refine VX.store rfl rfl rfl rfl rfl au_sR rfl ?_
                    refine VX.nil ?_
                    refine AnyV.more [7] (by kernel_rfl) (by simp) ?_
                    refine allI_cons ?_ ?_
                    · refine anyV_op rfl ?_
                      refine VX.store rfl rfl rfl rfl rfl au_sR rfl ?_
                      refine VX.nil ?_
                      exact AnyV.fin (by kernel_rfl) (tile_leaf 3 1 2 trivial rfl rfl rfl rfl rfl rfl rfl rfl rfl rfl rfl rfl rfl)
                    exact trivial
                  exact trivial
                exact trivial
              exact trivial
            refine allI_cons ?_ ?_
            · refine anyV_op rfl ?_
              refine VX.new rfl rfl ?_
              refine VX.nil ?_
              refine AnyV.more [1] (by kernel_rfl) (by simp) ?_
              refine allI_cons ?_ ?_
              · refine anyV_op rfl ?_
                refine VX.callT rfl rfl (CallT.frame (planeOf_t w h px hw hh hl hpb) [] rfl au_ci au_ci ?_)
                rintro _ _ ⟨rfl, rfl⟩
                refine frK au_co au_co ?_
                refine VX.nil ?_
                refine AnyV.more [3] (by kernel_rfl) (by simp) ?_
                refine allI_cons ?_ ?_
                · refine anyV_op rfl ?_
                  refine VX.callP0 rfl rfl rfl (planeOf_p tw th tpx htw2 hth2 htl htb) ?_
                  refine VX.nil ?_
                  refine AnyV.more [6] (by kernel_rfl) (by simp) ?_
                  refine allI_cons ?_ ?_
                  · refine anyV_op rfl ?_
                    refine VX.store rfl rfl rfl rfl rfl au_sR rfl ?_
                    refine VX.nil ?_
                    refine AnyV.more [7] (by kernel_rfl) (by simp) ?_
                    refine allI_cons ?_ ?_
                    · refine anyV_op rfl ?_
                      refine VX.store rfl rfl rfl rfl rfl au_sR rfl ?_
                      refine VX.nil ?_
                      exact AnyV.fin (by kernel_rfl) (tile_leaf 2 1 3 trivial rfl rfl rfl rfl rfl rfl rfl rfl rfl rfl rfl rfl rfl)
                    exact trivial
                  exact trivial
                exact trivial
              exact trivial
            exact trivial
          refine allI_cons ?_ ?_
          · refine anyV_op rfl ?_
            refine VX.new rfl rfl ?_
            refine VX.nil ?_
            refine AnyV.more [0] (by kernel_rfl) (by simp) ?_
            refine allI_cons ?_ ?_
            · refine anyV_op rfl ?_
              first | refine VX.meek rfl ?_ | refine VX.loadI rfl rfl au_l ?_ | refine VX.loadP rfl rfl rfl au_l ?_
              refine VX.nil ?_
              refine AnyV.more [1] (by kernel_rfl) (by simp) ?_
              refine allI_cons ?_ ?_
              · refine anyV_op rfl ?_
                refine VX.callT rfl rfl (CallT.frame (planeOf_t w h px hw hh hl hpb) [] rfl au_ci au_ci ?_)
                rintro _ _ ⟨rfl, rfl⟩
                refine frK au_co au_co ?_
                refine VX.nil ?_
                refine AnyV.more [3] (by kernel_rfl) (by simp) ?_
                refine allI_cons ?_ ?_
                · refine anyV_op rfl ?_
                  refine VX.callP0 rfl rfl rfl (planeOf_p tw th tpx htw2 hth2 htl htb) ?_
                  refine VX.nil ?_
                  refine AnyV.more [6] (by kernel_rfl) (by simp) ?_
                  refine allI_cons ?_ ?_
                  · refine anyV_op rfl ?_
                    refine VX.store rfl rfl rfl rfl rfl au_sR rfl ?_
                    refine VX.nil ?_
                    refine AnyV.more [7] (by kernel_rfl) (by simp) ?_
                    refine allI_cons ?_ ?_
                    · refine anyV_op rfl ?_
                      refine VX.store rfl rfl rfl rfl rfl au_sR rfl ?_
                      refine VX.nil ?_
                      exact AnyV.fin (by kernel_rfl) (tile_leaf 2 1 3 trivial rfl rfl rfl rfl rfl rfl rfl rfl rfl rfl rfl rfl rfl)
                    exact trivial
                  exact trivial
                exact trivial
              exact trivial
            exact trivial
          exact trivial
        exact trivial
      refine allI_cons ?_ ?_
      · refine anyV_op rfl ?_
        refine VX.new rfl rfl ?_
        refine VX.nil ?_
        refine AnyV.more [0, 2, 5] (by kernel_rfl) (by simp) ?_
        refine allI_cons ?_ ?_
        · refine anyV_op rfl ?_
          first | refine VX.meek rfl ?_ | refine VX.loadI rfl rfl au_l ?_ | refine VX.loadP rfl rfl rfl au_l ?_
          refine VX.nil ?_
          refine AnyV.more [1, 2, 5] (by kernel_rfl) (by simp) ?_
          refine allI_cons ?_ ?_
          · refine anyV_op rfl ?_
            refine VX.callT rfl rfl (CallT.frame (planeOf_t w h px hw hh hl hpb) [] rfl au_ci au_ci ?_)
            rintro _ _ ⟨rfl, rfl⟩
            refine frK au_co au_co ?_
            refine VX.nil ?_
            refine AnyV.more [2, 5] (by kernel_rfl) (by simp) ?_
            refine allI_cons ?_ ?_
            · refine anyV_op rfl ?_
              first | refine VX.meek rfl ?_ | refine VX.loadI rfl rfl au_l ?_ | refine VX.loadP rfl rfl rfl au_l ?_
              refine VX.nil ?_
              refine AnyV.more [3, 5] (by kernel_rfl) (by simp) ?_
              refine allI_cons ?_ ?_
              · refine anyV_op rfl ?_
                refine VX.callP0 rfl rfl rfl (planeOf_p tw th tpx htw2 hth2 htl htb) ?_
                refine VX.nil ?_
                refine AnyV.more [5] (by kernel_rfl) (by simp) ?_
                refine allI_cons ?_ ?_
                · refine anyV_op rfl ?_
                  refine VX.new rfl rfl ?_
                  refine VX.nil ?_
                  refine AnyV.more [6] (by kernel_rfl) (by simp) ?_
                  refine allI_cons ?_ ?_
                  · refine anyV_op rfl ?_
                    refine VX.store rfl rfl rfl rfl rfl au_sR rfl ?_
                    refine VX.nil ?_
                    refine AnyV.more [7] (by kernel_rfl) (by simp) ?_
                    refine allI_cons ?_ ?_
                    · refine anyV_op rfl ?_
                      refine VX.store rfl rfl rfl rfl rfl au_sR rfl ?_
                      refine VX.nil ?_
                      exact AnyV.fin (by kernel_rfl) (tile_leaf 1 3 2 trivial rfl rfl rfl rfl rfl rfl rfl rfl rfl rfl rfl rfl rfl)
                    exact trivial
                  exact trivial
                exact trivial
              refine allI_cons ?_ ?_
              · refine anyV_op rfl ?_
                refine VX.new rfl rfl ?_
                refine VX.nil ?_
                refine AnyV.more [3] (by kernel_rfl) (by simp) ?_
                refine allI_cons ?_ ?_
                · refine anyV_op rfl ?_
                  refine VX.callP0 rfl rfl rfl (planeOf_p tw th tpx htw2 hth2 htl htb) ?_
                  refine VX.nil ?_
                  refine AnyV.more [6] (by kernel_rfl) (by simp) ?_
                  refine allI_cons ?_ ?_
                  · refine anyV_op rfl ?_
                    refine VX.store rfl rfl rfl rfl rfl au_sR rfl ?_
                    refine VX.nil ?_
                    refine AnyV.more [7] (by kernel_rfl) (by simp) ?_
                    refine allI_cons ?_ ?_
                    · refine anyV_op rfl ?_
                      refine VX.store rfl rfl rfl rfl rfl au_sR rfl ?_
                      refine VX.nil ?_
                      exact AnyV.fin (by kernel_rfl) (tile_leaf 1 3 2 trivial rfl rfl rfl rfl rfl rfl rfl rfl rfl rfl rfl rfl rfl)
                    exact trivial
                  exact trivial
                exact trivial
              exact trivial
            refine allI_cons ?_ ?_
            · refine anyV_op rfl ?_
              refine VX.new rfl rfl ?_
              refine VX.nil ?_
              refine AnyV.more [2] (by kernel_rfl) (by simp) ?_
              refine allI_cons ?_ ?_
              · refine anyV_op rfl ?_
                first | refine VX.meek rfl ?_ | refine VX.loadI rfl rfl au_l ?_ | refine VX.loadP rfl rfl rfl au_l ?_
                refine VX.nil ?_
                refine AnyV.more [3] (by kernel_rfl) (by simp) ?_
                refine allI_cons ?_ ?_
                · refine anyV_op rfl ?_
                  refine VX.callP0 rfl rfl rfl (planeOf_p tw th tpx htw2 hth2 htl htb) ?_
                  refine VX.nil ?_
                  refine AnyV.more [6] (by kernel_rfl) (by simp) ?_
                  refine allI_cons ?_ ?_
                  · refine anyV_op rfl ?_
                    refine VX.store rfl rfl rfl rfl rfl au_sR rfl ?_
                    refine VX.nil ?_
                    refine AnyV.more [7] (by kernel_rfl) (by simp) ?_
                    refine allI_cons ?_ ?_
                    · refine anyV_op rfl ?_
                      refine VX.store rfl rfl rfl rfl rfl au_sR rfl ?_
                      refine VX.nil ?_
                      exact AnyV.fin (by kernel_rfl) (tile_leaf 1 3 2 trivial rfl rfl rfl rfl rfl rfl rfl rfl rfl rfl rfl rfl rfl)
                    exact trivial
                  exact trivial
                exact trivial
              exact trivial
            exact trivial
          refine allI_cons ?_ ?_
          · refine anyV_op rfl ?_
            first | refine VX.meek rfl ?_ | refine VX.loadI rfl rfl au_l ?_ | refine VX.loadP rfl rfl rfl au_l ?_
            refine VX.nil ?_
            refine AnyV.more [1, 5] (by kernel_rfl) (by simp) ?_
            refine allI_cons ?_ ?_
            · refine anyV_op rfl ?_
              refine VX.callT rfl rfl (CallT.frame (planeOf_t w h px hw hh hl hpb) [] rfl au_ci au_ci ?_)
              rintro _ _ ⟨rfl, rfl⟩
              refine frK au_co au_co ?_
              refine VX.nil ?_
              refine AnyV.more [3, 5] (by kernel_rfl) (by simp) ?_
              refine allI_cons ?_ ?_
              · refine anyV_op rfl ?_
                refine VX.callP0 rfl rfl rfl (planeOf_p tw th tpx htw2 hth2 htl htb) ?_
                refine VX.nil ?_
                refine AnyV.more [5] (by kernel_rfl) (by simp) ?_
                refine allI_cons ?_ ?_
                · refine anyV_op rfl ?_
                  refine VX.new rfl rfl ?_
                  refine VX.nil ?_
                  refine AnyV.more [6] (by kernel_rfl) (by simp) ?_
                  refine allI_cons ?_ ?_
                  · refine anyV_op rfl ?_
                    refine VX.store rfl rfl rfl rfl rfl au_sR rfl ?_
                    refine VX.nil ?_
                    refine AnyV.more [7] (by kernel_rfl) (by simp) ?_
                    refine allI_cons ?_ ?_
                    · refine anyV_op rfl ?_
                      refine VX.store rfl rfl rfl rfl rfl au_sR rfl ?_
                      refine VX.nil ?_
                      exact AnyV.fin (by kernel_rfl) (tile_leaf 1 3 2 trivial rfl rfl rfl rfl rfl rfl rfl rfl rfl rfl rfl rfl rfl)
                    exact trivial
                  exact trivial
                exact trivial
              refine allI_cons ?_ ?_
              · refine anyV_op rfl ?_
                refine VX.new rfl rfl ?_
                refine VX.nil ?_
                refine AnyV.more [3] (by kernel_rfl) (by simp) ?_
                refine allI_cons ?_ ?_
                · refine anyV_op rfl ?_
                  refine VX.callP0 rfl rfl rfl (planeOf_p tw th tpx htw2 hth2 htl htb) ?_
                  refine VX.nil ?_
                  refine AnyV.more [6] (by kernel_rfl) (by simp) ?_
                  refine allI_cons ?_ ?_
                  · refine anyV_op rfl ?_
                    refine VX.store rfl rfl rfl rfl rfl au_sR rfl ?_
                    refine VX.nil ?_
                    refine AnyV.more [7] (by kernel_rfl) (by simp) ?_
                    refine allI_cons ?_ ?_
                    · refine anyV_op rfl ?_
                      refine VX.store rfl rfl rfl rfl rfl au_sR rfl ?_
                      refine VX.nil ?_
                      exact AnyV.fin (by kernel_rfl) (tile_leaf 1 3 2 trivial rfl rfl rfl rfl rfl rfl rfl rfl rfl rfl rfl rfl rfl)
                    exact trivial
                  exact trivial
                exact trivial
              exact trivial
            refine allI_cons ?_ ?_
            · refine anyV_op rfl ?_
              refine VX.new rfl rfl ?_
              refine VX.nil ?_
              refine AnyV.more [1] (by kernel_rfl) (by simp) ?_
              refine allI_cons ?_ ?_
              · refine anyV_op rfl ?_
                refine VX.callT rfl rfl (CallT.frame (planeOf_t w h px hw hh hl hpb) [] rfl au_ci au_ci ?_)
                rintro _ _ ⟨rfl, rfl⟩
                refine frK au_co au_co ?_
                refine VX.nil ?_
                refine AnyV.more [3] (by kernel_rfl) (by simp) ?_
                refine allI_cons ?_ ?_
                · refine anyV_op rfl ?_
                  refine VX.callP0 rfl rfl rfl (planeOf_p tw th tpx htw2 hth2 htl htb) ?_
                  refine VX.nil ?_
                  refine AnyV.more [6] (by kernel_rfl) (by simp) ?_
                  refine allI_cons ?_ ?_
                  · refine anyV_op rfl ?_
                    refine VX.store rfl rfl rfl rfl rfl au_sR rfl ?_
                    refine VX.nil ?_
                    refine AnyV.more [7] (by kernel_rfl) (by simp) ?_
                    refine allI_cons ?_ ?_
                    · refine anyV_op rfl ?_
                      refine VX.store rfl rfl rfl rfl rfl au_sR rfl ?_
                      refine VX.nil ?_
                      exact AnyV.fin (by kernel_rfl) (tile_leaf 1 2 3 trivial rfl rfl rfl rfl rfl rfl rfl rfl rfl rfl rfl rfl rfl)
                    exact trivial
                  exact trivial
                exact trivial
              exact trivial
            exact trivial
          refine allI_cons ?_ ?_
          · refine anyV_op rfl ?_
            refine VX.new rfl rfl ?_
            refine VX.nil ?_
            refine AnyV.more [1, 2] (by kernel_rfl) (by simp) ?_
            refine allI_cons ?_ ?_
            · refine anyV_op rfl ?_
              refine VX.callT rfl rfl (CallT.frame (planeOf_t w h px hw hh hl hpb) [] rfl au_ci au_ci ?_)
              rintro _ _ ⟨rfl, rfl⟩
              refine frK au_co au_co ?_
              refine VX.nil ?_
              refine AnyV.more [2] (by kernel_rfl) (by simp) ?_
              refine allI_cons ?_ ?_
              · refine anyV_op rfl ?_
                first | refine VX.meek rfl ?_ | refine VX.loadI rfl rfl au_l ?_ | refine VX.loadP rfl rfl rfl au_l ?_
                refine VX.nil ?_
                refine AnyV.more [3] (by kernel_rfl) (by simp) ?_
                refine allI_cons ?_ ?_
                · refine anyV_op rfl ?_
                  refine VX.callP0 rfl rfl rfl (planeOf_p tw th tpx htw2 hth2 htl htb) ?_
                  refine VX.nil ?_
                  refine AnyV.more [6] (by kernel_rfl) (by simp) ?_
                  refine allI_cons ?_ ?_
                  · refine anyV_op rfl ?_
                    refine VX.store rfl rfl rfl rfl rfl au_sR rfl ?_
                    refine VX.nil ?_
                    refine AnyV.more [7] (by kernel_rfl) (by simp) ?_
                    refine allI_cons ?_ ?_
                    · refine anyV_op rfl ?_
                      refine VX.store rfl rfl rfl rfl rfl au_sR rfl ?_
                      refine VX.nil ?_
                      exact AnyV.fin (by kernel_rfl) (tile_leaf 1 2 3 trivial rfl rfl rfl rfl rfl rfl rfl rfl rfl rfl rfl rfl rfl)
                    exact trivial
                  exact trivial
                exact trivial
              exact trivial
            refine allI_cons ?_ ?_
            · refine anyV_op rfl ?_
              first | refine VX.meek rfl ?_ | refine VX.loadI rfl rfl au_l ?_ | refine VX.loadP rfl rfl rfl au_l ?_
              refine VX.nil ?_
              refine AnyV.more [1] (by kernel_rfl) (by simp) ?_
              refine allI_cons ?_ ?_
              · refine anyV_op rfl ?_
                refine VX.callT rfl rfl (CallT.frame (planeOf_t w h px hw hh hl hpb) [] rfl au_ci au_ci ?_)
                rintro _ _ ⟨rfl, rfl⟩
                refine frK au_co au_co ?_
                refine VX.nil ?_
                refine AnyV.more [3] (by kernel_rfl) (by simp) ?_
                refine allI_cons ?_ ?_
                · refine anyV_op rfl ?_
                  refine VX.callP0 rfl rfl rfl (planeOf_p tw th tpx htw2 hth2 htl htb) ?_
                  refine VX.nil ?_
                  refine AnyV.more [6] (by kernel_rfl) (by simp) ?_
                  refine allI_cons ?_ ?_
                  · refine anyV_op rfl ?_
                    refine VX.store rfl rfl rfl rfl rfl au_sR rfl ?_
                    refine VX.nil ?_
                    refine AnyV.more [7] (by kernel_rfl) (by simp) ?_
                    refine allI_cons ?_ ?_
                    · refine anyV_op rfl ?_
                      refine VX.store rfl rfl rfl rfl rfl au_sR rfl ?_
                      refine VX.nil ?_
                      exact AnyV.fin (by kernel_rfl) (tile_leaf 1 2 3 trivial rfl rfl rfl rfl rfl rfl rfl rfl rfl rfl rfl rfl rfl)
                    exact trivial
                  exact trivial
                exact trivial
              exact trivial
            exact trivial
          exact trivial
        refine allI_cons ?_ ?_
        · refine anyV_op rfl ?_
          first | refine VX.meek rfl ?_ | refine VX.loadI rfl rfl au_l ?_ | refine VX.loadP rfl rfl rfl au_l ?_
          refine VX.nil ?_
          refine AnyV.more [0, 5] (by kernel_rfl) (by simp) ?_
          refine allI_cons ?_ ?_
          · refine anyV_op rfl ?_
            first | refine VX.meek rfl ?_ | refine VX.loadI rfl rfl au_l ?_ | refine VX.loadP rfl rfl rfl au_l ?_
            refine VX.nil ?_
            refine AnyV.more [1, 5] (by kernel_rfl) (by simp) ?_
            refine allI_cons ?_ ?_
            · refine anyV_op rfl ?_
              refine VX.callT rfl rfl (CallT.frame (planeOf_t w h px hw hh hl hpb) [] rfl au_ci au_ci ?_)
              rintro _ _ ⟨rfl, rfl⟩
              refine frK au_co au_co ?_
              refine VX.nil ?_
              refine AnyV.more [3, 5] (by kernel_rfl) (by simp) ?_
              refine allI_cons ?_ ?_
              · refine anyV_op rfl ?_
                refine VX.callP0 rfl rfl rfl (planeOf_p tw th tpx htw2 hth2 htl htb) ?_
                refine VX.nil ?_
                refine AnyV.more [5] (by kernel_rfl) (by simp) ?_
                refine allI_cons ?_ ?_
                · refine anyV_op rfl ?_
                  refine VX.new rfl rfl ?_
                  refine VX.nil ?_
                  refine AnyV.more [6] (by kernel_rfl) (by simp) ?_
                  refine allI_cons ?_ ?_
                  · refine anyV_op rfl ?_
                    refine VX.store rfl rfl rfl rfl rfl au_sR rfl ?_
                    refine VX.nil ?_
                    refine AnyV.more [7] (by kernel_rfl) (by simp) ?_
                    refine allI_cons ?_ ?_
                    · refine anyV_op rfl ?_
                      refine VX.store rfl rfl rfl rfl rfl au_sR rfl ?_
                      refine VX.nil ?_
                      exact AnyV.fin (by kernel_rfl) (tile_leaf 1 3 2 trivial rfl rfl rfl rfl rfl rfl rfl rfl rfl rfl rfl rfl rfl)
                    exact trivial
                  exact trivial
                exact trivial
              refine allI_cons ?_ ?_
              · refine anyV_op rfl ?_
                refine VX.new rfl rfl ?_
                refine VX.nil ?_
                refine AnyV.more [3] (by kernel_rfl) (by simp) ?_
                refine allI_cons ?_ ?_
                · refine anyV_op rfl ?_
                  refine VX.callP0 rfl rfl rfl (planeOf_p tw th tpx htw2 hth2 htl htb) ?_
                  refine VX.nil ?_
                  refine AnyV.more [6] (by kernel_rfl) (by simp) ?_
                  refine allI_cons ?_ ?_
                  · refine anyV_op rfl ?_
                    refine VX.store rfl rfl rfl rfl rfl au_sR rfl ?_
                    refine VX.nil ?_
                    refine AnyV.more [7] (by kernel_rfl) (by simp) ?_
                    refine allI_cons ?_ ?_
                    · refine anyV_op rfl ?_
                      refine VX.store rfl rfl rfl rfl rfl au_sR rfl ?_
                      refine VX.nil ?_
                      exact AnyV.fin (by kernel_rfl) (tile_leaf 1 3 2 trivial rfl rfl rfl rfl rfl rfl rfl rfl rfl rfl rfl rfl rfl)
                    exact trivial
                  exact trivial
                exact trivial
              exact trivial
            refine allI_cons ?_ ?_
            · refine anyV_op rfl ?_
              refine VX.new rfl rfl ?_
              refine VX.nil ?_
              refine AnyV.more [1] (by kernel_rfl) (by simp) ?_
              refine allI_cons ?_ ?_
              · refine anyV_op rfl ?_
                refine VX.callT rfl rfl (CallT.frame (planeOf_t w h px hw hh hl hpb) [] rfl au_ci au_ci ?_)
                rintro _ _ ⟨rfl, rfl⟩
                refine frK au_co au_co ?_
                refine VX.nil ?_
                refine AnyV.more [3] (by kernel_rfl) (by simp) ?_
                refine allI_cons ?_ ?_
                · refine anyV_op rfl ?_
                  refine VX.callP0 rfl rfl rfl (planeOf_p tw th tpx htw2 hth2 htl htb) ?_
                  refine VX.nil ?_
                  refine AnyV.more [6] (by kernel_rfl) (by simp) ?_
                  refine allI_cons ?_ ?_
                  · refine anyV_op rfl ?_
                    refine VX.store rfl rfl rfl rfl rfl au_sR rfl ?_
                    refine VX.nil ?_
                    refine AnyV.more [7] (by kernel_rfl) (by simp) ?_
                    refine allI_cons ?_ ?_
                    · refine anyV_op rfl ?_
                      refine VX.store rfl rfl rfl rfl rfl au_sR rfl ?_
                      refine VX.nil ?_
                      exact AnyV.fin (by kernel_rfl) (tile_leaf 1 2 3 trivial rfl rfl rfl rfl rfl rfl rfl rfl rfl rfl rfl rfl rfl)
                    exact trivial
                  exact trivial
                exact trivial
              exact trivial
            exact trivial
          refine allI_cons ?_ ?_
          · refine anyV_op rfl ?_
            refine VX.new rfl rfl ?_
            refine VX.nil ?_
            refine AnyV.more [0] (by kernel_rfl) (by simp) ?_
            refine allI_cons ?_ ?_
            · refine anyV_op rfl ?_
              first | refine VX.meek rfl ?_ | refine VX.loadI rfl rfl au_l ?_ | refine VX.loadP rfl rfl rfl au_l ?_
              refine VX.nil ?_
              refine AnyV.more [1] (by kernel_rfl) (by simp) ?_
              refine allI_cons ?_ ?_
              · refine anyV_op rfl ?_
                refine VX.callT rfl rfl (CallT.frame (planeOf_t w h px hw hh hl hpb) [] rfl au_ci au_ci ?_)
                rintro _ _ ⟨rfl, rfl⟩
                refine frK au_co au_co ?_
                refine VX.nil ?_
                refine AnyV.more [3] (by kernel_rfl) (by simp) ?_
                refine allI_cons ?_ ?_
                · refine anyV_op rfl ?_
                  refine VX.callP0 rfl rfl rfl (planeOf_p tw th tpx htw2 hth2 htl htb) ?_
                  refine VX.nil ?_
                  refine AnyV.more [6] (by kernel_rfl) (by simp) ?_
                  refine allI_cons ?_ ?_
                  · refine anyV_op rfl ?_
                    refine VX.store rfl rfl rfl rfl rfl au_sR rfl ?_
                    refine VX.nil ?_
                    refine AnyV.more [7] (by kernel_rfl) (by simp) ?_
                    refine allI_cons ?_ ?_
                    · refine anyV_op rfl ?_
                      refine VX.store rfl rfl rfl rfl rfl au_sR rfl ?_
                      refine VX.nil ?_
                      exact AnyV.fin (by kernel_rfl) (tile_leaf 1 2 3 trivial rfl rfl rfl rfl rfl rfl rfl rfl rfl rfl rfl rfl rfl)
                    exact trivial
                  exact trivial
                exact trivial
              exact trivial
            exact trivial
          exact trivial
        refine allI_cons ?_ ?_
        · refine anyV_op rfl ?_
          refine VX.new rfl rfl ?_
          refine VX.nil ?_
          refine AnyV.more [0, 2] (by kernel_rfl) (by simp) ?_
          refine allI_cons ?_ ?_
          · refine anyV_op rfl ?_
            first | refine VX.meek rfl ?_ | refine VX.loadI rfl rfl au_l ?_ | refine VX.loadP rfl rfl rfl au_l ?_
            refine VX.nil ?_
            refine AnyV.more [1, 2] (by kernel_rfl) (by simp) ?_
            refine allI_cons ?_ ?_
            · refine anyV_op rfl ?_
              refine VX.callT rfl rfl (CallT.frame (planeOf_t w h px hw hh hl hpb) [] rfl au_ci au_ci ?_)
              rintro _ _ ⟨rfl, rfl⟩
              refine frK au_co au_co ?_
              refine VX.nil ?_
              refine AnyV.more [2] (by kernel_rfl) (by simp) ?_
              refine allI_cons ?_ ?_
              · refine anyV_op rfl ?_
                first | refine VX.meek rfl ?_ | refine VX.loadI rfl rfl au_l ?_ | refine VX.loadP rfl rfl rfl au_l ?_
                refine VX.nil ?_
                refine AnyV.more [3] (by kernel_rfl) (by simp) ?_
                refine allI_cons ?_ ?_
                · refine anyV_op rfl ?_
                  refine VX.callP0 rfl rfl rfl (planeOf_p tw th tpx htw2 hth2 htl htb) ?_
                  refine VX.nil ?_
                  refine AnyV.more [6] (by kernel_rfl) (by simp) ?_
                  refine allI_cons ?_ ?_
                  · refine anyV_op rfl ?_
                    refine VX.store rfl rfl rfl rfl rfl au_sR rfl ?_
                    refine VX.nil ?_
                    refine AnyV.more [7] (by kernel_rfl) (by simp) ?_
                    refine allI_cons ?_ ?_
                    · refine anyV_op rfl ?_
                      refine VX.store rfl rfl rfl rfl rfl au_sR rfl ?_
                      refine VX.nil ?_
                      exact AnyV.fin (by kernel_rfl) (tile_leaf 1 2 3 trivial rfl rfl rfl rfl rfl rfl rfl rfl rfl rfl rfl rfl rfl)
                    exact trivial
                  exact trivial
                exact trivial
              exact trivial
            refine allI_cons ?_ ?_
            · refine anyV_op rfl ?_
              first | refine VX.meek rfl ?_ | refine VX.loadI rfl rfl au_l ?_ | refine VX.loadP rfl rfl rfl au_l ?_
              refine VX.nil ?_
              refine AnyV.more [1] (by kernel_rfl) (by simp) ?_
              refine allI_cons ?_ ?_
              · refine anyV_op rfl ?_
                refine VX.callT rfl rfl (CallT.frame (planeOf_t w h px hw hh hl hpb) [] rfl au_ci au_ci ?_)
                rintro _ _ ⟨rfl, rfl⟩
                refine frK au_co au_co ?_
                refine VX.nil ?_
                refine AnyV.more [3] (by kernel_rfl) (by simp) ?_
                refine allI_cons ?_ ?_
                · refine anyV_op rfl ?_
                  refine VX.callP0 rfl rfl rfl (planeOf_p tw th tpx htw2 hth2 htl htb) ?_
                  refine VX.nil ?_
                  refine AnyV.more [6] (by kernel_rfl) (by simp) ?_
                  refine allI_cons ?_ ?_
                  · refine anyV_op rfl ?_
                    refine VX.store rfl rfl rfl rfl rfl au_sR rfl ?_
                    refine VX.nil ?_
                    refine AnyV.more [7] (by kernel_rfl) (by simp) ?_
                    refine allI_cons ?_ ?_
                    · refine anyV_op rfl ?_
                      refine VX.store rfl rfl rfl rfl rfl au_sR rfl ?_
                      refine VX.nil ?_
                      exact AnyV.fin (by kernel_rfl) (tile_leaf 1 2 3 trivial rfl rfl rfl rfl rfl rfl rfl rfl rfl rfl rfl rfl rfl)
                    exact trivial
                  exact trivial
                exact trivial
              exact trivial
            exact trivial
          refine allI_cons ?_ ?_
          · refine anyV_op rfl ?_
            first | refine VX.meek rfl ?_ | refine VX.loadI rfl rfl au_l ?_ | refine VX.loadP rfl rfl rfl au_l ?_
            refine VX.nil ?_
            refine AnyV.more [0] (by kernel_rfl) (by simp) ?_
            refine allI_cons ?_ ?_
            · refine anyV_op rfl ?_
              first | refine VX.meek rfl ?_ | refine VX.loadI rfl rfl au_l ?_ | refine VX.loadP rfl rfl rfl au_l ?_
              refine VX.nil ?_
              refine AnyV.more [1] (by kernel_rfl) (by simp) ?_
              refine allI_cons ?_ ?_
              · refine anyV_op rfl ?_
                refine VX.callT rfl rfl (CallT.frame (planeOf_t w h px hw hh hl hpb) [] rfl au_ci au_ci ?_)
                rintro _ _ ⟨rfl, rfl⟩
                refine frK au_co au_co ?_
                refine VX.nil ?_
                refine AnyV.more [3] (by kernel_rfl) (by simp) ?_
                refine allI_cons ?_ ?_
                · refine anyV_op rfl ?_
                  refine VX.callP0 rfl rfl rfl (planeOf_p tw th tpx htw2 hth2 htl htb) ?_
                  refine VX.nil ?_
                  refine AnyV.more [6] (by kernel_rfl) (by simp) ?_
                  refine allI_cons ?_ ?_
                  · refine anyV_op rfl ?_
                    refine VX.store rfl rfl rfl rfl rfl au_sR rfl ?_
                    refine VX.nil ?_
                    refine AnyV.more [7] (by kernel_rfl) (by simp) ?_
                    refine allI_cons ?_ ?_
                    · refine anyV_op rfl ?_
                      refine VX.store rfl rfl rfl rfl rfl au_sR rfl ?_
                      refine VX.nil ?_
                      exact AnyV.fin (by kernel_rfl) (tile_leaf 1 2 3 trivial rfl rfl rfl rfl rfl rfl rfl rfl rfl rfl rfl rfl rfl)
                    exact trivial
                  exact trivial
                exact trivial
              exact trivial
            exact trivial
          exact trivial
        exact trivial
      refine allI_cons ?_ ?_
      · refine anyV_op rfl ?_
        refine VX.new rfl rfl ?_
        refine VX.nil ?_
        refine AnyV.more [0, 2, 4] (by kernel_rfl) (by simp) ?_
        refine allI_cons ?_ ?_
        · refine anyV_op rfl ?_
          first | refine VX.meek rfl ?_ | refine VX.loadI rfl rfl au_l ?_ | refine VX.loadP rfl rfl rfl au_l ?_
          refine VX.nil ?_
          refine AnyV.more [1, 2, 4] (by kernel_rfl) (by simp) ?_
          refine allI_cons ?_ ?_
          · refine anyV_op rfl ?_
            refine VX.callT rfl rfl (CallT.frame (planeOf_t w h px hw hh hl hpb) [] rfl au_ci au_ci ?_)
            rintro _ _ ⟨rfl, rfl⟩
            refine frK au_co au_co ?_
            refine VX.nil ?_
            refine AnyV.more [2, 4] (by kernel_rfl) (by simp) ?_
            refine allI_cons ?_ ?_
            · refine anyV_op rfl ?_
              first | refine VX.meek rfl ?_ | refine VX.loadI rfl rfl au_l ?_ | refine VX.loadP rfl rfl rfl au_l ?_
              refine VX.nil ?_
              refine AnyV.more [3, 4] (by kernel_rfl) (by simp) ?_
              refine allI_cons ?_ ?_
              · refine anyV_op rfl ?_
                refine VX.callP0 rfl rfl rfl (planeOf_p tw th tpx htw2 hth2 htl htb) ?_
                refine VX.nil ?_
                refine AnyV.more [4] (by kernel_rfl) (by simp) ?_
                refine allI_cons ?_ ?_
                · refine anyV_op rfl ?_
                  refine VX.new rfl rfl ?_
                  refine VX.nil ?_
                  refine AnyV.more [6] (by kernel_rfl) (by simp) ?_
                  refine allI_cons ?_ ?_
                  · refine anyV_op rfl ?_
                    refine VX.store rfl rfl rfl rfl rfl au_sR rfl ?_
                    refine VX.nil ?_
                    refine AnyV.more [7] (by kernel_rfl) (by simp) ?_
                    refine allI_cons ?_ ?_
                    · refine anyV_op rfl ?_
                      refine VX.store rfl rfl rfl rfl rfl au_sR rfl ?_
                      refine VX.nil ?_
                      exact AnyV.fin (by kernel_rfl) (tile_leaf 3 1 2 trivial rfl rfl rfl rfl rfl rfl rfl rfl rfl rfl rfl rfl rfl)
                    exact trivial
                  exact trivial
                exact trivial
              refine allI_cons ?_ ?_
              · refine anyV_op rfl ?_
                refine VX.new rfl rfl ?_
                refine VX.nil ?_
                refine AnyV.more [3] (by kernel_rfl) (by simp) ?_
                refine allI_cons ?_ ?_
                · refine anyV_op rfl ?_
                  refine VX.callP0 rfl rfl rfl (planeOf_p tw th tpx htw2 hth2 htl htb) ?_
                  refine VX.nil ?_
                  refine AnyV.more [6] (by kernel_rfl) (by simp) ?_
                  refine allI_cons ?_ ?_
                  · refine anyV_op rfl ?_
                    refine VX.store rfl rfl rfl rfl rfl au_sR rfl ?_
                    refine VX.nil ?_
                    refine AnyV.more [7] (by kernel_rfl) (by simp) ?_
                    refine allI_cons ?_ ?_
                    · refine anyV_op rfl ?_
                      refine VX.store rfl rfl rfl rfl rfl au_sR rfl ?_
                      refine VX.nil ?_
                      exact AnyV.fin (by kernel_rfl) (tile_leaf 3 1 2 trivial rfl rfl rfl rfl rfl rfl rfl rfl rfl rfl rfl rfl rfl)
                    exact trivial
                  exact trivial
                exact trivial
              exact trivial
            refine allI_cons ?_ ?_
            · refine anyV_op rfl ?_
              refine VX.new rfl rfl ?_
              refine VX.nil ?_
              refine AnyV.more [2] (by kernel_rfl) (by simp) ?_
              refine allI_cons ?_ ?_
              · refine anyV_op rfl ?_
                first | refine VX.meek rfl ?_ | refine VX.loadI rfl rfl au_l ?_ | refine VX.loadP rfl rfl rfl au_l ?_
                refine VX.nil ?_
                refine AnyV.more [3] (by kernel_rfl) (by simp) ?_
                refine allI_cons ?_ ?_
                · refine anyV_op rfl ?_
                  refine VX.callP0 rfl rfl rfl (planeOf_p tw th tpx htw2 hth2 htl htb) ?_
                  refine VX.nil ?_
                  refine AnyV.more [6] (by kernel_rfl) (by simp) ?_
                  refine allI_cons ?_ ?_
                  · refine anyV_op rfl ?_
                    refine VX.store rfl rfl rfl rfl rfl au_sR rfl ?_
                    refine VX.nil ?_
                    refine AnyV.more [7] (by kernel_rfl) (by simp) ?_
                    refine allI_cons ?_ ?_
                    · refine anyV_op rfl ?_
                      refine VX.store rfl rfl rfl rfl rfl au_sR rfl ?_
                      refine VX.nil ?_
                      exact AnyV.fin (by kernel_rfl) (tile_leaf 3 1 2 trivial rfl rfl rfl rfl rfl rfl rfl rfl rfl rfl rfl rfl rfl)
                    exact trivial
                  exact trivial
                exact trivial
              exact trivial
            exact trivial
          refine allI_cons ?_ ?_
          · refine anyV_op rfl ?_
            first | refine VX.meek rfl ?_ | refine VX.loadI rfl rfl au_l ?_ | refine VX.loadP rfl rfl rfl au_l ?_
            refine VX.nil ?_
            refine AnyV.more [1, 4] (by kernel_rfl) (by simp) ?_
            refine allI_cons ?_ ?_
            · refine anyV_op rfl ?_
              refine VX.callT rfl rfl (CallT.frame (planeOf_t w h px hw hh hl hpb) [] rfl au_ci au_ci ?_)
              rintro _ _ ⟨rfl, rfl⟩
              refine frK au_co au_co ?_
              refine VX.nil ?_
              refine AnyV.more [3, 4] (by kernel_rfl) (by simp) ?_
              refine allI_cons ?_ ?_
              · refine anyV_op rfl ?_
                refine VX.callP0 rfl rfl rfl (planeOf_p tw th tpx htw2 hth2 htl htb) ?_
                refine VX.nil ?_
                refine AnyV.more [4] (by kernel_rfl) (by simp) ?_
                refine allI_cons ?_ ?_
                · refine anyV_op rfl ?_
                  refine VX.new rfl rfl ?_
                  refine VX.nil ?_
                  refine AnyV.more [6] (by kernel_rfl) (by simp) ?_
                  refine allI_cons ?_ ?_
                  · refine anyV_op rfl ?_
                    refine VX.store rfl rfl rfl rfl rfl au_sR rfl ?_
                    refine VX.nil ?_
                    refine AnyV.more [7] (by kernel_rfl) (by simp) ?_
                    refine allI_cons ?_ ?_
                    · refine anyV_op rfl ?_
                      refine VX.store rfl rfl rfl rfl rfl au_sR rfl ?_
                      refine VX.nil ?_
                      exact AnyV.fin (by kernel_rfl) (tile_leaf 3 1 2 trivial rfl rfl rfl rfl rfl rfl rfl rfl rfl rfl rfl rfl rfl)
                    exact trivial
                  exact trivial
                exact trivial
              refine allI_cons ?_ ?_
              · refine anyV_op rfl ?_
                refine VX.new rfl rfl ?_
                refine VX.nil ?_
                refine AnyV.more [3] (by kernel_rfl) (by simp) ?_
                refine allI_cons ?_ ?_
                · refine anyV_op rfl ?_
                  refine VX.callP0 rfl rfl rfl (planeOf_p tw th tpx htw2 hth2 htl htb) ?_
                  refine VX.nil ?_
                  refine AnyV.more [6] (by kernel_rfl) (by simp) ?_
                  refine allI_cons ?_ ?_
                  · refine anyV_op rfl ?_
                    refine VX.store rfl rfl rfl rfl rfl au_sR rfl ?_
                    refine VX.nil ?_
                    refine AnyV.more [7] (by kernel_rfl) (by simp) ?_
                    refine allI_cons ?_ ?_
                    · refine anyV_op rfl ?_
                      refine VX.store rfl rfl rfl rfl rfl au_sR rfl ?_
                      refine VX.nil ?_
                      exact AnyV.fin (by kernel_rfl) (tile_leaf 3 1 2 trivial rfl rfl rfl rfl rfl rfl rfl rfl rfl rfl rfl rfl rfl)
                    exact trivial
                  exact trivial
                exact trivial
              exact trivial
            refine allI_cons ?_ ?_
            · refine anyV_op rfl ?_
              refine VX.new rfl rfl ?_
              refine VX.nil ?_
              refine AnyV.more [1] (by kernel_rfl) (by simp) ?_
              refine allI_cons ?_ ?_
              · refine anyV_op rfl ?_
                refine VX.callT rfl rfl (CallT.frame (planeOf_t w h px hw hh hl hpb) [] rfl au_ci au_ci ?_)
                rintro _ _ ⟨rfl, rfl⟩
                refine frK au_co au_co ?_
                refine VX.nil ?_
                refine AnyV.more [3] (by kernel_rfl) (by simp) ?_
                refine allI_cons ?_ ?_
                · refine anyV_op rfl ?_
                  refine VX.callP0 rfl rfl rfl (planeOf_p tw th tpx htw2 hth2 htl htb) ?_
                  refine VX.nil ?_
                  refine AnyV.more [6] (by kernel_rfl) (by simp) ?_
                  refine allI_cons ?_ ?_
                  · refine anyV_op rfl ?_
                    refine VX.store rfl rfl rfl rfl rfl au_sR rfl ?_
                    refine VX.nil ?_
                    refine AnyV.more [7] (by kernel_rfl) (by simp) ?_
                    refine allI_cons ?_ ?_
                    · refine anyV_op rfl ?_
                      refine VX.store rfl rfl rfl rfl rfl au_sR rfl ?_
                      refine VX.nil ?_
                      exact AnyV.fin (by kernel_rfl) (tile_leaf 2 1 3 trivial rfl rfl rfl rfl rfl rfl rfl rfl rfl rfl rfl rfl rfl)
                    exact trivial
                  exact trivial
                exact trivial
              exact trivial
            exact trivial
          refine allI_cons ?_ ?_
          · refine anyV_op rfl ?_
            refine VX.new rfl rfl ?_
            refine VX.nil ?_
            refine AnyV.more [1, 2] (by kernel_rfl) (by simp) ?_
            refine allI_cons ?_ ?_
            · refine anyV_op rfl ?_
              refine VX.callT rfl rfl (CallT.frame (planeOf_t w h px hw hh hl hpb) [] rfl au_ci au_ci ?_)
              rintro _ _ ⟨rfl, rfl⟩
              refine frK au_co au_co ?_
              refine VX.nil ?_
              refine AnyV.more [2] (by kernel_rfl) (by simp) ?_
              refine allI_cons ?_ ?_
              · refine anyV_op rfl ?_
                first | refine VX.meek rfl ?_ | refine VX.loadI rfl rfl au_l ?_ | refine VX.loadP rfl rfl rfl au_l ?_
                refine VX.nil ?_
                refine AnyV.more [3] (by kernel_rfl) (by simp) ?_
                refine allI_cons ?_ ?_
                · refine anyV_op rfl ?_
                  refine VX.callP0 rfl rfl rfl (planeOf_p tw th tpx htw2 hth2 htl htb) ?_
                  refine VX.nil ?_
                  refine AnyV.more [6] (by kernel_rfl) (by simp) ?_
                  refine allI_cons ?_ ?_
                  · refine anyV_op rfl ?_
                    refine VX.store rfl rfl rfl rfl rfl au_sR rfl ?_
                    refine VX.nil ?_
                    refine AnyV.more [7] (by kernel_rfl) (by simp) ?_
                    refine allI_cons ?_ ?_
                    · refine anyV_op rfl ?_
                      refine VX.store rfl rfl rfl rfl rfl au_sR rfl ?_
                      refine VX.nil ?_
                      exact AnyV.fin (by kernel_rfl) (tile_leaf 2 1 3 trivial rfl rfl rfl rfl rfl rfl rfl rfl rfl rfl rfl rfl rfl)
                    exact trivial
                  exact trivial
                exact trivial
              exact trivial
            refine allI_cons ?_ ?_
            · refine anyV_op rfl ?_
              first | refine VX.meek rfl ?_ | refine VX.loadI rfl rfl au_l ?_ | refine VX.loadP rfl rfl rfl au_l ?_
              refine VX.nil ?_
              refine AnyV.more [1] (by kernel_rfl) (by simp) ?_
              refine allI_cons ?_ ?_
              · refine anyV_op rfl ?_
                refine VX.callT rfl rfl (CallT.frame (planeOf_t w h px hw hh hl hpb) [] rfl au_ci au_ci ?_)
                rintro _ _ ⟨rfl, rfl⟩
                refine frK au_co au_co ?_
                refine VX.nil ?_
                refine AnyV.more [3] (by kernel_rfl) (by simp) ?_
                refine allI_cons ?_ ?_
                · refine anyV_op rfl ?_
                  refine VX.callP0 rfl rfl rfl (planeOf_p tw th tpx htw2 hth2 htl htb) ?_
                  refine VX.nil ?_
                  refine AnyV.more [6] (by kernel_rfl) (by simp) ?_
                  refine allI_cons ?_ ?_
                  · refine anyV_op rfl ?_
                    refine VX.store rfl rfl rfl rfl rfl au_sR rfl ?_
                    refine VX.nil ?_
                    refine AnyV.more [7] (by kernel_rfl) (by simp) ?_
                    refine allI_cons ?_ ?_
                    · refine anyV_op rfl ?_
                      refine VX.store rfl rfl rfl rfl rfl au_sR rfl ?_
                      refine VX.nil ?_
                      exact AnyV.fin (by kernel_rfl) (tile_leaf 2 1 3 trivial rfl rfl rfl rfl rfl rfl rfl rfl rfl rfl rfl rfl rfl)
                    exact trivial
                  exact trivial
                exact trivial
              exact trivial
            exact trivial
          exact trivial
        refine allI_cons ?_ ?_
        · refine anyV_op rfl ?_
          first | refine VX.meek rfl ?_ | refine VX.loadI rfl rfl au_l ?_ | refine VX.loadP rfl rfl rfl au_l ?_
          refine VX.nil ?_
          refine AnyV.more [0, 4] (by kernel_rfl) (by simp) ?_
          refine allI_cons ?_ ?_
          · refine anyV_op rfl ?_
            first | refine VX.meek rfl ?_ | refine VX.loadI rfl rfl au_l ?_ | refine VX.loadP rfl rfl rfl au_l ?_
            refine VX.nil ?_
            refine AnyV.more [1, 4] (by kernel_rfl) (by simp) ?_
            refine allI_cons ?_ ?_
            · refine anyV_op rfl ?_
              refine VX.callT rfl rfl (CallT.frame (planeOf_t w h px hw hh hl hpb) [] rfl au_ci au_ci ?_)
              rintro _ _ ⟨rfl, rfl⟩
              refine frK au_co au_co ?_
              refine VX.nil ?_
              refine AnyV.more [3, 4] (by kernel_rfl) (by simp) ?_
              refine allI_cons ?_ ?_
              · refine anyV_op rfl ?_
                refine VX.callP0 rfl rfl rfl (planeOf_p tw th tpx htw2 hth2 htl htb) ?_
                refine VX.nil ?_
                refine AnyV.more [4] (by kernel_rfl) (by simp) ?_
                refine allI_cons ?_ ?_
                · refine anyV_op rfl ?_
                  refine VX.new rfl rfl ?_
                  refine VX.nil ?_
                  refine AnyV.more [6] (by kernel_rfl) (by simp) ?_
                  refine allI_cons ?_ ?_
                  · refine anyV_op rfl ?_
                    refine VX.store rfl rfl rfl rfl rfl au_sR rfl ?_
                    refine VX.nil ?_
                    refine AnyV.more [7] (by kernel_rfl) (by simp) ?_
                    refine allI_cons ?_ ?_
                    · refine anyV_op rfl ?_
                      refine VX.store rfl rfl rfl rfl rfl au_sR rfl ?_
                      refine VX.nil ?_
                      exact AnyV.fin (by kernel_rfl) (tile_leaf 3 1 2 trivial rfl rfl rfl rfl rfl rfl rfl rfl rfl rfl rfl rfl rfl)
                    exact trivial
                  exact trivial
                exact trivial
              refine allI_cons ?_ ?_
              · refine anyV_op rfl ?_
                refine VX.new rfl rfl ?_
                refine VX.nil ?_
                refine AnyV.more [3] (by kernel_rfl) (by simp) ?_
                refine allI_cons ?_ ?_
                · refine anyV_op rfl ?_
                  refine VX.callP0 rfl rfl rfl (planeOf_p tw th tpx htw2 hth2 htl htb) ?_
                  refine VX.nil ?_
                  refine AnyV.more [6] (by kernel_rfl) (by simp) ?_
                  refine allI_cons ?_ ?_
                  · refine anyV_op rfl ?_
                    refine VX.store rfl rfl rfl rfl rfl au_sR rfl ?_
                    refine VX.nil ?_
                    refine AnyV.more [7] (by kernel_rfl) (by simp) ?_
                    refine allI_cons ?_ ?_
                    · refine anyV_op rfl ?_
                      refine VX.store rfl rfl rfl rfl rfl au_sR rfl ?_
                      refine VX.nil ?_
                      exact AnyV.fin (by kernel_rfl) (tile_leaf 3 1 2 trivial rfl rfl rfl rfl rfl rfl rfl rfl rfl rfl rfl rfl rfl)
                    exact trivial
                  exact trivial
                exact trivial
              exact trivial
            refine allI_cons ?_ ?_
            · refine anyV_op rfl ?_
              refine VX.new rfl rfl ?_
              refine VX.nil ?_
              refine AnyV.more [1] (by kernel_rfl) (by simp) ?_
              refine allI_cons ?_ ?_
              · refine anyV_op rfl ?_
                refine VX.callT rfl rfl (CallT.frame (planeOf_t w h px hw hh hl hpb) [] rfl au_ci au_ci ?_)
                rintro _ _ ⟨rfl, rfl⟩
                refine frK au_co au_co ?_
                refine VX.nil ?_
                refine AnyV.more [3] (by kernel_rfl) (by simp) ?_
                refine allI_cons ?_ ?_
                · refine anyV_op rfl ?_
                  refine VX.callP0 rfl rfl rfl (planeOf_p tw th tpx htw2 hth2 htl htb) ?_
                  refine VX.nil ?_
                  refine AnyV.more [6] (by kernel_rfl) (by simp) ?_
                  refine allI_cons ?_ ?_
                  · refine anyV_op rfl ?_
                    refine VX.store rfl rfl rfl rfl rfl au_sR rfl ?_
                    refine VX.nil ?_
                    refine AnyV.more [7] (by kernel_rfl) (by simp) ?_
                    refine allI_cons ?_ ?_
                    · refine anyV_op rfl ?_
                      refine VX.store rfl rfl rfl rfl rfl au_sR rfl ?_
                      refine VX.nil ?_
                      exact AnyV.fin (by kernel_rfl) (tile_leaf 2 1 3 trivial rfl rfl rfl rfl rfl rfl rfl rfl rfl rfl rfl rfl rfl)
                    exact trivial
                  exact trivial
                exact trivial
              exact trivial
            exact trivial
          refine allI_cons ?_ ?_
          · refine anyV_op rfl ?_
            refine VX.new rfl rfl ?_
            refine VX.nil ?_
            refine AnyV.more [0] (by kernel_rfl) (by simp) ?_
            refine allI_cons ?_ ?_
            · refine anyV_op rfl ?_
              first | refine VX.meek rfl ?_ | refine VX.loadI rfl rfl au_l ?_ | refine VX.loadP rfl rfl rfl au_l ?_
              refine VX.nil ?_
              refine AnyV.more [1] (by kernel_rfl) (by simp) ?_
              refine allI_cons ?_ ?_
              · refine anyV_op rfl ?_
                refine VX.callT rfl rfl (CallT.frame (planeOf_t w h px hw hh hl hpb) [] rfl au_ci au_ci ?_)
                rintro _ _ ⟨rfl, rfl⟩
                refine frK au_co au_co ?_
                refine VX.nil ?_
                refine AnyV.more [3] (by kernel_rfl) (by simp) ?_
                refine allI_cons ?_ ?_
                · refine anyV_op rfl ?_
                  refine VX.callP0 rfl rfl rfl (planeOf_p tw th tpx htw2 hth2 htl htb) ?_
                  refine VX.nil ?_
                  refine AnyV.more [6] (by kernel_rfl) (by simp) ?_
                  refine allI_cons ?_ ?_
                  · refine anyV_op rfl ?_
                    refine VX.store rfl rfl rfl rfl rfl au_sR rfl ?_
                    refine VX.nil ?_
                    refine AnyV.more [7] (by kernel_rfl) (by simp) ?_
                    refine allI_cons ?_ ?_
                    · refine anyV_op rfl ?_
                      refine VX.store rfl rfl rfl rfl rfl au_sR rfl ?_
                      refine VX.nil ?_
                      exact AnyV.fin (by kernel_rfl) (tile_leaf 2 1 3 trivial rfl rfl rfl rfl rfl rfl rfl rfl rfl rfl rfl rfl rfl)
                    exact trivial
                  exact trivial
                exact trivial
              exact trivial
            exact trivial
          exact trivial
        refine allI_cons ?_ ?_
        · refine anyV_op rfl ?_
          refine VX.new rfl rfl ?_
          refine VX.nil ?_
          refine AnyV.more [0, 2] (by kernel_rfl) (by simp) ?_
          refine allI_cons ?_ ?_
          · refine anyV_op rfl ?_
            first | refine VX.meek rfl ?_ | refine VX.loadI rfl rfl au_l ?_ | refine VX.loadP rfl rfl rfl au_l ?_
            refine VX.nil ?_
            refine AnyV.more [1, 2] (by kernel_rfl) (by simp) ?_
            refine allI_cons ?_ ?_
            · refine anyV_op rfl ?_
              refine VX.callT rfl rfl (CallT.frame (planeOf_t w h px hw hh hl hpb) [] rfl au_ci au_ci ?_)
              rintro _ _ ⟨rfl, rfl⟩
              refine frK au_co au_co ?_
              refine VX.nil ?_
              refine AnyV.more [2] (by kernel_rfl) (by simp) ?_
              refine allI_cons ?_ ?_
              · refine anyV_op rfl ?_
                first | refine VX.meek rfl ?_ | refine VX.loadI rfl rfl au_l ?_ | refine VX.loadP rfl rfl rfl au_l ?_
                refine VX.nil ?_
                refine AnyV.more [3] (by kernel_rfl) (by simp) ?_
                refine allI_cons ?_ ?_
                · refine anyV_op rfl ?_
                  refine VX.callP0 rfl rfl rfl (planeOf_p tw th tpx htw2 hth2 htl htb) ?_
                  refine VX.nil ?_
                  refine AnyV.more [6] (by kernel_rfl) (by simp) ?_
                  refine allI_cons ?_ ?_
                  · refine anyV_op rfl ?_
                    refine VX.store rfl rfl rfl rfl rfl au_sR rfl ?_
                    refine VX.nil ?_
                    refine AnyV.more [7] (by kernel_rfl) (by simp) ?_
                    refine allI_cons ?_ ?_
                    · refine anyV_op rfl ?_
                      refine VX.store rfl rfl rfl rfl rfl au_sR rfl ?_
                      refine VX.nil ?_
                      exact AnyV.fin (by kernel_rfl) (tile_leaf 2 1 3 trivial rfl rfl rfl rfl rfl rfl rfl rfl rfl rfl rfl rfl rfl)
                    exact trivial
                  exact trivial
                exact trivial
              exact trivial
            refine allI_cons ?_ ?_
            · refine anyV_op rfl ?_
              first | refine VX.meek rfl ?_ | refine VX.loadI rfl rfl au_l ?_ | refine VX.loadP rfl rfl rfl au_l ?_
              refine VX.nil ?_
              refine AnyV.more [1] (by kernel_rfl) (by simp) ?_
              refine allI_cons ?_ ?_
              · refine anyV_op rfl ?_
                refine VX.callT rfl rfl (CallT.frame (planeOf_t w h px hw hh hl hpb) [] rfl au_ci au_ci ?_)
                rintro _ _ ⟨rfl, rfl⟩
                refine frK au_co au_co ?_
                refine VX.nil ?_
                refine AnyV.more [3] (by kernel_rfl) (by simp) ?_
                refine allI_cons ?_ ?_
                · refine anyV_op rfl ?_
                  refine VX.callP0 rfl rfl rfl (planeOf_p tw th tpx htw2 hth2 htl htb) ?_
                  refine VX.nil ?_
                  refine AnyV.more [6] (by kernel_rfl) (by simp) ?_
                  refine allI_cons ?_ ?_
                  · refine anyV_op rfl ?_
                    refine VX.store rfl rfl rfl rfl rfl au_sR rfl ?_
                    refine VX.nil ?_
                    refine AnyV.more [7] (by kernel_rfl) (by simp) ?_
                    refine allI_cons ?_ ?_
                    · refine anyV_op rfl ?_
                      refine VX.store rfl rfl rfl rfl rfl au_sR rfl ?_
                      refine VX.nil ?_
                      exact AnyV.fin (by kernel_rfl) (tile_leaf 2 1 3 trivial rfl rfl rfl rfl rfl rfl rfl rfl rfl rfl rfl rfl rfl)
                    exact trivial
                  exact trivial
                exact trivial
              exact trivial
            exact trivial
          refine allI_cons ?_ ?_
          · refine anyV_op rfl ?_
            first | refine VX.meek rfl ?_ | refine VX.loadI rfl rfl au_l ?_ | refine VX.loadP rfl rfl rfl au_l ?_
            refine VX.nil ?_
            refine AnyV.more [0] (by kernel_rfl) (by simp) ?_
            refine allI_cons ?_ ?_
            · refine anyV_op rfl ?_
              first | refine VX.meek rfl ?_ | refine VX.loadI rfl rfl au_l ?_ | refine VX.loadP rfl rfl rfl au_l ?_
              refine VX.nil ?_
              refine AnyV.more [1] (by kernel_rfl) (by simp) ?_
              refine allI_cons ?_ ?_
              · refine anyV_op rfl ?_
                refine VX.callT rfl rfl (CallT.frame (planeOf_t w h px hw hh hl hpb) [] rfl au_ci au_ci ?_)
                rintro _ _ ⟨rfl, rfl⟩
                refine frK au_co au_co ?_
                refine VX.nil ?_
                refine AnyV.more [3] (by kernel_rfl) (by simp) ?_
                refine allI_cons ?_ ?_
                · refine anyV_op rfl ?_
                  refine VX.callP0 rfl rfl rfl (planeOf_p tw th tpx htw2 hth2 htl htb) ?_
                  refine VX.nil ?_
                  refine AnyV.more [6] (by kernel_rfl) (by simp) ?_
                  refine allI_cons ?_ ?_
                  · refine anyV_op rfl ?_
                    refine VX.store rfl rfl rfl rfl rfl au_sR rfl ?_
                    refine VX.nil ?_
                    refine AnyV.more [7] (by kernel_rfl) (by simp) ?_
                    refine allI_cons ?_ ?_
                    · refine anyV_op rfl ?_
                      refine VX.store rfl rfl rfl rfl rfl au_sR rfl ?_
                      refine VX.nil ?_
                      exact AnyV.fin (by kernel_rfl) (tile_leaf 2 1 3 trivial rfl rfl rfl rfl rfl rfl rfl rfl rfl rfl rfl rfl rfl)
                    exact trivial
                  exact trivial
                exact trivial
              exact trivial
            exact trivial
          exact trivial
        exact trivial
      exact trivial
    refine VC.seq ?_
    refine VC.reg tab_ok [] rfl ?_
    first | refine VX.meek rfl ?_ | refine VX.loadI rfl rfl au_l ?_ | refine VX.loadP rfl rfl rfl au_l ?_
    iterate 2 refine VX.meek rfl ?_
    first | refine VX.meek rfl ?_ | refine VX.loadI rfl rfl au_l ?_ | refine VX.loadP rfl rfl rfl au_l ?_
    iterate 2 refine VX.meek rfl ?_
    refine' VX.merge (d := 39) [_, _, _, _, _, _] rfl ?_ rfl ?_
    rotate_left
    · refine VX.guard rfl rfl (fun hb4_5 => ?_) (fun hb4_5 => ?_)
      · have ghb4_5 := hb4_5
        try simp only [au_std, Bool.not_true, Bool.not_false] at ghb4_5
        first | refine VX.meek rfl ?_ | refine VX.loadI rfl rfl au_l ?_ | refine VX.loadP rfl rfl rfl au_l ?_
        refine VX.guardT rfl rfl hb4_5 ?_
        refine VX.meek rfl ?_
        refine VX.guardT rfl rfl hb4_5 ?_
        refine VX.meek rfl ?_
        refine VX.guardT rfl rfl hb4_5 ?_
        first | refine VX.meek rfl ?_ | refine VX.loadI rfl rfl au_l ?_ | refine VX.loadP rfl rfl rfl au_l ?_
        refine VX.guardT rfl rfl hb4_5 ?_
        refine VX.meek rfl ?_
        refine VX.pickO rfl (fun _ => rfl) ?_
        exact VX.nil ⟨rfl, rfl⟩
      · refine VX.guardF rfl rfl hb4_5 ?_
        refine VX.guardF rfl rfl hb4_5 ?_
        refine VX.guardF rfl rfl hb4_5 ?_
        refine VX.guardF rfl rfl hb4_5 ?_
        exact VX.pickO rfl (fun h => absurd (h.symm.trans hb4_5) (by decide)) (VX.nil ⟨rfl, rfl⟩)
    refine VX.nil ?_
    refine VC.cond rfl (fun hc1 => ?_) (fun hc1 => ?_)
    · (try simp only [au_std] at hc1); have htw0 : tw = 0 := (by omega); rw [if_pos htw0]
      refine VC.reg tab_ok [] rfl ?_
      first | refine VX.meek rfl ?_ | refine VX.loadI rfl rfl au_l ?_ | refine VX.loadP rfl rfl rfl au_l ?_
      refine VX.store rfl rfl rfl rfl rfl au_sR rfl ?_
      refine VX.nil ?_
      refine VC.ret ?_
      refine ⟨trivial, _, rfl, Cv.agg (cv_g (Cv.pure (encL_pure cU _)))⟩
    · (try simp only [au_std] at hc1); have htw0 : ¬ tw = 0 := (by omega); have htw : 1 ≤ tw ∧ tw ≤ 128 := (by omega); have hth : 1 ≤ th ∧ th ≤ 128 := (by omega); rw [if_neg htw0]
      refine VC.skip ?_
      refine VC.drwC tab_ok [] [_, _, _, _, _, _, _] ([.d, .d]) [false, false, false, false, true, false, false] rfl (by kernel_rfl) (by kernel_rfl) (by kernel_rfl) (by repeat' first | exact seen_nil | refine seen_dead ?_ | refine seen_same ?_) ?_
      refine VD.meek rfl ?_
      refine VD.meek rfl ?_
      refine VD.callP rfl rfl (meet_p hc ht (by omega)) ?_
      refine VD.meek rfl ?_
      refine VD.call (t := rectT ⟨0, 0, w, h⟩) (F1 := [.c [I64 0, I64 0, NIL], .c (encL cU px), .c [I64 0, I64 0, I64 w, I64 h]]) rfl rfl ?_ ?_ ?_
      · refine CallT.frame (prect_t w h px (encL cU px)) [1] rfl au_ci au_ci ?_
        rintro _ _ ⟨rfl, rfl⟩
        refine frK au_co au_co ?_
        exact ⟨rfl, rfl⟩
      · exact (by repeat' first | exact seen_nil | refine seen_dead ?_ | refine seen_same ?_)
      refine VD.callP rfl rfl (hwi) ?_
      refine VD.meek rfl ?_
      refine VD.nil ?_
      refine VX.callT rfl rfl (CallT.frame (each_t w h px px R _ _ (tileF tw th tpx x y) hcs hw hh hl hr.1 hr.2 hlen hins hpb (tileF_bd htb) (fun s a b hs hb ha ha2 hb1 hb2 => tile1_t w h tw th px s tpx x y a b hw hh hl hs htw hth htl hx2 hy2 ha ha2 hb1 hb2)) [1] rfl au_ci au_ci ?_)
      rintro _ _ ⟨rfl, rfl⟩
      refine frK au_co au_co ?_
      refine VX.nil ?_
      refine VC.view ([(13, .iptr [.iptr (plC w h px (.islc (encL cU (paintL w (inL R) (tileF tw th tpx x y) px)) px.length none)) 0] 0), (12, .ptr 0 0)]) ([.c [I64 0, I64 0, NIL]]) [] rfl (by refine ⟨[some 0], rfl, by first | trivial | decide, rfl, ?_, ?_⟩ <;> (repeat' first | exact trivial | exact CvB_n | exact CvB_d | refine CvE_app ?_ ?_ | refine CvE_cons rfl ?_ ?_ | refine CvH_cons ?_ ?_ | refine CvB_c rfl ?_ | fail) <;> first | exact au_v | (first | exact CvL.pure rfl | exact Cv.iptr (CvL.cons (Cv.iptr (cv_pl (Cv.pure (encL_pure cU _)) (Cv.fslc0 ⟨rfl, by simp⟩ (CvL.pure (encL_pure cU _))))) CvL.nil))) ?_
      refine VC.reg tab_ok [] rfl ?_
      first | refine VX.meek rfl ?_ | refine VX.loadI rfl rfl au_l ?_ | refine VX.loadP rfl rfl rfl au_l ?_
      refine VX.callP0 rfl rfl rfl (pgrid_n w h px (paintL w (inL R) (tileF tw th tpx x y) px) px.length hpl hw hh hl (by rw [hpl, hl]) hpb hbd) ?_
      refine VX.store rfl rfl rfl rfl rfl au_sR rfl ?_
      refine VX.nil ?_
      refine VC.ret ?_
      refine ⟨trivial, _, rfl, Cv.agg (cv_g (Cv.pure (encL_pure cU _)))⟩
end
section
open Go.RowKit Go.Sort
set_option maxRecDepth 10000
end
section
open Go.RowKit Go.Sort
set_option maxRecDepth 10000
section
variable {P : Program} {tab : Tab} {im : List Nat} {ops : Array Oper} {l : List Oper} {E : Env} {Hm F : Hp} {K : Env → Hp → Prop} {wd : List Bool} {d : Nat} {ty : TypeId} {pos : String} {after : Array Edge}
theorem VD.add {x y : Operand} {t t2 : Nat} {a b : Int} (hx : E.opd x = some (I64 a)) (hy : E.opd y = some (I64 b)) (h : -9223372036854775808 ≤ a + b ∧ a + b ≤ 9223372036854775807) (k : VD P tab im ops Hm l wd ((d, I64 (a + b)) :: E) F K) : VD P tab im ops Hm (⟨some d, .binOp .add t x y t2, ty, pos, after, none⟩ :: l) (false :: wd) E F K :=
  VD.meek (t := I64 (a + b)) (by simp only [opM, hx, hy, mBin, binInt, wrap_in h]; rfl) k
theorem VD.mul {x y : Operand} {t t2 : Nat} {a b : Int} (hx : E.opd x = some (I64 a)) (hy : E.opd y = some (I64 b)) (h : -9223372036854775808 ≤ a * b ∧ a * b ≤ 9223372036854775807) (k : VD P tab im ops Hm l wd ((d, I64 (a * b)) :: E) F K) : VD P tab im ops Hm (⟨some d, .binOp .mul t x y t2, ty, pos, after, none⟩ :: l) (false :: wd) E F K :=
  VD.meek (t := I64 (a * b)) (by simp only [opM, hx, hy, mBin, binInt, wrap_in h]; rfl) k
end
def atG (w h : Nat) (px : List Int) (x y : Int) : Int := if inB' w h x y = true then px[(y * w + x).toNat]! else 0
theorem inB_iff {w h : Nat} {x y : Int} : inB' w h x y = true ↔ 0 ≤ x ∧ x < w ∧ 0 ≤ y ∧ y < h := by unfold inB'; simp only [Bool.and_eq_true, decide_eq_true_eq]; omega
theorem at23_p (w h : Nat) (px : List Int) (x y : Int) (hw : w ≤ 128) (hh : h ≤ 128) (hl : px.length = w * h) : CallP Tryz.prog 75 [gT w h px, I64 x, I64 y] (U8 (atG w h px x y)) := by
  refine CallP.intro2 au_pu au_pu ?_
  refine CallT.intro tab_ok Tryz.func75 rfl (by kernel_rfl) (Nat.le_of_ble_eq_true rfl) ?_
  refine VC.reg tab_ok [3] rfl ?_
  refine VX.newI rfl rfl ?_
  refine VX.meek rfl ?_
  refine VX.nil ?_
  refine VC.seq ?_
  refine VC.reg tab_ok [] rfl ?_
  iterate 3 refine VX.meek rfl ?_
  refine' VX.merge (d := 12) [_, _, _] rfl ?_ rfl ?_
  rotate_left
  · refine VX.guard rfl rfl (fun hb1_2 => ?_) (fun hb1_2 => ?_)
    · have ghb1_2 := hb1_2
      try simp only [au_std, Bool.not_true, Bool.not_false] at ghb1_2
      refine VX.meek rfl ?_
      refine VX.guardT rfl rfl hb1_2 ?_
      refine VX.meek rfl ?_
      refine VX.pickO rfl (fun _ => rfl) ?_
      exact VX.nil ⟨rfl, rfl⟩
    · refine VX.guardF rfl rfl hb1_2 ?_
      exact VX.pickO rfl (fun h => absurd (h.symm.trans hb1_2) (by decide)) (VX.nil ⟨rfl, rfl⟩)
  refine VX.meek rfl ?_
  refine' VX.merge (d := 18) [_, _, _, _, _] rfl ?_ rfl ?_
  rotate_left
  · refine VX.guard rfl rfl (fun hb1_6 => ?_) (fun hb1_6 => ?_)
    · have ghb1_6 := hb1_6
      try simp only [au_std, Bool.not_true, Bool.not_false] at ghb1_6
      refine VX.meek rfl ?_
      refine VX.guardT rfl rfl hb1_6 ?_
      refine VX.meek rfl ?_
      refine VX.guardT rfl rfl hb1_6 ?_
      first | refine VX.meek rfl ?_ | refine VX.loadI rfl rfl au_l ?_ | refine VX.loadP rfl rfl rfl au_l ?_
      refine VX.guardT rfl rfl hb1_6 ?_
      refine VX.meek rfl ?_
      refine VX.pickO rfl (fun _ => rfl) ?_
      exact VX.nil ⟨rfl, rfl⟩
    · refine VX.guardF rfl rfl hb1_6 ?_
      refine VX.guardF rfl rfl hb1_6 ?_
      refine VX.guardF rfl rfl hb1_6 ?_
      exact VX.pickO rfl (fun h => absurd (h.symm.trans hb1_6) (by decide)) (VX.nil ⟨rfl, rfl⟩)
  refine VX.meek rfl ?_
  refine' VX.merge (d := 24) [_, _, _, _, _] rfl ?_ rfl ?_
  rotate_left
  · refine VX.guard rfl rfl (fun hb1_12 => ?_) (fun hb1_12 => ?_)
    · have ghb1_12 := hb1_12
      try simp only [au_std, Bool.not_true, Bool.not_false] at ghb1_12
      refine VX.meek rfl ?_
      refine VX.guardT rfl rfl hb1_12 ?_
      refine VX.meek rfl ?_
      refine VX.guardT rfl rfl hb1_12 ?_
      first | refine VX.meek rfl ?_ | refine VX.loadI rfl rfl au_l ?_ | refine VX.loadP rfl rfl rfl au_l ?_
      refine VX.guardT rfl rfl hb1_12 ?_
      refine VX.meek rfl ?_
      refine VX.pickO rfl (fun _ => rfl) ?_
      exact VX.nil ⟨rfl, rfl⟩
    · refine VX.guardF rfl rfl hb1_12 ?_
      refine VX.guardF rfl rfl hb1_12 ?_
      refine VX.guardF rfl rfl hb1_12 ?_
      exact VX.pickO rfl (fun h => absurd (h.symm.trans hb1_12) (by decide)) (VX.nil ⟨rfl, rfl⟩)
  refine VX.nil ?_
  refine VC.cond rfl (fun hc0 => ?_) (fun hc0 => ?_)
  · (try simp only [au_std] at hc0); have hres : atG w h px x y = 0 := if_neg (by rw [inB_iff]; omega)
    refine VC.reg tab_ok [] rfl ?_
    refine VX.meek rfl ?_
    refine VX.nil ?_
    refine VC.ret ?_
    exact ⟨trivial, _, rfl, Cv.eq (congrArg U8 hres.symm) rfl⟩
  · (try simp only [au_std] at hc0); have hin := in_place (x := x) (y := y) hw hh (by omega) (by omega) (by omega) (by omega); have hres : atG w h px x y = px[(y * w + x).toNat]! := if_pos (by rw [inB_iff]; omega)
    refine VC.skip ?_
    refine VC.reg tab_ok [] rfl ?_
    refine VX.meek rfl ?_
    first | refine VX.meek rfl ?_ | refine VX.loadI rfl rfl au_l ?_ | refine VX.loadP rfl rfl rfl au_l ?_
    iterate 2 refine VX.meek rfl ?_
    first | refine VX.meek rfl ?_ | refine VX.loadI rfl rfl au_l ?_ | refine VX.loadP rfl rfl rfl au_l ?_
    first | refine VX.mul rfl rfl (by omega) ?_ | refine VX.meek rfl ?_
    refine VX.meek rfl ?_
    first | refine VX.add rfl rfl (by omega) ?_ | refine VX.meek rfl ?_
    first | refine VX.idxI rfl rfl rfl rfl rfl rfl (by omega) ?_ | refine VX.idxO0 rfl rfl rfl rfl rfl rfl rfl (by omega) ?_ | refine VX.idxO0 rfl rfl rfl rfl rfl rfl au_z (by omega) ?_ | refine VX.idxO rfl rfl rfl rfl rfl rfl rfl (by omega) ?_ | refine VX.idxI rfl rfl rfl rfl rfl au_z (by omega) ?_ | refine VX.idxO rfl rfl rfl rfl rfl rfl au_z (by omega) ?_ | refine VX.meek rfl ?_
    first | refine VX.meek rfl ?_ | refine VX.loadI rfl rfl au_l ?_ | refine VX.loadP rfl rfl rfl au_l ?_
    refine VX.meek rfl ?_
    refine VX.nil ?_
    refine VC.ret ?_
    exact ⟨trivial, _, rfl, Cv.eq (congrArg U8 hres.symm) rfl⟩
end
section
open Go.RowKit Go.Sort
set_option maxRecDepth 10000
def visV (V : Int → Int → Prop) (y x : Int) (a b : Int) : Prop := V a b ∧ (b < y ∨ (b = y ∧ a < x))
end
section
open Go.RowKit Go.Sort
set_option maxRecDepth 10000
end
section
open Go.RowKit Go.Sort
set_option maxRecDepth 10000
theorem gnew_p (w h : Nat) (p : Int) (hw : 1 ≤ w ∧ w ≤ 128) (hh : 1 ≤ h ∧ h ≤ 128) : CallP Tryz.prog 62 [I64 w, I64 h, U8 p] (.tup [gT w h (List.replicate (w * h) p), I64 0]) := new_yes w h p hw hh
theorem gset_n (w h : Nat) (px : List Int) (n : Nat) (hn : px.length = n) (x y p : Int) (hw : w ≤ 128) (hh : h ≤ 128) (hl : px.length = w * h) (hb : ∀ v ∈ px, 0 ≤ v ∧ v < 256) (hx : 0 ≤ x ∧ x < w) (hy : 0 ≤ y ∧ y < h) :
    CallP Tryz.prog 63 [.agg [I64 w, I64 h, .islc (encL cU px) n none], I64 x, I64 y, U8 p] (.agg [I64 w, I64 h, .islc (encL cU (px.set (y * w + x).toNat p)) n none]) := by
  have k := gset_p ⟨w, h, px⟩ ⟨hw, hh, hl, hb⟩ x y p
  have e : Pic.set ⟨w, h, px⟩ x y p = ⟨w, h, px.set (y * w + x).toNat p⟩ := if_pos (show inB' w h x y = true from inB_iff.2 ⟨hx.1, hx.2, hy.1, hy.2⟩)
  rw [e] at k
  subst hn
  have k2 : CallP Tryz.prog 63 [gT w h px, I64 x, I64 y, U8 p] (gT w h (px.set (y * w + x).toNat p)) := k
  simp only [gT, List.length_set] at k2
  exact k2
theorem gat_p (w h : Nat) (px : List Int) (x y : Int) (hw : w ≤ 128) (hh : h ≤ 128) (hl : px.length = w * h) (hb : ∀ v ∈ px, 0 ≤ v ∧ v < 256) : CallP Tryz.prog 48 [gT w h px, I64 x, I64 y] (U8 (atG w h px x y)) := at_p ⟨w, h, px⟩ ⟨hw, hh, hl, hb⟩ x y
def putF (w : Nat) (px : List Int) : Int → Int → Int → Int := fun a b _ => px[(b * w + a).toNat]!
theorem repl_bd (n : Nat) : ∀ v ∈ List.replicate n (0 : Int), 0 ≤ v ∧ v < 256 := fun v hv => by rw [List.eq_of_mem_replicate hv]; omega
theorem repl_at (n i : Nat) : (List.replicate n (0 : Int))[i]! = 0 := by
  rw [List.getElem!_eq_getElem?_getD, List.getElem?_replicate]; split <;> rfl
theorem of23_p (w h : Nat) (px : List Int) (hw : 1 ≤ w ∧ w ≤ 128) (hh : 1 ≤ h ∧ h ≤ 128) (hl : px.length = w * h) (hb : ∀ v ∈ px, 0 ≤ v ∧ v < 256) : CallP Tryz.prog 19 [gT w h px] (gT w h px) := by
  have hpf : ∀ x y o, 0 ≤ o ∧ o < 256 → 0 ≤ putF w px x y o ∧ putF w px x y o < 256 := fun x y o _ => bang_bd hb _
  have hz : (List.replicate (w * h) (0 : Int)).length = w * h := List.length_replicate
  have hlen : ∀ y x, (paintL w (visV (fun _ _ => True) y x) (putF w px) (List.replicate (w * h) 0)).length = w * h := fun y x => by rw [paintL_len, hz]
  refine CallP.intro2 au_pu au_pu ?_
  refine CallT.intro tab_ok Tryz.func19 rfl (by kernel_rfl) (Nat.le_of_ble_eq_true rfl) ?_
  refine VC.reg tab_ok [1] rfl ?_
  refine VX.newI rfl rfl ?_
  refine VX.new rfl rfl ?_
  refine VX.nil ?_
  refine VC.reg tab_ok [] rfl ?_
  refine VX.meek rfl ?_
  first | refine VX.meek rfl ?_ | refine VX.loadI rfl rfl au_l ?_ | refine VX.loadP rfl rfl rfl au_l ?_
  refine VX.meek rfl ?_
  first | refine VX.meek rfl ?_ | refine VX.loadI rfl rfl au_l ?_ | refine VX.loadP rfl rfl rfl au_l ?_
  refine VX.callP0 rfl rfl rfl (gnew_p w h 0 hw hh) ?_
  iterate 3 refine VX.meek rfl ?_
  refine VX.new rfl rfl ?_
  refine VX.store rfl rfl rfl rfl rfl au_sR rfl ?_
  refine VX.meek rfl ?_
  refine VX.nil ?_
  refine VC.seq ?_
  refine VC.reg tab_ok [] rfl ?_
  refine VX.meek rfl ?_
  refine VX.nil ?_
  refine VC.block ?_
  refine VC.loopS (σ := Nat) (fun y => h - y) (fun y => y ≤ h) (fun y => [(5, I64 y), (2, .ptr 0 0), (3, .ptr 1 0)]) (fun y => [.c [I64 0, I64 0, NIL], .c [I64 w, I64 h, .islc (encL cU (paintL w (visV (fun _ _ => True) y 0) (putF w px) (List.replicate (w * h) 0))) (w * h) none]]) [1] rfl (0) ?_ ?_ ?_
  · refine ⟨[some 0, some 1], rfl, by first | trivial | decide, rfl, ?_, ?_⟩ <;> (repeat' first | exact trivial | exact CvB_n | exact CvB_d | refine CvE_app ?_ ?_ | refine CvE_cons rfl ?_ ?_ | refine CvH_cons ?_ ?_ | refine CvB_c rfl ?_ | fail) <;> first | exact au_v | (first | exact CvL.pure rfl | (refine cv_g (Cv.eq ?_ (encL_pure cU _)); rw [paint_none (h := h) hz (fun a b _ _ _ _ hh => by unfold visV at hh; omega), hz]))
  · (try dsimp only); omega
  rintro y hy
  refine VC.seq ?_
  refine VC.reg tab_ok [] rfl ?_
  iterate 2 refine VX.meek rfl ?_
  first | refine VX.meek rfl ?_ | refine VX.loadI rfl rfl au_l ?_ | refine VX.loadP rfl rfl rfl au_l ?_
  refine VX.meek rfl ?_
  refine VX.nil ?_
  refine VC.cond rfl (fun hc0 => ?_) (fun hc0 => ?_)
  · (try simp only [au_std] at hc0); have hyl : y < h := (by omega)
    refine VC.skip ?_
    refine VC.seq ?_
    refine VC.block ?_
    refine VC.reg tab_ok [] rfl ?_
    refine VX.meek rfl ?_
    refine VX.nil ?_
    refine VC.block ?_
    refine VC.loopS (σ := Nat) (fun x => w - x) (fun x => x ≤ w) (fun x => [(6, I64 x), (2, .ptr 0 0), (3, .ptr 1 0)]) (fun x => [.c [I64 0, I64 0, NIL], .c [I64 w, I64 h, .islc (encL cU (paintL w (visV (fun _ _ => True) y x) (putF w px) (List.replicate (w * h) 0))) (w * h) none]]) [1, 5] rfl (0) ?_ ?_ ?_
    · refine ⟨[some 0, some 1], rfl, by first | trivial | decide, rfl, ?_, ?_⟩ <;> (repeat' first | exact trivial | exact CvB_n | exact CvB_d | refine CvE_app ?_ ?_ | refine CvE_cons rfl ?_ ?_ | refine CvH_cons ?_ ?_ | refine CvB_c rfl ?_ | fail) <;> first | exact au_v | (first | exact CvL.pure rfl | exact cv_g (Cv.pure (encL_pure cU _)))
    · (try dsimp only); omega
    rintro x hx
    refine VC.seq ?_
    refine VC.reg tab_ok [] rfl ?_
    iterate 2 refine VX.meek rfl ?_
    first | refine VX.meek rfl ?_ | refine VX.loadI rfl rfl au_l ?_ | refine VX.loadP rfl rfl rfl au_l ?_
    refine VX.meek rfl ?_
    refine VX.nil ?_
    refine VC.cond rfl (fun hc1 => ?_) (fun hc1 => ?_)
    · (try simp only [au_std] at hc1); have hxl : x < w := (by omega); have hpi := place_lt (x := (x : Int)) (y := (y : Int)) (by omega) (by omega) (by omega) (show (y : Int) < h by omega)
      have hat : atG w h px x y = px[((y : Int) * w + x).toNat]! := if_pos (inB_iff.2 ⟨by omega, by omega, by omega, by omega⟩)
      have hvv : ∀ a b : Int, visV (fun _ _ => True) y (x + 1 : Nat) a b ↔ visV (fun _ _ => True) y x a b ∨ (a = x ∧ b = y) := (fun a b => by unfold visV; simp only [true_and]; omega)
      have hst : (paintL w (visV (fun _ _ => True) y x) (putF w px) (List.replicate (w * h) 0)).set ((y : Int) * w + x).toNat px[((y : Int) * w + x).toNat]! = paintL w (visV (fun _ _ => True) y (x + 1 : Nat)) (putF w px) (List.replicate (w * h) 0) := paint_put hz (by omega) (by omega) (by omega) (show (y : Int) < h by omega) rfl (fun a b _ _ _ _ => hvv a b)
      have hls := hlen y x
      refine VC.skip ?_
      refine VC.seq ?_
      refine VC.block ?_
      refine VC.reg tab_ok [] rfl ?_
      first | refine VX.meek rfl ?_ | refine VX.loadI rfl rfl au_l ?_ | refine VX.loadP rfl rfl rfl au_l ?_
      iterate 2 refine VX.meek rfl ?_
      refine VX.callP0 rfl rfl rfl ((show CallP Tryz.prog 75 [gT w h px, I64 x, I64 y] (U8 px[((y : Int) * w + x).toNat]!) from hat ▸ at23_p w h px x y hw.2 hh.2 hl)) ?_
      refine VX.meek rfl ?_
      refine VX.nil ?_
      refine VC.reg tab_ok [] rfl ?_
      iterate 2 refine VX.meek rfl ?_
      refine VX.nil ?_
      refine VC.cond rfl (fun hc2 => ?_) (fun hc2 => ?_)
      · (try simp only [au_std] at hc2)
        refine VC.regN tab_ok [] rfl ?_
        first | refine VX.meek rfl ?_ | refine VX.loadI rfl rfl au_l ?_ | refine VX.loadP rfl rfl rfl au_l ?_
        iterate 3 refine VX.meek rfl ?_
        refine VX.callP0 rfl rfl rfl (gset_n w h (paintL w (visV (fun _ _ => True) y x) (putF w px) (List.replicate (w * h) 0)) (w * h) hls x y px[((y : Int) * w + x).toNat]! hw.2 hh.2 hls (paintL_bd (repl_bd _) hpf) ⟨by omega, by omega⟩ ⟨by omega, by omega⟩) ?_
        refine VX.store rfl rfl rfl rfl rfl au_sR rfl ?_
        refine VX.nil ?_
        refine VC.regN tab_ok [] rfl ?_
        refine VX.meek rfl ?_
        first | refine VX.add rfl rfl (by omega) ?_ | refine VX.meek rfl ?_
        refine VX.meek rfl ?_
        refine VX.nil ?_
        refine ⟨x + 1, by (try dsimp only); omega, ?_, (by refine ⟨[some 0, some 1], rfl, by first | trivial | decide, rfl, ?_, ?_⟩ <;> (repeat' first | exact trivial | exact CvB_n | exact CvB_d | refine CvE_app ?_ ?_ | refine CvE_cons rfl ?_ ?_ | refine CvH_cons ?_ ?_ | refine CvB_c rfl ?_ | fail) <;> first | exact au_v | (first | exact CvL.pure rfl | (rw [← hst]; exact cv_g (Cv.pure (encL_pure cU _)))))⟩
        (try dsimp only); omega
      · (try simp only [au_std] at hc2); have hst2 : paintL w (visV (fun _ _ => True) y x) (putF w px) (List.replicate (w * h) 0) = paintL w (visV (fun _ _ => True) y (x + 1 : Nat)) (putF w px) (List.replicate (w * h) 0) := (by
          rw [← hst, hc2]
          refine listI_ext (by rw [List.length_set]) fun i hi => ?_
          rw [bang_set]
          split
          · rename_i hh
            rw [← hh.1, paintL_not ⟨by omega, by omega⟩ (by omega) (by rw [hz]; omega) (by unfold visV; simp only [true_and]; omega), repl_at]
          · rfl)
        refine VC.skip ?_
        refine VC.regN tab_ok [] rfl ?_
        refine VX.meek rfl ?_
        first | refine VX.add rfl rfl (by omega) ?_ | refine VX.meek rfl ?_
        refine VX.meek rfl ?_
        refine VX.nil ?_
        refine ⟨x + 1, by (try dsimp only); omega, ?_, (by refine ⟨[some 0, some 1], rfl, by first | trivial | decide, rfl, ?_, ?_⟩ <;> (repeat' first | exact trivial | exact CvB_n | exact CvB_d | refine CvE_app ?_ ?_ | refine CvE_cons rfl ?_ ?_ | refine CvH_cons ?_ ?_ | refine CvB_c rfl ?_ | fail) <;> first | exact au_v | (first | exact CvL.pure rfl | (rw [← hst2]; exact cv_g (Cv.pure (encL_pure cU _)))))⟩
        (try dsimp only); omega
    · (try simp only [au_std] at hc1); have hxw : (x : Int) = w := (by omega)
      refine VC.exit ?_
      refine VC.regN tab_ok [] rfl ?_
      refine VX.meek rfl ?_
      first | refine VX.add rfl rfl (by omega) ?_ | refine VX.meek rfl ?_
      refine VX.meek rfl ?_
      refine VX.nil ?_
      refine ⟨y + 1, by (try dsimp only); omega, ?_, (by refine ⟨[some 0, some 1], rfl, by first | trivial | decide, rfl, ?_, ?_⟩ <;> (repeat' first | exact trivial | exact CvB_n | exact CvB_d | refine CvE_app ?_ ?_ | refine CvE_cons rfl ?_ ?_ | refine CvH_cons ?_ ?_ | refine CvB_c rfl ?_ | fail) <;> first | exact au_v | (first | exact CvL.pure rfl | (refine cv_g (Cv.eq ?_ (encL_pure cU _)); rw [paint_congr (V := visV (fun _ _ => True) y x) (V' := visV (fun _ _ => True) (y + 1 : Nat) 0) (f := putF w px) (g := putF w px) hz (fun a b h1 h2 h3 h4 => by unfold visV; simp only [true_and]; omega) (fun _ _ _ _ _ _ _ => rfl)])))⟩
      (try dsimp only); omega
  · (try simp only [au_std] at hc0); obtain rfl : h = y := (by omega); have hfin : paintL w (visV (fun _ _ => True) h 0) (putF w px) (List.replicate (w * h) 0) = px := px_ext (h := h) (by rw [paintL_len, hz]) hl (fun a b h1 h2 h3 h4 => by
      have := (place_lt h1 h2 h3 h4).1
      rw [paintL_yes ⟨h1, h2⟩ h3 (by rw [hz]; omega) (by unfold visV; simp only [true_and]; omega)]; rfl)
    rw [hfin]
    refine VC.exit ?_
    refine VC.reg tab_ok [] rfl ?_
    first | refine VX.meek rfl ?_ | refine VX.loadI rfl rfl au_l ?_ | refine VX.loadP rfl rfl rfl au_l ?_
    refine VX.store rfl rfl rfl rfl rfl au_sR rfl ?_
    refine VX.nil ?_
    refine VC.ret ?_
    refine ⟨trivial, _, rfl, Cv.agg (cv_g ?_)⟩; rw [hl]; exact Cv.pure (encL_pure cU _)
end
section
open Go.RowKit Go.Sort
set_option maxRecDepth 10000
def padL (P : List Int) (n : Nat) : List Int := (List.range n).map fun i => if i < P.length then P[i]! else 0
theorem padL_len (P : List Int) (n : Nat) : (padL P n).length = n := by simp [padL]
theorem padL_snoc (P : List Int) (n : Nat) : padL P (n + 1) = padL P n ++ [if n < P.length then P[n]! else 0] := by unfold padL; rw [List.range_succ, List.map_append]; rfl
theorem padL_bd {P : List Int} (hb : ∀ v ∈ P, 0 ≤ v ∧ v < 256) (n : Nat) : ∀ v ∈ padL P n, 0 ≤ v ∧ v < 256 := fun v hv => by
  unfold padL at hv
  obtain ⟨i, hi, rfl⟩ := List.mem_map.1 hv
  split
  · exact bang_bd hb _
  · exact ⟨by decide, by decide⟩
theorem canvas_p (cw ch : Nat) (P : List Int) (hw : cw < 256) (hh : ch < 256) (hb : ∀ v ∈ P, 0 ≤ v ∧ v < 256) :
    CallP Tryz.prog 17 [.agg [U8 cw, U8 ch, .islc (encL cU P) P.length none]] (gT (cw % 12 + 1) (ch % 12 + 1) (padL P ((cw % 12 + 1) * (ch % 12 + 1)))) := by
  have hwh : (cw % 12 + 1) * (ch % 12 + 1) ≤ 12 * 12 := Nat.mul_le_mul (by omega) (by omega)
  generalize hW : cw % 12 + 1 = W at *
  generalize hH : ch % 12 + 1 = H at *
  have hm : (W : Int) * (H : Int) = ((W * H : Nat) : Int) := (Int.natCast_mul W H).symm
  have hw12 : W ≤ 12 := by omega
  have hh12 : H ≤ 12 := by omega
  refine CallP.intro2 au_pu au_pu ?_
  refine CallT.intro tab_ok Tryz.func17 rfl (by kernel_rfl) (Nat.le_of_ble_eq_true rfl) ?_
  refine VC.reg tab_ok [1] rfl ?_
  refine VX.newI rfl rfl ?_
  refine VX.new rfl rfl ?_
  refine VX.nil ?_
  refine VC.reg tab_ok [] rfl ?_
  refine VX.meek rfl ?_
  first | refine VX.meek rfl ?_ | refine VX.loadI rfl rfl au_l ?_ | refine VX.loadP rfl rfl rfl au_l ?_
  refine VX.meek (t := I64 cw) (by show some (T.v (.int .i64 (IntKind.i64.wrap (cw : Int))), (none : Option (Nat × List T))) = _; rw [wrap_in (by omega)]) ?_
  refine VX.rem rfl rfl (by omega) (by omega) ?_
  refine VX.add rfl rfl (by omega) ?_; rw [show (cw : Int) % 12 + 1 = (W : Int) from by omega]
  refine VX.meek rfl ?_
  first | refine VX.meek rfl ?_ | refine VX.loadI rfl rfl au_l ?_ | refine VX.loadP rfl rfl rfl au_l ?_
  refine VX.meek (t := I64 ch) (by show some (T.v (.int .i64 (IntKind.i64.wrap (ch : Int))), (none : Option (Nat × List T))) = _; rw [wrap_in (by omega)]) ?_
  refine VX.rem rfl rfl (by omega) (by omega) ?_
  refine VX.add rfl rfl (by omega) ?_; rw [show (ch : Int) % 12 + 1 = (H : Int) from by omega]
  refine VX.meek rfl ?_
  refine VX.new rfl rfl ?_
  refine VX.store rfl rfl rfl rfl rfl au_sR rfl ?_
  refine VX.nil ?_
  refine VC.view ([(2, .ptr 0 0), (3, .ptr 1 0)]) ([.c [I64 0, I64 0, NIL], .c [I64 W, I64 H, NIL]]) [1] rfl (by refine ⟨[some 0, some 1], rfl, by first | trivial | decide, rfl, ?_, ?_⟩ <;> (repeat' first | exact trivial | exact CvB_n | exact CvB_d | refine CvE_app ?_ ?_ | refine CvE_cons rfl ?_ ?_ | refine CvH_cons ?_ ?_ | refine CvB_c rfl ?_ | fail) <;> first | exact au_v | (exact CvL.eq rfl rfl)) ?_
  refine VC.seq ?_
  refine VC.reg tab_ok [] rfl ?_
  refine VX.meek rfl ?_
  refine VX.nil ?_
  refine VC.block ?_
  refine VC.loopS2 (σ1 := Nat) (σ2 := List T) (fun i _ => W * H - i) (fun i tl => i ≤ W * H ∧ T.pureL tl = true) (fun i _ => [(4, I64 i), (2, .ptr 0 0), (3, .ptr 1 0)]) (fun i tl => [.c [I64 0, I64 0, NIL], .c [I64 W, I64 H, .slc 2 0 (padL P i).length 1 none], .c (encL cU (padL P i) ++ tl)]) [1] rfl (0) ([]) ?_ ?_ ?_
  · refine ⟨[some 0, some 1, none], rfl, by first | trivial | decide, rfl, ?_, ?_⟩ <;> (repeat' first | exact trivial | exact CvB_n | exact CvB_d | refine CvE_app ?_ ?_ | refine CvE_cons rfl ?_ ?_ | refine CvH_cons ?_ ?_ | refine CvB_c rfl ?_ | fail) <;> first | exact au_v | (first | exact CvL.pure rfl | exact CvL.cons (Cv.pure rfl) (CvL.cons (Cv.pure rfl) (CvL.cons (Cv.nilv rfl) CvL.nil)))
  · exact ⟨by omega, rfl⟩
  rintro i tl ⟨hi, htl⟩
  refine VC.seq ?_
  refine VC.reg tab_ok [] rfl ?_
  iterate 2 refine VX.meek rfl ?_
  first | refine VX.meek rfl ?_ | refine VX.loadI rfl rfl au_l ?_ | refine VX.loadP rfl rfl rfl au_l ?_
  refine VX.meek rfl ?_
  first | refine VX.meek rfl ?_ | refine VX.loadI rfl rfl au_l ?_ | refine VX.loadP rfl rfl rfl au_l ?_
  first | refine VX.mul rfl rfl (by omega) ?_ | refine VX.meek rfl ?_
  refine VX.meek rfl ?_
  refine VX.nil ?_
  refine VC.cond rfl (fun hc0 => ?_) (fun hc0 => ?_)
  · (try simp only [au_std] at hc0); have hil : i < W * H := (by omega); have hpl := padL_len P i; have hsn := padL_snoc P i; have hcl : (encL cU (padL P i) ++ tl).length = i + tl.length := (by rw [List.length_append, encL_len, cU_sz, hpl, Nat.mul_one])
    refine VC.skip ?_
    refine VC.seq ?_
    refine VC.block ?_
    refine VC.reg tab_ok [] rfl ?_
    refine VX.meek rfl ?_
    refine VX.nil ?_
    refine VC.seq ?_
    refine VC.reg tab_ok [] rfl ?_
    iterate 2 refine VX.meek rfl ?_
    first | refine VX.meek rfl ?_ | refine VX.loadI rfl rfl au_l ?_ | refine VX.loadP rfl rfl rfl au_l ?_
    iterate 2 refine VX.meek rfl ?_
    refine VX.nil ?_
    refine VC.cond rfl (fun hc1 => ?_) (fun hc1 => ?_)
    · (try simp only [au_std] at hc1); have hiP : i < P.length := (by omega); rw [if_pos hiP] at hsn
      refine VC.regN tab_ok [] rfl ?_
      refine VX.meek rfl ?_
      first | refine VX.meek rfl ?_ | refine VX.loadI rfl rfl au_l ?_ | refine VX.loadP rfl rfl rfl au_l ?_
      refine VX.meek rfl ?_
      first | refine VX.idxI rfl rfl rfl rfl rfl rfl (by omega) ?_ | refine VX.idxO0 rfl rfl rfl rfl rfl rfl rfl (by omega) ?_ | refine VX.idxO0 rfl rfl rfl rfl rfl rfl au_z (by omega) ?_ | refine VX.idxO rfl rfl rfl rfl rfl rfl rfl (by omega) ?_ | refine VX.idxI rfl rfl rfl rfl rfl au_z (by omega) ?_ | refine VX.idxO rfl rfl rfl rfl rfl rfl au_z (by omega) ?_ | refine VX.meek rfl ?_
      first | refine VX.meek rfl ?_ | refine VX.loadI rfl rfl au_l ?_ | refine VX.loadP rfl rfl rfl au_l ?_
      refine VX.meek rfl ?_
      refine VX.nil ?_
      refine VC.regN tab_ok [39] rfl ?_
      refine VX.meek rfl ?_
      first | refine VX.meek rfl ?_ | refine VX.loadI rfl rfl au_l ?_ | refine VX.loadP rfl rfl rfl au_l ?_
      refine VX.meek rfl ?_
      refine VX.newI rfl rfl ?_
      refine VX.append rfl rfl rfl rfl rfl rfl rfl rfl (by rw [hcl, hpl]; omega) (by rw [hpl]; dsimp only; omega) (by rw [hpl]; omega) rfl rfl ?_
      refine VX.meek rfl ?_
      refine VX.store rfl rfl rfl rfl rfl au_sR rfl ?_
      refine VX.nil ?_
      refine VC.regN tab_ok [] rfl ?_
      refine VX.meek rfl ?_
      first | refine VX.add rfl rfl (by omega) ?_ | refine VX.meek rfl ?_
      refine VX.meek rfl ?_
      refine VX.nil ?_
      refine ⟨i + 1, [], by (try dsimp only); omega, ?_, (by refine ⟨[some 0, some 1, some 3], rfl, by first | trivial | decide, rfl, ?_, ?_⟩ <;> (repeat' first | exact trivial | exact CvB_n | exact CvB_d | refine CvE_app ?_ ?_ | refine CvE_cons rfl ?_ ?_ | refine CvH_cons ?_ ?_ | refine CvB_c rfl ?_ | fail) <;> first | exact au_v | (first | exact CvL.pure rfl | (refine cv_g (Cv.slcE rfl ?_ (.inl rfl)); rw [hsn, List.length_append]; rfl) | (refine CvL.eq ?_ ?_; (rw [hsn]; exact app_one cU rfl rfl rfl); (rw [List.append_nil]; exact encL_pure cU _))))⟩
      exact ⟨by omega, rfl⟩
    · (try simp only [au_std] at hc1); have hiP : ¬ i < P.length := (by omega); rw [if_neg hiP] at hsn
      refine VC.skip ?_
      refine VC.regN tab_ok [39] rfl ?_
      refine VX.meek rfl ?_
      first | refine VX.meek rfl ?_ | refine VX.loadI rfl rfl au_l ?_ | refine VX.loadP rfl rfl rfl au_l ?_
      refine VX.meek rfl ?_
      refine VX.newI rfl rfl ?_
      refine VX.append rfl rfl rfl rfl rfl rfl rfl rfl (by rw [hcl, hpl]; omega) (by rw [hpl]; dsimp only; omega) (by rw [hpl]; omega) rfl rfl ?_
      refine VX.meek rfl ?_
      refine VX.store rfl rfl rfl rfl rfl au_sR rfl ?_
      refine VX.nil ?_
      refine VC.regN tab_ok [] rfl ?_
      refine VX.meek rfl ?_
      first | refine VX.add rfl rfl (by omega) ?_ | refine VX.meek rfl ?_
      refine VX.meek rfl ?_
      refine VX.nil ?_
      refine ⟨i + 1, [], by (try dsimp only); omega, ?_, (by refine ⟨[some 0, some 1, some 3], rfl, by first | trivial | decide, rfl, ?_, ?_⟩ <;> (repeat' first | exact trivial | exact CvB_n | exact CvB_d | refine CvE_app ?_ ?_ | refine CvE_cons rfl ?_ ?_ | refine CvH_cons ?_ ?_ | refine CvB_c rfl ?_ | fail) <;> first | exact au_v | (first | exact CvL.pure rfl | (refine cv_g (Cv.slcE rfl ?_ (.inl rfl)); rw [hsn, List.length_append]; rfl) | (refine CvL.eq ?_ ?_; (rw [hsn]; exact app_one cU rfl rfl rfl); (rw [List.append_nil]; exact encL_pure cU _))))⟩
      exact ⟨by omega, rfl⟩
  · (try simp only [au_std] at hc0); obtain rfl : i = W * H := (by omega)
    refine VC.exit ?_
    refine VC.reg tab_ok [] rfl ?_
    first | refine VX.meek rfl ?_ | refine VX.loadI rfl rfl au_l ?_ | refine VX.loadP rfl rfl rfl au_l ?_
    refine VX.store rfl rfl rfl rfl rfl au_sR rfl ?_
    refine VX.nil ?_
    refine VC.ret ?_
    refine ⟨trivial, _, rfl, Cv.agg (cv_g (Cv.fslcA ⟨rfl, by simp⟩ (CvL.pure (encL_pure cU _))))⟩
def plainS (op pl fo ba : Int) : PenS := ⟨bitV .and .i64 op 15, pl, fo, ba, 0, 0, 0, false, []⟩
theorem and15 (n : Int) : 0 ≤ bitV .and .i64 n 15 ∧ bitV .and .i64 n 15 ≤ 15 := by
  have e : bitV .and .i64 n 15 = IntKind.i64.wrap (((BitVec.ofInt 64 n) &&& (BitVec.ofInt 64 15)).toNat : Int) := rfl
  have h : ((BitVec.ofInt 64 n) &&& (BitVec.ofInt 64 15)).toNat ≤ 15 := by
    rw [BitVec.toNat_and]
    exact Nat.le_trans Nat.and_le_right (by decide)
  rw [e, wrap_in (by omega)]
  omega
theorem plain_known (op pl fo ba : Int) : ropKnown (plainS op pl fo ba).f = true := by
  have := and15 op
  unfold ropKnown plainS; simp; omega
theorem plain_ok (op pl fo ba : Int) : PenOk (plainS op pl fo ba) := ⟨plain_known op pl fo ba, by simp [plainS, placeB], by simp [plainS, placeB], .inr rfl, by simp [plainS], by simp [plainS]⟩
theorem newPen_p : CallP Tryz.prog 60 [] (penT ⟨3, 255, 0, 1, 0, 0, 0, false, []⟩) := by
  refine CallP.intro2 au_pu au_pu ?_
  refine CallT.intro tab_ok Tryz.func60 rfl (by kernel_rfl) (Nat.le_of_ble_eq_true rfl) ?_
  refine VC.reg tab_ok [] rfl ?_
  refine VX.new rfl rfl ?_
  refine VX.nil ?_
  refine VC.reg tab_ok [] rfl ?_
  refine VX.meek rfl ?_
  refine VX.store rfl rfl rfl rfl rfl au_sR rfl ?_
  refine VX.nil ?_
  refine VC.ret ?_
  refine ⟨trivial, _, rfl, Cv.agg (CvL.cons (Cv.pure rfl) (CvL.cons (Cv.pure rfl) (CvL.cons (Cv.pure rfl) (CvL.cons (Cv.pure rfl) (CvL.cons (Cv.pure rfl) (CvL.cons (Cv.pure rfl) (CvL.cons (Cv.pure rfl) (CvL.cons (Cv.pure rfl) (CvL.cons (Cv.nil _ (.inl rfl)) CvL.nil)))))))))⟩
theorem plain_p (op pl fo ba : Int) : CallP Tryz.prog 23 [I64 op, U8 pl, U8 fo, U8 ba] (penT (plainS op pl fo ba)) := by
  refine CallP.intro2 au_pu au_pu ?_
  refine CallT.intro tab_ok Tryz.func23 rfl (by kernel_rfl) (Nat.le_of_ble_eq_true rfl) ?_
  refine VC.reg tab_ok [] rfl ?_
  refine VX.new rfl rfl ?_
  refine VX.nil ?_
  refine VC.reg tab_ok [] rfl ?_
  refine VX.callP0 rfl rfl rfl (newPen_p) ?_
  refine VX.new rfl rfl ?_
  refine VX.store rfl rfl rfl rfl rfl au_sR rfl ?_
  refine VX.nil ?_
  refine VC.reg tab_ok [] rfl ?_
  iterate 6 refine VX.meek rfl ?_
  refine VX.store rfl rfl rfl rfl rfl au_sR rfl ?_
  refine VX.meek rfl ?_
  refine VX.store rfl rfl rfl rfl rfl au_sR rfl ?_
  refine VX.meek rfl ?_
  refine VX.store rfl rfl rfl rfl rfl au_sR rfl ?_
  refine VX.meek rfl ?_
  refine VX.store rfl rfl rfl rfl rfl au_sR rfl ?_
  refine VX.nil ?_
  refine VC.reg tab_ok [] rfl ?_
  first | refine VX.meek rfl ?_ | refine VX.loadI rfl rfl au_l ?_ | refine VX.loadP rfl rfl rfl au_l ?_
  refine VX.store rfl rfl rfl rfl rfl au_sR rfl ?_
  refine VX.nil ?_
  refine VC.ret ?_
  exact ⟨trivial, _, rfl, Cv.eq rfl rfl⟩
theorem few_p (l : List Rect) : CallP Tryz.prog 16 [.islc (encL cR l) l.length none] (BL (decide (l.length ≤ 20))) := by
  refine CallP.intro2 au_pu au_pu ?_
  refine CallT.intro tab_ok Tryz.func16 rfl (by kernel_rfl) (Nat.le_of_ble_eq_true rfl) ?_
  refine VC.reg tab_ok [] rfl ?_
  refine VX.meek rfl ?_
  refine VX.nil ?_
  refine VC.reg tab_ok [] rfl ?_
  iterate 4 refine VX.meek rfl ?_
  refine VX.nil ?_
  refine VC.ret ?_
  exact ⟨trivial, _, rfl, Cv.eq (congrArg BL (decide_eq_decide.2 (by omega))) rfl⟩
def paintD (w : Nat) (D : Int → Int → Bool) (f : Int → Int → Int → Int) (px : List Int) : List Int := (List.range px.length).map fun i => if D (i % w : Nat) (i / w : Nat) = true then f (i % w : Nat) (i / w : Nat) px[i]! else px[i]!
theorem paintL_dec {w : Nat} {V : Int → Int → Prop} {D : Int → Int → Bool} {f : Int → Int → Int → Int} {px : List Int} (h : ∀ x y, V x y ↔ D x y = true) : paintL w V f px = paintD w D f px := by
  unfold paintL paintD
  refine List.map_congr_left fun i _ => ?_
  by_cases hc : V (i % w : Nat) (i / w : Nat)
  · rw [if_pos hc, if_pos ((h _ _).1 hc)]
  · rw [if_neg hc, if_neg (fun k => hc ((h _ _).2 k))]
def bandB (l : List Rect) (x y : Int) : Bool := decide (inL (l.filter countsB) x y)
theorem band_dec (l m : List Rect) (x y : Int) : (inL (bandOf l) x y ∧ inL (bandOf m) x y) ↔ (bandB l x y && bandB m x y) = true := by
  unfold bandB; rw [bandOf_in, bandOf_in, Bool.and_eq_true, decide_eq_true_eq, decide_eq_true_eq]
theorem awake_rects : rectsPx 3 (bandOf [⟨0, 0, 3, 2⟩]) (plainS 6 255 5 0) [⟨0, 0, 2, 1⟩, ⟨1, 0, 1, 1⟩] (List.replicate (3 * 2) 0) = [5, 0, 0, 0, 0, 0] := by
  unfold rectsPx
  rw [List.foldl_cons, List.foldl_cons, List.foldl_nil]
  rw [paintL_dec (D := fun x y => bandB [⟨0, 0, 3, 2⟩] x y && bandB [⟨0, 0, 2, 1⟩] x y) (fun x y => band_dec _ _ x y)]
  rw [paintL_dec (D := fun x y => bandB [⟨0, 0, 3, 2⟩] x y && bandB [⟨1, 0, 1, 1⟩] x y) (fun x y => band_dec _ _ x y)]
  decide +kernel
theorem awake_tile : paintL 3 (fun a b => inL (bandOf [⟨0, 0, 3, 2⟩]) a b ∧ inL (bandOf [⟨0, 0, 3, 2⟩]) a b) (tileF 2 1 [1, 2] 1 0) (List.replicate (3 * 2) 0) = [2, 1, 2, 2, 1, 2] := by
  rw [paintL_dec (D := fun x y => bandB [⟨0, 0, 3, 2⟩] x y && bandB [⟨0, 0, 3, 2⟩] x y) (fun x y => band_dec _ _ x y)]
  decide +kernel
theorem awake_p : CallP Tryz.prog 15 [] (BL true) := by
  have hr := Reg.of [⟨0, 0, 3, 2⟩]
  have hrects : CallP Tryz.prog 28 [gT 3 2 (List.replicate (3 * 2) 0), regT (bandOf [⟨0, 0, 3, 2⟩]), penT (plainS 6 255 5 0), .islc (encL cR [⟨0, 0, 2, 1⟩, ⟨1, 0, 1, 1⟩]) 2 none] (gT 3 2 [5, 0, 0, 0, 0, 0]) := by
    have := rects_t 3 2 (List.replicate (3 * 2) 0) (bandOf [⟨0, 0, 3, 2⟩]) [⟨0, 0, 2, 1⟩, ⟨1, 0, 1, 1⟩] (plainS 6 255 5 0) (by omega) (by omega) (by simp) (repl_bd _) hr (by simp) (by simp) (by intro r hr; simp at hr; rcases hr with rfl | rfl <;> (unfold i64; dsimp only; omega)) (plain_ok _ _ _ _) ⟨by decide, by decide⟩ ⟨by decide, by decide⟩
    rw [awake_rects] at this
    exact this
  have htile : CallP Tryz.prog 18 [gT 3 2 (List.replicate (3 * 2) 0), regT (bandOf [⟨0, 0, 3, 2⟩]), regT (bandOf [⟨0, 0, 3, 2⟩]), gT 2 1 [1, 2], I64 1, I64 0] (gT 3 2 [2, 1, 2, 2, 1, 2]) := by
    have := tile_p 3 2 2 1 (List.replicate (3 * 2) 0) [1, 2] (bandOf [⟨0, 0, 3, 2⟩]) (bandOf [⟨0, 0, 3, 2⟩]) 1 0 (by omega) (by omega) (by simp) (repl_bd _) (by omega) (by omega) rfl (.inr ⟨by omega, by omega⟩) (by intro v hv; simp at hv; rcases hv with rfl | rfl <;> exact ⟨by decide, by decide⟩) hr hr (by simp) (by decide) (by decide)
    rw [if_neg (by decide), awake_tile] at this
    exact this
  refine CallP.intro2 au_pu au_pu ?_
  refine CallT.intro tab_ok Tryz.func15 rfl (by kernel_rfl) (Nat.le_of_ble_eq_true rfl) ?_
  refine VC.reg tab_ok [] rfl ?_
  refine VX.meek rfl ?_
  refine VX.nil ?_
  refine VC.reg tab_ok [] rfl ?_
  refine VX.callP0 rfl rfl rfl (gnew_p 3 2 0 ⟨by omega, by omega⟩ ⟨by omega, by omega⟩) ?_
  iterate 3 refine VX.meek rfl ?_
  refine VX.new rfl rfl ?_
  refine VX.store rfl rfl rfl rfl rfl au_sR rfl ?_
  refine VX.meek rfl ?_
  refine VX.nil ?_
  refine VC.reg tab_ok [14] rfl ?_
  refine VX.meek rfl ?_
  refine VX.newI rfl rfl ?_
  refine VX.callP rfl rfl (of_p [⟨0, 0, 3, 2⟩] (by simp) (fun q hq => by rw [List.mem_singleton] at hq; subst hq; unfold i64; dsimp only; omega)) au_wk rfl ?_
  refine VX.new rfl rfl ?_
  refine VX.store rfl rfl rfl rfl rfl au_sR rfl ?_
  refine VX.nil ?_
  refine VC.reg tab_ok [] rfl ?_
  refine VX.callP0 rfl rfl rfl (plain_p 6 255 5 0) ?_
  refine VX.new rfl rfl ?_
  refine VX.store rfl rfl rfl rfl rfl au_sR rfl ?_
  refine VX.nil ?_
  refine VC.reg tab_ok [22] rfl ?_
  first | refine VX.meek rfl ?_ | refine VX.loadI rfl rfl au_l ?_ | refine VX.loadP rfl rfl rfl au_l ?_
  first | refine VX.meek rfl ?_ | refine VX.loadI rfl rfl au_l ?_ | refine VX.loadP rfl rfl rfl au_l ?_
  first | refine VX.meek rfl ?_ | refine VX.loadI rfl rfl au_l ?_ | refine VX.loadP rfl rfl rfl au_l ?_
  iterate 2 refine VX.meek rfl ?_
  refine VX.newI rfl rfl ?_
  refine VX.callP rfl rfl hrects au_wk (by show T.pureL [gT 3 2 (List.replicate (3 * 2) 0), regT (bandOf [⟨0, 0, 3, 2⟩]), penT (plainS 6 255 5 0), .islc (encL cR [⟨0, 0, 2, 1⟩, ⟨1, 0, 1, 1⟩]) 2 none] = true; simp only [T.pure, T.pureL, encL_pure]; rfl) ?_
  refine VX.new rfl rfl ?_
  refine VX.store rfl rfl rfl rfl rfl au_sR rfl ?_
  refine VX.nil ?_
  refine VC.reg tab_ok [] rfl ?_
  refine VX.callP0 rfl rfl rfl (gnew_p 2 1 1 ⟨by omega, by omega⟩ ⟨by omega, by omega⟩) ?_
  iterate 3 refine VX.meek rfl ?_
  refine VX.new rfl rfl ?_
  refine VX.store rfl rfl rfl rfl rfl au_sR rfl ?_
  refine VX.meek rfl ?_
  refine VX.nil ?_
  refine VC.drw tab_ok [] [_, _, _, _, _, _, _] rfl (by kernel_rfl) (by kernel_rfl) ?_
  first | refine VX.meek rfl ?_ | refine VX.loadI rfl rfl au_l ?_ | refine VX.loadP rfl rfl rfl au_l ?_
  first | refine VX.meek rfl ?_ | refine VX.loadI rfl rfl au_l ?_ | refine VX.loadP rfl rfl rfl au_l ?_
  first | refine VX.meek rfl ?_ | refine VX.loadI rfl rfl au_l ?_ | refine VX.loadP rfl rfl rfl au_l ?_
  first | refine VX.meek rfl ?_ | refine VX.loadI rfl rfl au_l ?_ | refine VX.loadP rfl rfl rfl au_l ?_
  refine VX.callP0 rfl rfl rfl ((show CallP Tryz.prog 63 [gT 2 1 [1, 1], I64 1, I64 0, U8 2] (gT 2 1 [1, 2]) from gset_n 2 1 [1, 1] 2 rfl 1 0 2 (by omega) (by omega) rfl (by intro v hv; simp at hv; rcases hv with rfl | rfl <;> exact ⟨by decide, by decide⟩) ⟨by omega, by omega⟩ ⟨by omega, by omega⟩)) ?_
  refine VX.callP0 rfl rfl rfl (htile) ?_
  refine VX.new rfl rfl ?_
  refine VX.nil ?_
  refine VX.store rfl rfl rfl rfl rfl au_sR rfl ?_
  refine VX.nil ?_
  refine VC.reg tab_ok [] rfl ?_
  first | refine VX.meek rfl ?_ | refine VX.loadI rfl rfl au_l ?_ | refine VX.loadP rfl rfl rfl au_l ?_
  refine VX.callP0 rfl rfl rfl (row_p 3 2 [5, 0, 0, 0, 0, 0] 0 (by omega) (by omega) rfl (by omega)) ?_
  iterate 2 refine VX.meek rfl ?_
  refine' VX.merge (d := 41) [_, _, _, _] rfl ?_ rfl ?_
  rotate_left
  · refine VX.guard rfl rfl (fun hb7_3 => ?_) (fun hb7_3 => ?_)
    · have ghb7_3 := hb7_3
      try simp only [au_std, Bool.not_true, Bool.not_false] at ghb7_3
      first | refine VX.meek rfl ?_ | refine VX.loadI rfl rfl au_l ?_ | refine VX.loadP rfl rfl rfl au_l ?_
      refine VX.guardT rfl rfl hb7_3 ?_
      refine VX.callP0 rfl rfl rfl (row_p 3 2 [5, 0, 0, 0, 0, 0] 1 (by omega) (by omega) rfl (by omega)) ?_
      refine VX.guardT rfl rfl hb7_3 ?_
      refine VX.meek rfl ?_
      refine VX.pickA rfl (fun _ => rfl) ?_
      exact VX.nil ⟨rfl, rfl⟩
    · refine VX.guardF rfl rfl hb7_3 ?_
      refine VX.guardF rfl rfl hb7_3 ?_
      exact VX.pickA rfl (fun h => absurd (h.symm.trans hb7_3) (by decide)) (VX.nil ⟨rfl, rfl⟩)
  refine VX.meek rfl ?_
  refine' VX.merge (d := 46) [_, _, _, _] rfl ?_ rfl ?_
  rotate_left
  · refine VX.guard rfl rfl (fun hb7_8 => ?_) (fun hb7_8 => ?_)
    · have ghb7_8 := hb7_8
      try simp only [au_std, Bool.not_true, Bool.not_false] at ghb7_8
      first | refine VX.meek rfl ?_ | refine VX.loadI rfl rfl au_l ?_ | refine VX.loadP rfl rfl rfl au_l ?_
      refine VX.guardT rfl rfl hb7_8 ?_
      refine VX.callP0 rfl rfl rfl (row_p 3 2 [2, 1, 2, 2, 1, 2] 0 (by omega) (by omega) rfl (by omega)) ?_
      refine VX.guardT rfl rfl hb7_8 ?_
      refine VX.meek rfl ?_
      refine VX.pickA rfl (fun _ => rfl) ?_
      exact VX.nil ⟨rfl, rfl⟩
    · refine VX.guardF rfl rfl hb7_8 ?_
      refine VX.guardF rfl rfl hb7_8 ?_
      exact VX.pickA rfl (fun h => absurd (h.symm.trans hb7_8) (by decide)) (VX.nil ⟨rfl, rfl⟩)
  refine VX.meek rfl ?_
  refine' VX.merge (d := 51) [_, _, _, _] rfl ?_ rfl ?_
  rotate_left
  · refine VX.guard rfl rfl (fun hb7_13 => ?_) (fun hb7_13 => ?_)
    · have ghb7_13 := hb7_13
      try simp only [au_std, Bool.not_true, Bool.not_false] at ghb7_13
      first | refine VX.meek rfl ?_ | refine VX.loadI rfl rfl au_l ?_ | refine VX.loadP rfl rfl rfl au_l ?_
      refine VX.guardT rfl rfl hb7_13 ?_
      refine VX.callP0 rfl rfl rfl (row_p 3 2 [2, 1, 2, 2, 1, 2] 1 (by omega) (by omega) rfl (by omega)) ?_
      refine VX.guardT rfl rfl hb7_13 ?_
      refine VX.meek rfl ?_
      refine VX.pickA rfl (fun _ => rfl) ?_
      exact VX.nil ⟨rfl, rfl⟩
    · refine VX.guardF rfl rfl hb7_13 ?_
      refine VX.guardF rfl rfl hb7_13 ?_
      exact VX.pickA rfl (fun h => absurd (h.symm.trans hb7_13) (by decide)) (VX.nil ⟨rfl, rfl⟩)
  refine VX.meek rfl ?_
  refine VX.nil ?_
  refine VC.ret ?_
  exact ⟨trivial, _, rfl, Cv.eq (congrArg BL (by decide +kernel)) rfl⟩
end
section
open Go.RowKit Go.Sort
abbrev shI : Sh := .int .i64
abbrev shU : Sh := .int .u8
abbrev shR : Sh := .st [shI, shI, shI, shI]
abbrev shCan : Sh := .st [shU, shU, .sl shU]
theorem lit_i64 {n : Int} (h : (Lit.int .i64 n).wf = true) : i64 n := by
  simp [Lit.wf, IntKind.min, IntKind.max, IntKind.signed, IntKind.bits] at h
  unfold i64; omega
theorem lit_u8 {n : Int} (h : (Lit.int .u8 n).wf = true) : 0 ≤ n ∧ n < 256 := by
  simp [Lit.wf, IntKind.min, IntKind.max, IntKind.signed, IntKind.bits] at h
  omega
theorem wt_i64 {ts : List T} (h : shI.wt ts) : ∃ n, ts = [I64 n] ∧ i64 n := by
  obtain ⟨n, rfl, hw⟩ := h
  exact ⟨n, rfl, lit_i64 hw⟩
theorem wt_u8 {ts : List T} (h : shU.wt ts) : ∃ n, ts = [U8 n] ∧ 0 ≤ n ∧ n < 256 := by
  obtain ⟨n, rfl, hw⟩ := h
  exact ⟨n, rfl, lit_u8 hw⟩
theorem nth_dec {α : Type} (c : Cd α) {p : List T → Prop} {Q : α → Prop} (h : ∀ a, p a → ∃ x, a = c.cells x ∧ Q x) : ∀ (n : Nat) {xs : List T}, nth p n xs → ∃ l : List α, xs = encL c l ∧ l.length = n ∧ ∀ x ∈ l, Q x
  | 0, xs, k => ⟨[], k, rfl, fun _ hx => by cases hx⟩
  | n + 1, xs, ⟨a, b, e, k1, k2⟩ => by
    obtain ⟨x, rfl, hx⟩ := h a k1
    obtain ⟨l, rfl, rfl, hl⟩ := nth_dec c h n k2
    exact ⟨x :: l, e, rfl, fun y hy => by
      rcases List.mem_cons.1 hy with rfl | hy
      · exact hx
      · exact hl y hy⟩
theorem wt_sl {α : Type} (c : Cd α) {s : Sh} {Q : α → Prop} (h : ∀ a, s.wt a → ∃ x, a = c.cells x ∧ Q x) {ts : List T} (k : (Sh.sl s).wt ts) : ∃ l : List α, ts = [.islc (encL c l) l.length none] ∧ l.length ≤ maxLen ∧ ∀ x ∈ l, Q x := by
  obtain ⟨xs, n, rfl, h1, h2⟩ := k
  obtain ⟨l, rfl, rfl, hl⟩ := nth_dec c h n h2
  exact ⟨l, rfl, h1, hl⟩
def rI (r : Rect) : Prop := i64 r.X ∧ i64 r.Y ∧ i64 r.W ∧ i64 r.H
theorem wt_rect {ts : List T} (h : shR.wt ts) : ∃ r : Rect, ts = cR.cells r ∧ rI r := by
  obtain ⟨a, b, rfl, h1, c, d, rfl, h2, e, f, rfl, h3, g, k, rfl, h4, rfl⟩ := h
  obtain ⟨x, rfl, hx⟩ := wt_i64 h1
  obtain ⟨y, rfl, hy⟩ := wt_i64 h2
  obtain ⟨w, rfl, hw⟩ := wt_i64 h3
  obtain ⟨z, rfl, hz⟩ := wt_i64 h4
  exact ⟨⟨x, y, w, z⟩, rfl, hx, hy, hw, hz⟩
theorem wt_rects {ts : List T} (h : (Sh.sl shR).wt ts) : ∃ l : List Rect, ts = [.islc (encL cR l) l.length none] ∧ l.length ≤ maxLen ∧ ∀ r ∈ l, rI r := wt_sl cR (fun _ => wt_rect) h
theorem wt_bytes {ts : List T} (h : (Sh.sl shU).wt ts) : ∃ l : List Int, ts = [.islc (encL cU l) l.length none] ∧ l.length ≤ maxLen ∧ ∀ v ∈ l, 0 ≤ v ∧ v < 256 :=
  wt_sl cU (fun _ h => by
    obtain ⟨x, rfl, hx⟩ := wt_u8 h
    exact ⟨x, rfl, hx⟩) h
theorem wt_canvas {ts : List T} (h : shCan.wt ts) : ∃ (cw ch : Nat) (P : List Int), ts = [U8 cw, U8 ch, .islc (encL cU P) P.length none] ∧ cw < 256 ∧ ch < 256 ∧ ∀ v ∈ P, 0 ≤ v ∧ v < 256 := by
  obtain ⟨a, b, rfl, h1, c, d, rfl, h2, e, f, rfl, h3, rfl⟩ := h
  obtain ⟨x, rfl, hx⟩ := wt_u8 h1
  obtain ⟨y, rfl, hy⟩ := wt_u8 h2
  obtain ⟨P, rfl, -, hP⟩ := wt_bytes h3
  refine ⟨x.toNat, y.toNat, P, ?_, by omega, by omega, hP⟩
  rw [Int.toNat_of_nonneg hx.1, Int.toNat_of_nonneg hy.1]
  rfl
end
section
open Go.RowKit Go.Sort
set_option maxRecDepth 10000
theorem rI_all {l : List Rect} (h : ∀ r ∈ l, rI r) : ∀ r ∈ l, i64 r.X ∧ i64 r.Y := fun r hr => ⟨(h r hr).1, (h r hr).2.1⟩
end
section
open Go.RowKit Go.Sort
theorem mixI_bit {n s d p : Int} {j : Nat} (hj : j < 8) : (mixI n s d p).toNat.testBit j = mixB (ropFn n) s.toNat d.toNat p.toNat j := by
  unfold mixI; rw [Int.toNat_natCast, testBit_mixV _ _ _ _ _ hj]
theorem mixI_lt (n s d p : Int) : (mixI n s d p).toNat < 256 := by unfold mixI; rw [Int.toNat_natCast]; exact mixV_lt _ _ _ _
def itN (f : Int → Int) : Nat → Int → Int
  | 0, o => o
  | n + 1, o => itN f n (f o)
open Classical in
noncomputable def cntP (clip l : List Rect) (x y : Int) : Nat := (l.filter fun r => decide (inL clip x y ∧ inL (bandOf [r]) x y)).length
open Classical in
theorem rectsPx_at {w h : Nat} (clip : List Rect) (p : PenS) {x y : Int} (hx : 0 ≤ x) (hx2 : x < w) (hy : 0 ≤ y) (hy2 : y < h) : ∀ (l : List Rect) (px : List Int), px.length = w * h → (rectsPx w clip p l px)[(y * w + x).toNat]! = itN (fun o => mixI p.f p.fo o p.pl) (cntP clip l x y) px[(y * w + x).toNat]!
  | [], px, _ => rfl
  | r :: l, px, hl => by
    show (rectsPx w clip p l (paintL w (fun x y => inL clip x y ∧ inL (bandOf [r]) x y) (mixF p p.fo) px))[(y * w + x).toNat]! = _
    have hp := (place_lt hx hx2 hy hy2).1
    rw [rectsPx_at clip p hx hx2 hy hy2 l _ ((paintL_len _ _ _ _).trans hl), paintL_at ⟨hx, hx2⟩ hy (by omega)]
    unfold cntP
    rw [List.filter_cons]
    by_cases k : inL clip x y ∧ inL (bandOf [r]) x y
    · rw [if_pos k, if_pos (decide_eq_true k), List.length_cons]; rfl
    · rw [if_neg k, if_neg (by simpa using k)]
open Classical in
theorem cntP_pos {clip l : List Rect} {x y : Int} : 0 < cntP clip l x y ↔ inL clip x y ∧ inL (bandOf l) x y := by
  unfold cntP
  rw [List.length_pos_iff_exists_mem]
  constructor
  · rintro ⟨r, hr⟩
    obtain ⟨h1, h2⟩ := List.mem_filter.1 hr
    have h3 := of_decide_eq_true h2
    refine ⟨h3.1, (bandOf_in l x y).2 ?_⟩
    obtain ⟨q, hq, hh⟩ := (bandOf_in [r] x y).1 h3.2
    obtain ⟨k1, k2⟩ := List.mem_filter.1 hq
    obtain rfl := List.mem_singleton.1 k1
    exact ⟨q, List.mem_filter.2 ⟨h1, k2⟩, hh⟩
  · rintro ⟨h1, h2⟩
    obtain ⟨q, hq, hh⟩ := (bandOf_in l x y).1 h2
    obtain ⟨k1, k2⟩ := List.mem_filter.1 hq
    exact ⟨q, List.mem_filter.2 ⟨k1, decide_eq_true ⟨h1, (bandOf_in [q] x y).2 ⟨q, List.mem_filter.2 ⟨List.mem_singleton.2 rfl, k2⟩, hh⟩⟩⟩⟩
theorem mix_out (n s d p : Int) (hd : 0 ≤ d ∧ d < 256) (hp : 0 ≤ p ∧ p < 256) : bitV .andNot .u8 (mixI n s d p) p = bitV .andNot .u8 d p := by
  have hm := mixI_lt n s d p
  have h0 := mixI_bd n s d p
  have e1 : bitV .andNot .u8 (mixI n s d p) p = (((mixI n s d p).toNat &&& (255 - p.toNat) : Nat) : Int) := by
    have := bits_andNot_u8 (mixI n s d p).toNat p.toNat hm (by omega)
    rw [Int.toNat_of_nonneg h0.1, Int.toNat_of_nonneg hp.1] at this
    exact this
  have e2 : bitV .andNot .u8 d p = ((d.toNat &&& (255 - p.toNat) : Nat) : Int) := by
    have := bits_andNot_u8 d.toNat p.toNat (by omega) (by omega)
    rw [Int.toNat_of_nonneg hd.1, Int.toNat_of_nonneg hp.1] at this
    exact this
  rw [e1, e2]
  congr 1
  refine eq_of_bits (Nat.lt_of_le_of_lt Nat.and_le_left hm) (Nat.lt_of_le_of_lt Nat.and_le_left (by omega)) fun j hj => ?_
  rw [Nat.testBit_and, Nat.testBit_and, testBit_255_sub _ _ (by omega) hj, mixI_bit hj]
  unfold mixB
  cases p.toNat.testBit j <;> simp
theorem itN_out {n s p : Int} (hp : 0 ≤ p ∧ p < 256) : ∀ (k : Nat) (o : Int), 0 ≤ o ∧ o < 256 → bitV .andNot .u8 (itN (fun o => mixI n s o p) k o) p = bitV .andNot .u8 o p
  | 0, o, _ => rfl
  | k + 1, o, h => by
    show bitV .andNot .u8 (itN (fun o => mixI n s o p) k (mixI n s o p)) p = _
    have h0 := mixI_bd n s o p
    rw [itN_out hp k _ (by omega), mix_out n s o p h hp]
end
section
open Go.RowKit Go.Sort
set_option maxRecDepth 10000
theorem gsame_r (w h : Nat) (a b : List Int) (hw : w ≤ 128) (hh : h ≤ 128) (ha : a.length = w * h) (hb : b.length = w * h) (ha2 : ∀ v ∈ a, 0 ≤ v ∧ v < 256) (hb2 : ∀ v ∈ b, 0 ≤ v ∧ v < 256) (e : a = b) : CallP Tryz.prog 29 [gT w h a, gT w h b] (BL true) := by
  have k := gsame_p ⟨w, h, a⟩ ⟨w, h, b⟩ ⟨hw, hh, ha, ha2⟩ ⟨hw, hh, hb, hb2⟩
  rwa [decide_eq_true (show (w = w ∧ h = h ∧ a = b) from ⟨rfl, rfl, e⟩)] at k
theorem penC_pu (p : PenS) : T.pureL (penC p) = true := by simp only [T.pureL, T.pure, encL_pure]; rfl
end
section
open Go.RowKit Go.Sort
set_option maxRecDepth 10000
def cG (w h : Nat) : Cd (List Int) := ⟨3, fun px => [I64 w, I64 h, .islc (encL cU px) px.length none], fun _ => rfl, fun px => by simp only [T.pureL, T.pure, encL_pure]; rfl, fun _ => rfl, by decide⟩
def OutP (w h : Nat) (px : List Int) (V : Int → Int → Prop) (pl : Int) (a : List Int) : Prop := a.length = w * h ∧ (∀ v ∈ a, 0 ≤ v ∧ v < 256) ∧ ∀ x y : Int, 0 ≤ x → x < w → 0 ≤ y → y < h → bitV .andNot .u8 a[(y * w + x).toNat]! pl = bitV .andNot .u8 px[(y * w + x).toNat]! pl ∧ (a[(y * w + x).toNat]! ≠ px[(y * w + x).toNat]! → V x y)
theorem out_paint {w h : Nat} {px : List Int} (hl : px.length = w * h) (hb : ∀ v ∈ px, 0 ≤ v ∧ v < 256) (V : Int → Int → Prop) (p : PenS) (src : Int) (hp : 0 ≤ p.pl ∧ p.pl < 256) : OutP w h px V p.pl (paintL w V (mixF p src) px) := by
  refine ⟨(paintL_len _ _ _ _).trans hl, paintL_bd hb (mixF_bd _ _), fun x y h1 h2 h3 h4 => ?_⟩
  have hpi := (place_lt h1 h2 h3 h4).1
  rw [paintL_at ⟨h1, h2⟩ h3 (by omega)]
  split
  · rename_i k
    exact ⟨mix_out _ _ _ _ (bang_bd hb _) hp, fun _ => k⟩
  · exact ⟨rfl, fun k => absurd rfl k⟩
theorem out_rects {w h : Nat} {px : List Int} (hl : px.length = w * h) (hb : ∀ v ∈ px, 0 ≤ v ∧ v < 256) (clip l : List Rect) (p : PenS) (hp : 0 ≤ p.pl ∧ p.pl < 256) : OutP w h px (fun x y => inL clip x y ∧ inL (bandOf l) x y) p.pl (rectsPx w clip p l px) := by
  refine ⟨(rectsPx_len _ _ _ _ _).trans hl, rectsPx_bd hb, fun x y h1 h2 h3 h4 => ?_⟩
  rw [rectsPx_at clip p h1 h2 h3 h4 l px hl]
  refine ⟨itN_out hp _ _ (bang_bd hb _), fun k => cntP_pos.1 ?_⟩
  rcases Nat.eq_zero_or_pos (cntP clip l x y) with e | e
  · rw [e] at k; exact absurd rfl k
  · exact e
theorem paintClips_all {t0 t1 t2 t3 t4 t5 t6 : List T} (h0 : shCan.wt t0) (h1 : (Sh.sl shR).wt t1) (h2 : (Sh.sl shR).wt t2) (h3 : shI.wt t3) (h4 : shU.wt t4) (h5 : shU.wt t5) (h6 : shI.wt t6) :
    CallP Tryz.prog 12 [shCan.tree t0, (Sh.sl shR).tree t1, (Sh.sl shR).tree t2, shI.tree t3, shU.tree t4, shU.tree t5, shI.tree t6] (BL true) := by
  obtain ⟨cw, ch, P, rfl, hcw, hch, hPb⟩ := wt_canvas h0
  obtain ⟨clip, rfl, -, hci⟩ := wt_rects h1
  obtain ⟨l, rfl, -, hli⟩ := wt_rects h2
  obtain ⟨op, rfl, -⟩ := wt_i64 h3
  obtain ⟨pl, rfl, hpl⟩ := wt_u8 h4
  obtain ⟨fo, rfl, hfo⟩ := wt_u8 h5
  obtain ⟨wrong, rfl, -⟩ := wt_i64 h6
  clear h0 h1 h2 h3 h4 h5 h6
  have hcan := canvas_p cw ch P hcw hch hPb
  have hw : 1 ≤ cw % 12 + 1 ∧ cw % 12 + 1 ≤ 128 := by omega
  have hh : 1 ≤ ch % 12 + 1 ∧ ch % 12 + 1 ≤ 128 := by omega
  have hl := padL_len P ((cw % 12 + 1) * (ch % 12 + 1))
  have hb := padL_bd hPb ((cw % 12 + 1) * (ch % 12 + 1))
  generalize padL P ((cw % 12 + 1) * (ch % 12 + 1)) = px at *
  generalize cw % 12 + 1 = w at *
  generalize ch % 12 + 1 = h at *
  have hpC : 0 ≤ (plainS op pl fo 9).pl ∧ (plainS op pl fo 9).pl < 256 := hpl
  have hfC : 0 ≤ (plainS op pl fo 9).fo ∧ (plainS op pl fo 9).fo < 256 := hfo
  have hbC : 0 ≤ (plainS op pl fo 9).ba ∧ (plainS op pl fo 9).ba < 256 := ⟨by show (0 : Int) ≤ 9; decide, by show (9 : Int) < 256; decide⟩
  have hoC := plain_ok op pl fo 9
  have pC := plain_p op pl fo 9
  have hCp : (plainS op pl fo 9).pl = pl := rfl
  generalize plainS op pl fo 9 = C at *
  have oA := out_paint hl hb (fun x y => inL (bandOf clip) x y ∧ inL (bandOf l) x y) C C.fo hpC
  have oD := out_paint hl hb (fun x y => inL (bandOf clip) x y ∧ inL (bandOf l) x y) C C.ba hpC
  have oB := out_rects hl hb (bandOf clip) l C hpC
  rw [hCp] at oA oB oD
  show CallP Tryz.prog 12 [.agg [U8 cw, U8 ch, .islc (encL cU P) P.length none], .islc (encL cR clip) clip.length none, .islc (encL cR l) l.length none, I64 op, U8 pl, U8 fo, I64 wrong] (BL true)
  refine CallP.intro2 au_pu au_pu ?_
  refine CallT.intro tab_ok Tryz.func12 rfl (by kernel_rfl) (Nat.le_of_ble_eq_true rfl) ?_
  refine VC.reg tab_ok [7] rfl ?_
  refine VX.newI rfl rfl ?_
  refine VX.meek rfl ?_
  refine VX.nil ?_
  refine VC.seq ?_
  refine VC.reg tab_ok [] rfl ?_
  refine VX.callP0 rfl rfl rfl (awake_p) ?_
  refine VX.meek rfl ?_
  refine VX.nil ?_
  refine VC.cond rfl (fun hc0 => ?_) (fun hc0 => ?_)
  · exact absurd hc0 (by simp)
  · (try simp only [au_std] at hc0)
    refine VC.skip ?_
    refine VC.seq ?_
    refine VC.reg tab_ok [] rfl ?_
    refine VX.meek rfl ?_
    refine VX.callP0 rfl rfl rfl (few_p clip) ?_
    iterate 2 refine VX.meek rfl ?_
    refine' VX.merge (d := 36) [_, _, _, _] rfl ?_ rfl ?_
    rotate_left
    · refine VX.guard rfl rfl (fun hb3_3 => ?_) (fun hb3_3 => ?_)
      · have ghb3_3 := hb3_3
        try simp only [au_std, Bool.not_true, Bool.not_false] at ghb3_3
        refine VX.meek rfl ?_
        refine VX.guardT rfl rfl hb3_3 ?_
        refine VX.callP0 rfl rfl rfl (few_p l) ?_
        refine VX.guardT rfl rfl hb3_3 ?_
        refine VX.meek rfl ?_
        refine VX.pickO rfl (fun _ => rfl) ?_
        exact VX.nil ⟨rfl, rfl⟩
      · refine VX.guardF rfl rfl hb3_3 ?_
        refine VX.guardF rfl rfl hb3_3 ?_
        exact VX.pickO rfl (fun h => absurd (h.symm.trans hb3_3) (by decide)) (VX.nil ⟨rfl, rfl⟩)
    refine VX.nil ?_
    refine VC.cond rfl (fun hc1 => ?_) (fun hc1 => ?_)
    · (try simp only [au_std] at hc1)
      refine VC.reg tab_ok [] rfl ?_
      refine VX.meek rfl ?_
      refine VX.nil ?_
      refine VC.ret ?_
      exact ⟨trivial, _, rfl, Cv.eq (by first | rfl | (simp [*]; done)) rfl⟩
    · (try simp only [au_std] at hc1); have hlc : clip.length ≤ 20 ∧ l.length ≤ 20 := (by omega)
      have hbl : (bandOf clip).length ≤ 1048576 := Nat.le_trans (Reg.of clip).len (Nat.le_trans (Nat.mul_le_mul (show 2 * clip.length ≤ 40 by omega) (show 2 * clip.length ≤ 40 by omega)) (by decide))
      have hbl2 : (bandOf l).length ≤ 1048576 := Nat.le_trans (Reg.of l).len (Nat.le_trans (Nat.mul_le_mul (show 2 * l.length ≤ 40 by omega) (show 2 * l.length ≤ 40 by omega)) (by decide))
      have cA := region_w w h px _ (bandOf clip) (bandOf l) C (with_p w h px (bandOf clip) (bandOf l) C C.fo hw.2 hh.2 hl hb (Reg.of clip) (Reg.of l) (by omega) hoC hfC hpC)
      have cD := back_w w h px _ (bandOf clip) (bandOf l) C (with_p w h px (bandOf clip) (bandOf l) C C.ba hw.2 hh.2 hl hb (Reg.of clip) (Reg.of l) (by omega) hoC hbC hpC)
      have cB := rects_t w h px (bandOf clip) l C hw.2 hh.2 hl hb (Reg.of clip) (by omega) (by omega) (rI_all hli) hoC hfC hpC
      generalize paintL w (fun x y => inL (bandOf clip) x y ∧ inL (bandOf l) x y) (mixF C C.fo) px = A at *
      generalize paintL w (fun x y => inL (bandOf clip) x y ∧ inL (bandOf l) x y) (mixF C C.ba) px = D at *
      generalize rectsPx w (bandOf clip) C l px = B at *
      have hall : ∀ a ∈ [A, B, D], OutP w h px (fun x y => inL (bandOf clip) x y ∧ inL (bandOf l) x y) pl a := (fun a ha => by
        simp only [List.mem_cons, List.mem_nil_iff, or_false] at ha
        rcases ha with rfl | rfl | rfl <;> assumption)
      refine VC.skip ?_
      refine VC.reg tab_ok [] rfl ?_
      first | refine VX.meek rfl ?_ | refine VX.loadI rfl rfl au_l ?_ | refine VX.loadP rfl rfl rfl au_l ?_
      refine VX.callP0 rfl rfl rfl (hcan) ?_
      refine VX.callP0 rfl rfl rfl (of23_p w h px hw hh hl hb) ?_
      iterate 3 refine VX.meek rfl ?_
      refine VX.callP0 rfl rfl rfl (pC) ?_
      refine VX.new rfl rfl ?_
      refine VX.new rfl rfl ?_
      refine VX.store rfl rfl rfl rfl rfl au_sP rfl ?_
      refine VX.store rfl rfl rfl rfl rfl au_sP rfl ?_
      refine VX.nil ?_
      refine VC.reg tab_ok [] rfl ?_
      refine VX.meek rfl ?_
      refine VX.callP0 rfl rfl rfl (of_p clip (by omega) (rI_all hci)) ?_
      refine VX.meek rfl ?_
      refine VX.callP0 rfl rfl rfl (of_p l (by omega) (rI_all hli)) ?_
      refine VX.new rfl rfl ?_
      refine VX.new rfl rfl ?_
      refine VX.store rfl rfl rfl rfl rfl au_sP rfl ?_
      refine VX.store rfl rfl rfl rfl rfl au_sP rfl ?_
      refine VX.nil ?_
      refine VC.seq ?_
      refine VC.drw tab_ok [63] [_, _, _, _, _, _, _, _, _, _, _, _, _, _, _, _, _, _] rfl (by kernel_rfl) (by kernel_rfl) ?_
      first | refine VX.meek rfl ?_ | refine VX.loadI rfl rfl au_l ?_ | refine VX.loadP rfl rfl rfl au_l ?_
      first | refine VX.meek rfl ?_ | refine VX.loadI rfl rfl au_l ?_ | refine VX.loadP rfl rfl rfl au_l ?_
      first | refine VX.meek rfl ?_ | refine VX.loadI rfl rfl au_l ?_ | refine VX.loadP rfl rfl rfl au_l ?_
      first | refine VX.meek rfl ?_ | refine VX.loadI rfl rfl au_l ?_ | refine VX.loadP rfl rfl rfl au_l ?_
      refine VX.callP0 rfl rfl rfl (cA) ?_
      first | refine VX.meek rfl ?_ | refine VX.loadI rfl rfl au_l ?_ | refine VX.loadP rfl rfl rfl au_l ?_
      first | refine VX.meek rfl ?_ | refine VX.loadI rfl rfl au_l ?_ | refine VX.loadP rfl rfl rfl au_l ?_
      first | refine VX.meek rfl ?_ | refine VX.loadI rfl rfl au_l ?_ | refine VX.loadP rfl rfl rfl au_l ?_
      refine VX.meek rfl ?_
      refine VX.callP0 rfl rfl rfl (cB) ?_
      first | refine VX.meek rfl ?_ | refine VX.loadI rfl rfl au_l ?_ | refine VX.loadP rfl rfl rfl au_l ?_
      first | refine VX.meek rfl ?_ | refine VX.loadI rfl rfl au_l ?_ | refine VX.loadP rfl rfl rfl au_l ?_
      first | refine VX.meek rfl ?_ | refine VX.loadI rfl rfl au_l ?_ | refine VX.loadP rfl rfl rfl au_l ?_
      first | refine VX.meek rfl ?_ | refine VX.loadI rfl rfl au_l ?_ | refine VX.loadP rfl rfl rfl au_l ?_
      refine VX.callP0 rfl rfl rfl (cD) ?_
      refine VX.newI rfl rfl ?_
      iterate 2 refine VX.meek rfl ?_
      refine VX.nil ?_
      refine VX.nil ?_
      refine VC.view ([(63, .islc (encL (cG w h) [A, B, D]) 3 none), (15, .ptr 0 0), (16, .ptr 1 0), (17, .ptr 2 0), (18, .ptr 3 0)]) ([.c [I64 w, I64 h, .islc (encL cU px) px.length none], .c (penC C), .c [.islc (encL cR (bandOf clip)) (bandOf clip).length none], .c [.islc (encL cR (bandOf l)) (bandOf l).length none]]) [2, 4, 6, 64, 65] rfl (by refine ⟨[some 0, some 1, some 2, some 3], rfl, by first | trivial | decide, rfl, ?_, ?_⟩ <;> (repeat' first | exact trivial | exact CvB_n | exact CvB_d | refine CvE_app ?_ ?_ | refine CvE_cons rfl ?_ ?_ | refine CvH_cons ?_ ?_ | refine CvB_c rfl ?_ | fail) <;> first | exact au_v | (first | exact CvL.eq rfl (penC_pu _) | exact cv_g (Cv.pure (encL_pure cU _)) | exact CvL.cons (Cv.pure (encL_pure cR _)) CvL.nil | exact Cv.islc (CvL.eq rfl (encL_pure (cG w h) _)) (.inr rfl))) ?_
      refine VC.block ?_
      refine VC.loopS (σ := Nat) (fun k => 3 - k) (fun k => k ≤ 3) (fun k => [(65, I64 k), (15, .ptr 0 0), (16, .ptr 1 0), (17, .ptr 2 0), (18, .ptr 3 0)]) (fun k => [.c [I64 w, I64 h, .islc (encL cU px) px.length none], .c (penC C), .c [.islc (encL cR (bandOf clip)) (bandOf clip).length none], .c [.islc (encL cR (bandOf l)) (bandOf l).length none]]) [2, 4, 6, 63, 64] rfl (0) ?_ ?_ ?_
      · refine ⟨[some 0, some 1, some 2, some 3], rfl, by first | trivial | decide, rfl, ?_, ?_⟩ <;> (repeat' first | exact trivial | exact CvB_n | exact CvB_d | refine CvE_app ?_ ?_ | refine CvE_cons rfl ?_ ?_ | refine CvH_cons ?_ ?_ | refine CvB_c rfl ?_ | fail) <;> first | exact au_v | (first | exact CvL.eq rfl (penC_pu _) | exact cv_g (Cv.pure (encL_pure cU _)) | exact CvL.cons (Cv.pure (encL_pure cR _)) CvL.nil)
      · (try dsimp only); omega
      rintro k hk
      refine VC.reg tab_ok [] rfl ?_
      refine VX.meek rfl ?_
      refine VX.nil ?_
      refine VC.seq ?_
      refine VC.cond rfl (fun hc2 => ?_) (fun hc2 => ?_)
      · (try simp only [au_std] at hc2); have hk3 : k < [A, B, D].length := (by show k < 3; omega); have hO := hall [A, B, D][k]! (List.mem_iff_getElem?.2 ⟨k, getE hk3⟩); obtain ⟨ha1, ha2, ha3⟩ := hO
        refine VC.skip ?_
        refine VC.seq ?_
        refine VC.block ?_
        refine VC.reg tab_ok [] rfl ?_
        first | refine VX.idxI rfl rfl rfl rfl rfl rfl (by omega) ?_ | refine VX.idxO0 rfl rfl rfl rfl rfl rfl rfl (by omega) ?_ | refine VX.idxO0 rfl rfl rfl rfl rfl rfl au_z (by omega) ?_ | refine VX.idxO rfl rfl rfl rfl rfl rfl rfl (by omega) ?_ | refine VX.idxI rfl rfl rfl rfl rfl au_z (by omega) ?_ | refine VX.idxO rfl rfl rfl rfl rfl rfl au_z (by omega) ?_ | refine VX.meek rfl ?_
        refine VX.loadI rfl rfl (encL_part0 (cG w h) (getE hk3) (Nat.le_refl 3) rfl) ?_
        refine VX.new rfl rfl ?_
        refine VX.store rfl rfl rfl rfl rfl au_sP rfl ?_
        refine VX.nil ?_
        generalize [A, B, D][k]! = a at *
        refine VC.reg tab_ok [] rfl ?_
        first | refine VX.meek rfl ?_ | refine VX.loadI rfl rfl au_l ?_ | refine VX.loadP rfl rfl rfl au_l ?_
        refine VX.callP0 rfl rfl rfl ((show CallP Tryz.prog 54 [gT w h px] (.tup [I64 w, I64 h]) from size_p ⟨w, h, px⟩)) ?_
        iterate 5 refine VX.meek rfl ?_
        refine VX.nil ?_
        refine VC.reg tab_ok [] rfl ?_
        first | refine VX.meek rfl ?_ | refine VX.loadI rfl rfl au_l ?_ | refine VX.loadP rfl rfl rfl au_l ?_
        refine VX.callP0 rfl rfl rfl ((show CallP Tryz.prog 54 [gT w h a] (.tup [I64 w, I64 h]) from size_p ⟨w, h, a⟩)) ?_
        iterate 5 refine VX.meek rfl ?_
        refine VX.nil ?_
        refine VC.seq ?_
        refine VC.reg tab_ok [] rfl ?_
        iterate 4 refine VX.meek rfl ?_
        refine' VX.merge (d := 86) [_, _, _, _] rfl ?_ rfl ?_
        rotate_left
        · refine VX.guard rfl rfl (fun hb12_3 => ?_) (fun hb12_3 => ?_)
          · have ghb12_3 := hb12_3
            try simp only [au_std, Bool.not_true, Bool.not_false] at ghb12_3
            refine VX.meek rfl ?_
            refine VX.guardT rfl rfl hb12_3 ?_
            refine VX.meek rfl ?_
            refine VX.guardT rfl rfl hb12_3 ?_
            refine VX.meek rfl ?_
            refine VX.pickO rfl (fun _ => rfl) ?_
            exact VX.nil ⟨rfl, rfl⟩
          · refine VX.guardF rfl rfl hb12_3 ?_
            refine VX.guardF rfl rfl hb12_3 ?_
            exact VX.pickO rfl (fun h => absurd (h.symm.trans hb12_3) (by decide)) (VX.nil ⟨rfl, rfl⟩)
        refine VX.nil ?_
        refine VC.cond rfl (fun hc3 => ?_) (fun hc3 => ?_)
        · exact absurd hc3 (by simp)
        · (try simp only [au_std] at hc3)
          refine VC.skip ?_
          refine VC.reg tab_ok [] rfl ?_
          refine VX.meek rfl ?_
          refine VX.nil ?_
          refine VC.block ?_
          refine VC.loopS (σ := Nat) (fun y => h - y) (fun y => y ≤ h) (fun y => [(25, I64 y), (20, .ptr 4 0), (15, .ptr 0 0), (16, .ptr 1 0), (17, .ptr 2 0), (18, .ptr 3 0)]) (fun y => [.c [I64 w, I64 h, .islc (encL cU px) px.length none], .c (penC C), .c [.islc (encL cR (bandOf clip)) (bandOf clip).length none], .c [.islc (encL cR (bandOf l)) (bandOf l).length none], .c [I64 w, I64 h, .islc (encL cU a) a.length none]]) [2, 4, 6, 21, 22, 63, 64, 65] rfl (0) ?_ ?_ ?_
          · refine ⟨[some 0, some 1, some 2, some 3, some 4], rfl, by first | trivial | decide, rfl, ?_, ?_⟩ <;> (repeat' first | exact trivial | exact CvB_n | exact CvB_d | refine CvE_app ?_ ?_ | refine CvE_cons rfl ?_ ?_ | refine CvH_cons ?_ ?_ | refine CvB_c rfl ?_ | fail) <;> first | exact au_v | (first | exact CvL.eq rfl (penC_pu _) | exact cv_g (Cv.pure (encL_pure cU _)) | exact CvL.cons (Cv.pure (encL_pure cR _)) CvL.nil)
          · (try dsimp only); omega
          rintro y hy
          refine VC.seq ?_
          refine VC.reg tab_ok [] rfl ?_
          iterate 3 refine VX.meek rfl ?_
          refine VX.nil ?_
          refine VC.cond rfl (fun hc4 => ?_) (fun hc4 => ?_)
          · (try simp only [au_std] at hc4); have hyl : y < h := (by omega)
            refine VC.skip ?_
            refine VC.seq ?_
            refine VC.block ?_
            refine VC.reg tab_ok [] rfl ?_
            refine VX.meek rfl ?_
            refine VX.nil ?_
            refine VC.block ?_
            refine VC.loopS (σ := Nat) (fun x => w - x) (fun x => x ≤ w) (fun x => [(26, I64 x), (20, .ptr 4 0), (15, .ptr 0 0), (16, .ptr 1 0), (17, .ptr 2 0), (18, .ptr 3 0)]) (fun x => [.c [I64 w, I64 h, .islc (encL cU px) px.length none], .c (penC C), .c [.islc (encL cR (bandOf clip)) (bandOf clip).length none], .c [.islc (encL cR (bandOf l)) (bandOf l).length none], .c [I64 w, I64 h, .islc (encL cU a) a.length none]]) [2, 4, 6, 21, 22, 25, 63, 64, 65] rfl (0) ?_ ?_ ?_
            · refine ⟨[some 0, some 1, some 2, some 3, some 4], rfl, by first | trivial | decide, rfl, ?_, ?_⟩ <;> (repeat' first | exact trivial | exact CvB_n | exact CvB_d | refine CvE_app ?_ ?_ | refine CvE_cons rfl ?_ ?_ | refine CvH_cons ?_ ?_ | refine CvB_c rfl ?_ | fail) <;> first | exact au_v | (first | exact CvL.eq rfl (penC_pu _) | exact cv_g (Cv.pure (encL_pure cU _)) | exact CvL.cons (Cv.pure (encL_pure cR _)) CvL.nil)
            · (try dsimp only); omega
            rintro x hx
            refine VC.seq ?_
            refine VC.reg tab_ok [] rfl ?_
            iterate 3 refine VX.meek rfl ?_
            refine VX.nil ?_
            refine VC.cond rfl (fun hc5 => ?_) (fun hc5 => ?_)
            · (try simp only [au_std] at hc5); have hxl : x < w := (by omega); have ht := ha3 x y (by omega) (by omega) (by omega) (by omega); have hat : atG w h a x y = a[((y : Int) * w + x).toNat]! := if_pos (inB_iff.2 ⟨by omega, by omega, by omega, by omega⟩); have hpt : atG w h px x y = px[((y : Int) * w + x).toNat]! := if_pos (inB_iff.2 ⟨by omega, by omega, by omega, by omega⟩); rw [← hat, ← hpt] at ht; obtain ⟨ht1, ht2⟩ := ht
              refine VC.skip ?_
              refine VC.seq ?_
              refine VC.block ?_
              refine VC.drw tab_ok [] [_, _, _, _, _, _, _, _, _, _, _, _, _, _, _, _, _, _, _, _, _, _, _, _, _, _, _, _, _, _, _, _, _, _, _, _, _, _] rfl (by kernel_rfl) (by kernel_rfl) ?_
              first | refine VX.meek rfl ?_ | refine VX.loadI rfl rfl au_l ?_ | refine VX.loadP rfl rfl rfl au_l ?_
              iterate 2 refine VX.meek rfl ?_
              refine VX.callP0 rfl rfl rfl (gat_p w h a x y hw.2 hh.2 ha1 ha2) ?_
              iterate 2 refine VX.meek rfl ?_
              first | refine VX.meek rfl ?_ | refine VX.loadI rfl rfl au_l ?_ | refine VX.loadP rfl rfl rfl au_l ?_
              iterate 2 refine VX.meek rfl ?_
              refine VX.callP0 rfl rfl rfl (gat_p w h px x y hw.2 hh.2 hl hb) ?_
              iterate 4 refine VX.meek rfl ?_
              refine' VX.merge (d := 134) [_, _, _, _, _, _, _, _, _, _, _, _, _, _, _, _, _, _, _, _, _, _, _, _] rfl ?_ rfl ?_
              rotate_left
              · refine VX.guard rfl rfl (fun hb20_13 => ?_) (fun hb20_13 => ?_)
                · have ghb20_13 := hb20_13
                  try simp only [au_std, Bool.not_true, Bool.not_false] at ghb20_13
                  first | refine VX.meek rfl ?_ | refine VX.loadI rfl rfl au_l ?_ | refine VX.loadP rfl rfl rfl au_l ?_
                  refine VX.guardT rfl rfl hb20_13 ?_
                  refine VX.meek rfl ?_
                  refine VX.guardT rfl rfl hb20_13 ?_
                  refine VX.meek rfl ?_
                  refine VX.guardT rfl rfl hb20_13 ?_
                  refine VX.callP0 rfl rfl rfl (gat_p w h a x y hw.2 hh.2 ha1 ha2) ?_
                  refine VX.guardT rfl rfl hb20_13 ?_
                  first | refine VX.meek rfl ?_ | refine VX.loadI rfl rfl au_l ?_ | refine VX.loadP rfl rfl rfl au_l ?_
                  refine VX.guardT rfl rfl hb20_13 ?_
                  refine VX.meek rfl ?_
                  refine VX.guardT rfl rfl hb20_13 ?_
                  refine VX.meek rfl ?_
                  refine VX.guardT rfl rfl hb20_13 ?_
                  refine VX.callP0 rfl rfl rfl (gat_p w h px x y hw.2 hh.2 hl hb) ?_
                  refine VX.guardT rfl rfl hb20_13 ?_
                  refine VX.meek rfl ?_
                  refine VX.guardT rfl rfl hb20_13 ?_
                  refine VX.meek rfl ?_
                  refine' VX.merge (d := 133) [_, _, _, _, _, _, _, _, _, _, _, _, _] rfl ?_ rfl ?_
                  rotate_left
                  · refine VX.guard rfl rfl (fun hb20_23 => ?_) (fun hb20_23 => ?_)
                    · have ghb20_23 := hb20_23
                      try simp only [au_std, Bool.not_true, Bool.not_false] at ghb20_23
                      first | refine VX.meek rfl ?_ | refine VX.loadI rfl rfl au_l ?_ | refine VX.loadP rfl rfl rfl au_l ?_
                      refine VX.guardT rfl rfl hb20_23 ?_
                      refine VX.meek rfl ?_
                      refine VX.guardT rfl rfl hb20_23 ?_
                      refine VX.meek rfl ?_
                      refine VX.guardT rfl rfl hb20_23 ?_
                      refine VX.callP0 rfl rfl rfl (has_p (bandOf clip) (bandOf_canon clip) (bandOf_rok clip) hbl x y) ?_
                      refine VX.guardT rfl rfl hb20_23 ?_
                      refine VX.meek rfl ?_
                      refine VX.guardT rfl rfl hb20_23 ?_
                      refine VX.meek rfl ?_
                      refine' VX.merge (d := 132) [_, _, _, _, _, _] rfl ?_ rfl ?_
                      rotate_left
                      · refine VX.guard rfl rfl (fun hb20_29 => ?_) (fun hb20_29 => ?_)
                        · have ghb20_29 := hb20_29
                          try simp only [au_std, Bool.not_true, Bool.not_false] at ghb20_29
                          first | refine VX.meek rfl ?_ | refine VX.loadI rfl rfl au_l ?_ | refine VX.loadP rfl rfl rfl au_l ?_
                          refine VX.guardT rfl rfl hb20_29 ?_
                          refine VX.meek rfl ?_
                          refine VX.guardT rfl rfl hb20_29 ?_
                          refine VX.meek rfl ?_
                          refine VX.guardT rfl rfl hb20_29 ?_
                          refine VX.callP0 rfl rfl rfl (has_p (bandOf l) (bandOf_canon l) (bandOf_rok l) hbl2 x y) ?_
                          refine VX.guardT rfl rfl hb20_29 ?_
                          refine VX.meek rfl ?_
                          refine VX.guardT rfl rfl hb20_23 ?_
                          refine VX.pickO rfl (fun _ => rfl) ?_
                          exact VX.nil ⟨rfl, rfl⟩
                        · refine VX.guardF rfl rfl hb20_29 ?_
                          refine VX.guardF rfl rfl hb20_29 ?_
                          refine VX.guardF rfl rfl hb20_29 ?_
                          refine VX.guardF rfl rfl hb20_29 ?_
                          refine VX.guardT rfl rfl hb20_23 ?_
                          exact VX.pickO rfl (fun h => absurd (h.symm.trans hb20_29) (by decide)) (VX.nil ⟨rfl, rfl⟩)
                      refine VX.guardT rfl rfl hb20_13 ?_
                      refine VX.pickA rfl (fun _ => rfl) ?_
                      exact VX.nil ⟨rfl, rfl⟩
                    · refine VX.guardF rfl rfl hb20_23 ?_
                      refine VX.guardF rfl rfl hb20_23 ?_
                      refine VX.guardF rfl rfl hb20_23 ?_
                      refine VX.guardF rfl rfl hb20_23 ?_
                      refine VX.guardF rfl rfl hb20_23 ?_
                      refine VX.guardU rfl rfl ?_
                      refine VX.guardU rfl rfl ?_
                      refine VX.guardU rfl rfl ?_
                      refine VX.guardU rfl rfl ?_
                      refine VX.guardU rfl rfl ?_
                      refine VX.guardF rfl rfl hb20_23 ?_
                      refine VX.guardT rfl rfl hb20_13 ?_
                      exact VX.pickA rfl (fun h => absurd (h.symm.trans hb20_23) (by decide)) (VX.nil ⟨rfl, rfl⟩)
                  refine VX.pickO rfl (fun _ => rfl) ?_
                  exact VX.nil ⟨rfl, rfl⟩
                · refine VX.guardF rfl rfl hb20_13 ?_
                  refine VX.guardF rfl rfl hb20_13 ?_
                  refine VX.guardF rfl rfl hb20_13 ?_
                  refine VX.guardF rfl rfl hb20_13 ?_
                  refine VX.guardF rfl rfl hb20_13 ?_
                  refine VX.guardF rfl rfl hb20_13 ?_
                  refine VX.guardF rfl rfl hb20_13 ?_
                  refine VX.guardF rfl rfl hb20_13 ?_
                  refine VX.guardF rfl rfl hb20_13 ?_
                  refine VX.guardU rfl rfl ?_
                  refine VX.guardU rfl rfl ?_
                  refine VX.guardU rfl rfl ?_
                  refine VX.guardU rfl rfl ?_
                  refine VX.guardU rfl rfl ?_
                  refine VX.guardU rfl rfl ?_
                  refine VX.guardU rfl rfl ?_
                  refine VX.guardU rfl rfl ?_
                  refine VX.guardU rfl rfl ?_
                  refine VX.guardU rfl rfl ?_
                  refine VX.guardU rfl rfl ?_
                  refine VX.guardU rfl rfl ?_
                  refine VX.guardF rfl rfl hb20_13 ?_
                  exact VX.pickO rfl (fun h => absurd (h.symm.trans hb20_13) (by decide)) (VX.nil ⟨rfl, rfl⟩)
              refine VX.nil ?_
              refine VX.nil ?_
              refine VC.cond rfl (fun hc6 => ?_) (fun hc6 => ?_)
              · exfalso; simp only [bne_iff_ne, ne_eq, Bool.or_eq_true, Bool.and_eq_true, Bool.not_eq_true', decide_eq_false_iff_not] at hc6; rcases hc6 with hc6 | ⟨h7, h8⟩; exact hc6 ht1; (have h9 := ht2 h7; rcases h8 with h8 | h8; exact h8 h9.1; exact h8 h9.2)
              · (try simp only [au_std] at hc6)
                refine VC.skip ?_
                refine VC.regN tab_ok [] rfl ?_
                refine VX.meek rfl ?_
                first | refine VX.add rfl rfl (by omega) ?_ | refine VX.meek rfl ?_
                refine VX.meek rfl ?_
                refine VX.nil ?_
                refine ⟨x + 1, by (try dsimp only); omega, ?_, (by refine ⟨[some 0, some 1, some 2, some 3, some 4], rfl, by first | trivial | decide, rfl, ?_, ?_⟩ <;> (repeat' first | exact trivial | exact CvB_n | exact CvB_d | refine CvE_app ?_ ?_ | refine CvE_cons rfl ?_ ?_ | refine CvH_cons ?_ ?_ | refine CvB_c rfl ?_ | fail) <;> first | exact au_v | (first | exact CvL.eq rfl (penC_pu _) | exact cv_g (Cv.pure (encL_pure cU _)) | exact CvL.cons (Cv.pure (encL_pure cR _)) CvL.nil))⟩
                (try dsimp only); omega
            · (try simp only [au_std] at hc5)
              refine VC.exit ?_
              refine VC.regN tab_ok [] rfl ?_
              refine VX.meek rfl ?_
              first | refine VX.add rfl rfl (by omega) ?_ | refine VX.meek rfl ?_
              refine VX.meek rfl ?_
              refine VX.nil ?_
              refine ⟨y + 1, by (try dsimp only); omega, ?_, (by refine ⟨[some 0, some 1, some 2, some 3, some 4], rfl, by first | trivial | decide, rfl, ?_, ?_⟩ <;> (repeat' first | exact trivial | exact CvB_n | exact CvB_d | refine CvE_app ?_ ?_ | refine CvE_cons rfl ?_ ?_ | refine CvH_cons ?_ ?_ | refine CvB_c rfl ?_ | fail) <;> first | exact au_v | (first | exact CvL.eq rfl (penC_pu _) | exact cv_g (Cv.pure (encL_pure cU _)) | exact CvL.cons (Cv.pure (encL_pure cR _)) CvL.nil))⟩
              (try dsimp only); omega
          · (try simp only [au_std] at hc4)
            refine VC.exit ?_
            refine VC.regN tab_ok [] rfl ?_
            first | refine VX.add rfl rfl (by omega) ?_ | refine VX.meek rfl ?_
            refine VX.meek rfl ?_
            refine VX.nil ?_
            refine ⟨k + 1, by (try dsimp only); omega, ?_, (by refine ⟨[some 0, some 1, some 2, some 3], rfl, by first | trivial | decide, rfl, ?_, ?_⟩ <;> (repeat' first | exact trivial | exact CvB_n | exact CvB_d | refine CvE_app ?_ ?_ | refine CvE_cons rfl ?_ ?_ | refine CvH_cons ?_ ?_ | refine CvB_c rfl ?_ | fail) <;> first | exact au_v | (first | exact CvL.eq rfl (penC_pu _) | exact cv_g (Cv.pure (encL_pure cU _)) | exact CvL.cons (Cv.pure (encL_pure cR _)) CvL.nil))⟩
            (try dsimp only); omega
      · (try simp only [au_std] at hc2)
        refine VC.exit ?_
        refine VC.seq ?_
        refine VC.reg tab_ok [] rfl ?_
        iterate 3 refine VX.meek rfl ?_
        refine' VX.merge (d := 141) [_, _, _] rfl ?_ rfl ?_
        rotate_left
        · refine VX.guard rfl rfl (fun hb23_2 => ?_) (fun hb23_2 => ?_)
          · have ghb23_2 := hb23_2
            try simp only [au_std, Bool.not_true, Bool.not_false] at ghb23_2
            refine VX.meek rfl ?_
            refine VX.guardT rfl rfl hb23_2 ?_
            refine VX.meek rfl ?_
            refine VX.pickA rfl (fun _ => rfl) ?_
            exact VX.nil ⟨rfl, rfl⟩
          · refine VX.guardF rfl rfl hb23_2 ?_
            exact VX.pickA rfl (fun h => absurd (h.symm.trans hb23_2) (by decide)) (VX.nil ⟨rfl, rfl⟩)
        refine VX.nil ?_
        refine VC.cond rfl (fun hc7 => ?_) (fun hc7 => ?_)
        · (try simp only [au_std] at hc7)
          refine VC.reg tab_ok [] rfl ?_
          refine VX.meek rfl ?_
          refine VX.nil ?_
          refine VC.ret ?_
          exact ⟨trivial, _, rfl, Cv.eq (by first | rfl | (simp [*]; done)) rfl⟩
        · have hbad : ropKnown ({ C with f := wrong } : PenS).f = false := (by simpa [ropKnown] using hc7)
          refine VC.skip ?_
          refine VC.reg tab_ok [] rfl ?_
          iterate 2 refine VX.meek rfl ?_
          refine VX.store rfl rfl rfl rfl rfl au_sP rfl ?_
          refine VX.nil ?_
          refine VC.drw tab_ok [165] [_, _, _, _, _, _, _, _, _, _, _, _, _, _, _, _, _, _, _, _, _, _, _, _, _, _, _, _, _, _, _, _, _, _, _, _] rfl (by kernel_rfl) (by kernel_rfl) ?_
          first | refine VX.meek rfl ?_ | refine VX.loadI rfl rfl au_l ?_ | refine VX.loadP rfl rfl rfl au_l ?_
          first | refine VX.meek rfl ?_ | refine VX.loadI rfl rfl au_l ?_ | refine VX.loadP rfl rfl rfl au_l ?_
          first | refine VX.meek rfl ?_ | refine VX.loadI rfl rfl au_l ?_ | refine VX.loadP rfl rfl rfl au_l ?_
          first | refine VX.meek rfl ?_ | refine VX.loadI rfl rfl au_l ?_ | refine VX.loadP rfl rfl rfl au_l ?_
          refine VX.callP0 rfl rfl rfl (region_w w h px px (bandOf clip) (bandOf l) { C with f := wrong } (with_bad w h px (bandOf clip) (bandOf l) { C with f := wrong } C.fo hbad)) ?_
          first | refine VX.meek rfl ?_ | refine VX.loadI rfl rfl au_l ?_ | refine VX.loadP rfl rfl rfl au_l ?_
          refine VX.callP0 rfl rfl rfl (gsame_r w h px px hw.2 hh.2 hl hl hb hb rfl) ?_
          refine VX.meek rfl ?_
          refine' VX.merge (d := 159) [_, _, _, _, _, _, _, _] rfl ?_ rfl ?_
          rotate_left
          · refine VX.guard rfl rfl (fun hb26_7 => ?_) (fun hb26_7 => ?_)
            · have ghb26_7 := hb26_7
              try simp only [au_std, Bool.not_true, Bool.not_false] at ghb26_7
              first | refine VX.meek rfl ?_ | refine VX.loadI rfl rfl au_l ?_ | refine VX.loadP rfl rfl rfl au_l ?_
              refine VX.guardT rfl rfl hb26_7 ?_
              first | refine VX.meek rfl ?_ | refine VX.loadI rfl rfl au_l ?_ | refine VX.loadP rfl rfl rfl au_l ?_
              refine VX.guardT rfl rfl hb26_7 ?_
              first | refine VX.meek rfl ?_ | refine VX.loadI rfl rfl au_l ?_ | refine VX.loadP rfl rfl rfl au_l ?_
              refine VX.guardT rfl rfl hb26_7 ?_
              refine VX.meek rfl ?_
              refine VX.guardT rfl rfl hb26_7 ?_
              refine VX.callP0 rfl rfl rfl (rects_bad w h px (bandOf clip) (.islc (encL cR l) l.length none) au_pu { C with f := wrong } hbad) ?_
              refine VX.guardT rfl rfl hb26_7 ?_
              first | refine VX.meek rfl ?_ | refine VX.loadI rfl rfl au_l ?_ | refine VX.loadP rfl rfl rfl au_l ?_
              refine VX.guardT rfl rfl hb26_7 ?_
              refine VX.callP0 rfl rfl rfl (gsame_r w h px px hw.2 hh.2 hl hl hb hb rfl) ?_
              refine VX.pickA rfl (fun _ => rfl) ?_
              exact VX.nil ⟨rfl, rfl⟩
            · refine VX.guardF rfl rfl hb26_7 ?_
              refine VX.guardF rfl rfl hb26_7 ?_
              refine VX.guardF rfl rfl hb26_7 ?_
              refine VX.guardF rfl rfl hb26_7 ?_
              refine VX.guardF rfl rfl hb26_7 ?_
              refine VX.guardF rfl rfl hb26_7 ?_
              exact VX.pickA rfl (fun h => absurd (h.symm.trans hb26_7) (by decide)) (VX.nil ⟨rfl, rfl⟩)
          refine VX.meek rfl ?_
          refine' VX.merge (d := 169) [_, _, _, _, _, _, _, _, _] rfl ?_ rfl ?_
          rotate_left
          · refine VX.guard rfl rfl (fun hb26_16 => ?_) (fun hb26_16 => ?_)
            · have ghb26_16 := hb26_16
              try simp only [au_std, Bool.not_true, Bool.not_false] at ghb26_16
              first | refine VX.meek rfl ?_ | refine VX.loadI rfl rfl au_l ?_ | refine VX.loadP rfl rfl rfl au_l ?_
              refine VX.guardT rfl rfl hb26_16 ?_
              first | refine VX.meek rfl ?_ | refine VX.loadI rfl rfl au_l ?_ | refine VX.loadP rfl rfl rfl au_l ?_
              refine VX.guardT rfl rfl hb26_16 ?_
              first | refine VX.meek rfl ?_ | refine VX.loadI rfl rfl au_l ?_ | refine VX.loadP rfl rfl rfl au_l ?_
              refine VX.guardT rfl rfl hb26_16 ?_
              refine VX.meek rfl ?_
              refine VX.guardT rfl rfl hb26_16 ?_
              refine VX.newI rfl rfl ?_
              refine VX.guardT rfl rfl hb26_16 ?_
              refine VX.callP0 rfl rfl rfl (points_bad w h px (bandOf clip) _ au_pu { C with f := wrong } hbad) ?_
              refine VX.guardT rfl rfl hb26_16 ?_
              first | refine VX.meek rfl ?_ | refine VX.loadI rfl rfl au_l ?_ | refine VX.loadP rfl rfl rfl au_l ?_
              refine VX.guardT rfl rfl hb26_16 ?_
              refine VX.callP0 rfl rfl rfl (gsame_r w h px px hw.2 hh.2 hl hl hb hb rfl) ?_
              refine VX.pickA rfl (fun _ => rfl) ?_
              exact VX.nil ⟨rfl, rfl⟩
            · refine VX.guardF rfl rfl hb26_16 ?_
              refine VX.guardF rfl rfl hb26_16 ?_
              refine VX.guardF rfl rfl hb26_16 ?_
              refine VX.guardF rfl rfl hb26_16 ?_
              refine VX.guardF rfl rfl hb26_16 ?_
              refine VX.guardF rfl rfl hb26_16 ?_
              refine VX.guardF rfl rfl hb26_16 ?_
              exact VX.pickA rfl (fun h => absurd (h.symm.trans hb26_16) (by decide)) (VX.nil ⟨rfl, rfl⟩)
          refine VX.meek rfl ?_
          refine' VX.merge (d := 178) [_, _, _, _, _, _, _, _] rfl ?_ rfl ?_
          rotate_left
          · refine VX.guard rfl rfl (fun hb26_26 => ?_) (fun hb26_26 => ?_)
            · have ghb26_26 := hb26_26
              try simp only [au_std, Bool.not_true, Bool.not_false] at ghb26_26
              first | refine VX.meek rfl ?_ | refine VX.loadI rfl rfl au_l ?_ | refine VX.loadP rfl rfl rfl au_l ?_
              refine VX.guardT rfl rfl hb26_26 ?_
              first | refine VX.meek rfl ?_ | refine VX.loadI rfl rfl au_l ?_ | refine VX.loadP rfl rfl rfl au_l ?_
              refine VX.guardT rfl rfl hb26_26 ?_
              first | refine VX.meek rfl ?_ | refine VX.loadI rfl rfl au_l ?_ | refine VX.loadP rfl rfl rfl au_l ?_
              refine VX.guardT rfl rfl hb26_26 ?_
              first | refine VX.meek rfl ?_ | refine VX.loadI rfl rfl au_l ?_ | refine VX.loadP rfl rfl rfl au_l ?_
              refine VX.guardT rfl rfl hb26_26 ?_
              refine VX.callP0 rfl rfl rfl (back_w w h px px (bandOf clip) (bandOf l) { C with f := wrong } (with_bad w h px (bandOf clip) (bandOf l) { C with f := wrong } C.ba hbad)) ?_
              refine VX.guardT rfl rfl hb26_26 ?_
              first | refine VX.meek rfl ?_ | refine VX.loadI rfl rfl au_l ?_ | refine VX.loadP rfl rfl rfl au_l ?_
              refine VX.guardT rfl rfl hb26_26 ?_
              refine VX.callP0 rfl rfl rfl (gsame_r w h px px hw.2 hh.2 hl hl hb hb rfl) ?_
              refine VX.pickA rfl (fun _ => rfl) ?_
              exact VX.nil ⟨rfl, rfl⟩
            · refine VX.guardF rfl rfl hb26_26 ?_
              refine VX.guardF rfl rfl hb26_26 ?_
              refine VX.guardF rfl rfl hb26_26 ?_
              refine VX.guardF rfl rfl hb26_26 ?_
              refine VX.guardF rfl rfl hb26_26 ?_
              refine VX.guardF rfl rfl hb26_26 ?_
              exact VX.pickA rfl (fun h => absurd (h.symm.trans hb26_26) (by decide)) (VX.nil ⟨rfl, rfl⟩)
          refine VX.meek rfl ?_
          refine VX.nil ?_
          refine VX.nil ?_
          refine VC.ret ?_
          exact ⟨trivial, _, rfl, Cv.eq (by first | rfl | (simp [*]; done)) rfl⟩
end
section
open Go.ChangeShapes Go.WideShapes Go.ChangeAt Go.RowKit Go.WideElems
def rowed (P : Program) (ts : List TypeId) : Bool := ts.all fun t => P.readableRec t && decide (t < P.types.size)
theorem trodAll_below {H : Type} {enc : TypeId × Value → H} {P : Program} (hl : laidOutB P = true) {W W' : World} (hb : Below W.heap.size W W') :
    ∀ {ts : List TypeId} {vs : List Value} {ds : List (DataW H)} {p : List MemPlace}, rowed P ts = true → (∀ x ∈ p, x.block < W.heap.size) →
      DataW.TrodAll enc P W 0 (fun _ => true) true ts vs ds p → DataW.TrodAll enc P W' 0 (fun b => decide (b < W.heap.size)) true ts vs ds p
  | [], _, _, _, _, _, h => by
    obtain ⟨rfl, rfl, rfl⟩ := trodAll_nil h
    exact trodAll_mk0
  | t :: ts, _, _, _, hr, hlt, h => by
    obtain ⟨v, vs1, d, ds1, a, b, rfl, rfl, rfl, h1, h2⟩ := trodAll_cons h
    simp only [rowed, List.all_cons, Bool.and_eq_true, decide_eq_true_eq] at hr
    refine trodAll_cons_mk (Below.trod hl hr.1.1 hr.1.2 h1 hb (fun x hx => hlt x (by simp [hx]))) ?_
    exact trodAll_below hl hb (by simpa [rowed] using hr.2) (fun x hx => hlt x (by simp [hx])) h2
theorem post_law {H : Type} {enc : TypeId × Value → H} {P : Program} {f : Func} {s : ChangeSpec} {W W' : World} {args : Array Value} {ds gs : List (DataW H)} {before : List MemPlace} {tb : TypeId}
    (hl : laidOutB P = true) (hps : rowed P f.params.toList = true) (hvs : varsRowed P s.vars = true) (hres : f.resultTypes = #[tb]) (htb : P.underlying tb = some .bool)
    (hW : DataW.Whole enc P f.params.toList s.vars false W args.toList ds gs before)
    (h1 : (s.fn H (ds ++ gs)).results = [.lit (.bool true)]) (h2 : (s.fn H (ds ++ gs)).args = ds) (h3 : (s.fn H (ds ++ gs)).vars = gs)
    (hb : Below W.heap.size W W') : s.post enc P f false true false false W args (.bool true) W' := by
  have hlt := hW.lt
  have hW' := hW
  obtain ⟨p, q, hA, hV, rfl, hfz, hnd⟩ := hW
  refine ⟨ds, gs, p ++ q, [], p, q, hW', ?_, ?_, ?_, hb.frame _, fun h => by cases h⟩
  · rw [h1, hres]
    exact trodAll_cons_mk (shut_bool htb true) trodAll_mk0
  · rw [h2]
    exact trodAll_below hl hb hps (fun x hx => hlt x (by simp [hx])) hA
  · rw [h3]
    exact Below.trodVars hl hb hvs hV
end
end Go.Proofs.YtelhkfdpkjkpjaaGreat
