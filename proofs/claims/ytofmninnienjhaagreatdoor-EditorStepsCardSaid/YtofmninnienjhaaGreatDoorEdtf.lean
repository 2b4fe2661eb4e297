/-
  The proof's lemmas, part 6.
-/
import Derived.Test.YtofmninnienjhaaGreatDoorEdte
import Derived.LaidSub
import Derived.MakeChecks
import Derived.OpenVars
import Derived.Carry
namespace Go.Proofs.YtofmninnienjhaaGreatDoor
set_option linter.unusedSimpArgs false
set_option linter.unusedVariables false

section
open Go.RowKit
set_option maxRecDepth 100000
set_option maxHeartbeats 2000000
def newX (c w h : Int) (s : List UInt8) : Int:=if c < 1∨8 < c then 1 else if w < 4∨128 < w∨h < 6∨128 < h then 17 else if 4096 < s.length then 4 else if rightB s = false then 2 else 0
def zeroEd : Ed:=⟨⟨0,0,⟨[],[],[]⟩,[]⟩,false,0,0,0,0,0,0,0,0,0⟩
theorem out57 {v : Vw} {cs : List T} (h : cs = rxCs zeroEd.R NIL NIL) : Cv v (.agg cs) (rxT zeroEd.R):=by
 subst h
 exact Cv.agg (CvL.rx (Cv.nil _ (.inl rfl)) (Cv.nil _ (.inl rfl)))
theorem newR_no (c w h : Int) (s : List UInt8) (hs : s.length≤100000) (hx : newX c w h s≠0) : CallP Tryz.prog 30 [I64 c,I64 w,I64 h,strT s] (.tup [rxT zeroEd.R,I64 (newX c w h s)]):=by
 have hri:=zb0 s hs
 unfold newX at *
 refine CallP.intro2 z5 z5 ?_;refine CallT.intro zc Tryz.func30 rfl (by kernel_rfl) (Nat.le_of_ble_eq_true rfl) ?_;refine zf zc [] rfl ?_;refine yc rfl rfl ?_;refine za rfl ?_;refine zb ?_;refine zn ?_;refine zf zc [] rfl ?_;iterate 3 refine za rfl ?_
 refine' zu (d:=15) [_,_,_] rfl ?_ rfl ?_
 rotate_left
 ·refine zt rfl rfl (fun hb1_2=>?_) (fun hb1_2=>?_)
  ·have ghb1_2:=hb1_2
   try simp only [zh,Bool.not_true,Bool.not_false] at ghb1_2
   refine za rfl ?_;refine zg rfl rfl hb1_2 ?_;refine za rfl ?_;refine zr rfl (fun _=>rfl) ?_;exact zb ⟨rfl,rfl⟩
  ·refine zl rfl rfl hb1_2 ?_;exact zr rfl (fun h=>absurd (h.symm.trans hb1_2) (by decide)) (zb ⟨rfl,rfl⟩)
 refine zb ?_;refine zm rfl (fun hc0=>?_) (fun hc0=>?_)
 ·(try simp only [zh] at hc0);rw [if_pos (by omega)]
  refine zf zc [] rfl ?_;refine za rfl ?_;refine zk rfl rfl rfl rfl rfl yh rfl ?_;refine za rfl ?_;refine zb ?_;refine zq ?_;exact ⟨trivial,_,rfl,Cv.tup (CvL.cons (out57 rfl) (CvL.cons (Cv.pure rfl) CvL.nil))⟩
 ·(try simp only [zh] at hc0);rw [if_neg (by omega)] at hx ⊢
  refine zo ?_;refine zn ?_;refine zf zc [] rfl ?_;iterate 3 refine za rfl ?_
  refine' zu (d:=22) [_,_,_] rfl ?_ rfl ?_
  rotate_left
  ·refine zt rfl rfl (fun hb3_2=>?_) (fun hb3_2=>?_)
   ·have ghb3_2:=hb3_2
    try simp only [zh,Bool.not_true,Bool.not_false] at ghb3_2
    refine za rfl ?_;refine zg rfl rfl hb3_2 ?_;refine za rfl ?_;refine zr rfl (fun _=>rfl) ?_;exact zb ⟨rfl,rfl⟩
   ·refine zl rfl rfl hb3_2 ?_;exact zr rfl (fun h=>absurd (h.symm.trans hb3_2) (by decide)) (zb ⟨rfl,rfl⟩)
  refine za rfl ?_;refine' zu (d:=26) [_,_,_] rfl ?_ rfl ?_
  rotate_left
  ·refine zt rfl rfl (fun hb3_6=>?_) (fun hb3_6=>?_)
   ·have ghb3_6:=hb3_6
    try simp only [zh,Bool.not_true,Bool.not_false] at ghb3_6
    refine za rfl ?_;refine zg rfl rfl hb3_6 ?_;refine za rfl ?_;refine zr rfl (fun _=>rfl) ?_;exact zb ⟨rfl,rfl⟩
   ·refine zl rfl rfl hb3_6 ?_;exact zr rfl (fun h=>absurd (h.symm.trans hb3_6) (by decide)) (zb ⟨rfl,rfl⟩)
  refine za rfl ?_;refine' zu (d:=30) [_,_,_] rfl ?_ rfl ?_
  rotate_left
  ·refine zt rfl rfl (fun hb3_10=>?_) (fun hb3_10=>?_)
   ·have ghb3_10:=hb3_10
    try simp only [zh,Bool.not_true,Bool.not_false] at ghb3_10
    refine za rfl ?_;refine zg rfl rfl hb3_10 ?_;refine za rfl ?_;refine zr rfl (fun _=>rfl) ?_;exact zb ⟨rfl,rfl⟩
   ·refine zl rfl rfl hb3_10 ?_;exact zr rfl (fun h=>absurd (h.symm.trans hb3_10) (by decide)) (zb ⟨rfl,rfl⟩)
  refine zb ?_;refine zm rfl (fun hc1=>?_) (fun hc1=>?_)
  ·(try simp only [zh] at hc1);rw [if_pos (by omega)]
   refine zf zc [] rfl ?_;refine za rfl ?_;refine zk rfl rfl rfl rfl rfl yh rfl ?_;refine za rfl ?_;refine zb ?_;refine zq ?_;exact ⟨trivial,_,rfl,Cv.tup (CvL.cons (out57 rfl) (CvL.cons (Cv.pure rfl) CvL.nil))⟩
  ·(try simp only [zh] at hc1);rw [if_neg (by omega)] at hx ⊢
   refine zo ?_;refine zn ?_;refine zf zc [] rfl ?_;refine za rfl ?_;refine za (t:=I64 (s.length : Nat)) rfl ?_;refine za rfl ?_;refine zb ?_;refine zm rfl (fun hc2=>?_) (fun hc2=>?_)
   ·(try simp only [zh] at hc2);rw [if_pos (by omega)]
    refine zf zc [] rfl ?_;refine za rfl ?_;refine zk rfl rfl rfl rfl rfl yh rfl ?_;refine za rfl ?_;refine zb ?_;refine zq ?_;exact ⟨trivial,_,rfl,Cv.tup (CvL.cons (out57 rfl) (CvL.cons (Cv.pure rfl) CvL.nil))⟩
   ·(try simp only [zh] at hc2);rw [if_neg (by omega)] at hx ⊢
    refine zo ?_;refine zn ?_;refine zf zc [] rfl ?_;refine za rfl ?_;refine zi rfl rfl rfl (hri) ?_;refine za rfl ?_;refine zb ?_;refine zm rfl (fun hc3=>?_) (fun hc3=>?_)
    ·(try simp only [zh] at hc3);rw [if_pos (by simpa using hc3)]
     refine zf zc [] rfl ?_;refine za rfl ?_;refine zk rfl rfl rfl rfl rfl yh rfl ?_;refine za rfl ?_;refine zb ?_;refine zq ?_;exact ⟨trivial,_,rfl,Cv.tup (CvL.cons (out57 rfl) (CvL.cons (Cv.pure rfl) CvL.nil))⟩
    ·(try simp only [zh] at hc3);rw [if_neg (by simpa using hc3)] at hx;exact absurd rfl hx
theorem zjw (c b : Nat) (hB : c * 1048576 = b) (w h : Int) (s : List UInt8) (h1 : 1≤c) (h2 : c≤8) (hw : 4≤w∧w≤128∧6≤h∧h≤128) (hs : s.length≤4096) (hr : rightB s = true) : CallP Tryz.prog 30 [I64 c,I64 w,I64 h,strT s] (.tup [rxT (newEd b w h s).R,I64 0]):=by
 have hri:=zb0 s (by omega)
 rw [hr] at hri
 have e1 : (c : Int) * 1048576 = (b : Int):=by omega
 refine CallP.intro2 z5 z5 ?_;refine CallT.intro zc Tryz.func30 rfl (by kernel_rfl) (Nat.le_of_ble_eq_true rfl) ?_;refine zf zc [] rfl ?_;refine yc rfl rfl ?_;refine za rfl ?_;refine zb ?_;refine zn ?_;refine zf zc [] rfl ?_;iterate 3 refine za rfl ?_
 refine' zu (d:=15) [_,_,_] rfl ?_ rfl ?_
 rotate_left
 ·refine zt rfl rfl (fun hb1_2=>?_) (fun hb1_2=>?_)
  ·have ghb1_2:=hb1_2
   try simp only [zh,Bool.not_true,Bool.not_false] at ghb1_2
   refine za rfl ?_;refine zg rfl rfl hb1_2 ?_;refine za rfl ?_;refine zr rfl (fun _=>rfl) ?_;exact zb ⟨rfl,rfl⟩
  ·refine zl rfl rfl hb1_2 ?_;exact zr rfl (fun h=>absurd (h.symm.trans hb1_2) (by decide)) (zb ⟨rfl,rfl⟩)
 refine zb ?_;refine zm rfl (fun hc0=>?_) (fun hc0=>?_)
 ·(try simp only [zh] at hc0);omega
 ·(try simp only [zh] at hc0)
  refine zo ?_;refine zn ?_;refine zf zc [] rfl ?_;iterate 3 refine za rfl ?_
  refine' zu (d:=22) [_,_,_] rfl ?_ rfl ?_
  rotate_left
  ·refine zt rfl rfl (fun hb3_2=>?_) (fun hb3_2=>?_)
   ·have ghb3_2:=hb3_2
    try simp only [zh,Bool.not_true,Bool.not_false] at ghb3_2
    refine za rfl ?_;refine zg rfl rfl hb3_2 ?_;refine za rfl ?_;refine zr rfl (fun _=>rfl) ?_;exact zb ⟨rfl,rfl⟩
   ·refine zl rfl rfl hb3_2 ?_;exact zr rfl (fun h=>absurd (h.symm.trans hb3_2) (by decide)) (zb ⟨rfl,rfl⟩)
  refine za rfl ?_;refine' zu (d:=26) [_,_,_] rfl ?_ rfl ?_
  rotate_left
  ·refine zt rfl rfl (fun hb3_6=>?_) (fun hb3_6=>?_)
   ·have ghb3_6:=hb3_6
    try simp only [zh,Bool.not_true,Bool.not_false] at ghb3_6
    refine za rfl ?_;refine zg rfl rfl hb3_6 ?_;refine za rfl ?_;refine zr rfl (fun _=>rfl) ?_;exact zb ⟨rfl,rfl⟩
   ·refine zl rfl rfl hb3_6 ?_;exact zr rfl (fun h=>absurd (h.symm.trans hb3_6) (by decide)) (zb ⟨rfl,rfl⟩)
  refine za rfl ?_;refine' zu (d:=30) [_,_,_] rfl ?_ rfl ?_
  rotate_left
  ·refine zt rfl rfl (fun hb3_10=>?_) (fun hb3_10=>?_)
   ·have ghb3_10:=hb3_10
    try simp only [zh,Bool.not_true,Bool.not_false] at ghb3_10
    refine za rfl ?_;refine zg rfl rfl hb3_10 ?_;refine za rfl ?_;refine zr rfl (fun _=>rfl) ?_;exact zb ⟨rfl,rfl⟩
   ·refine zl rfl rfl hb3_10 ?_;exact zr rfl (fun h=>absurd (h.symm.trans hb3_10) (by decide)) (zb ⟨rfl,rfl⟩)
  refine zb ?_;refine zm rfl (fun hc1=>?_) (fun hc1=>?_)
  ·(try simp only [zh] at hc1);omega
  ·(try simp only [zh] at hc1)
   refine zo ?_;refine zn ?_;refine zf zc [] rfl ?_;refine za rfl ?_;refine za (t:=I64 (s.length : Nat)) rfl ?_;refine za rfl ?_;refine zb ?_;refine zm rfl (fun hc2=>?_) (fun hc2=>?_)
   ·(try simp only [zh] at hc2);omega
   ·(try simp only [zh] at hc2)
    refine zo ?_;refine zn ?_;refine zf zc [] rfl ?_;refine za rfl ?_;refine zi rfl rfl rfl (hri) ?_;refine za rfl ?_;refine zb ?_;refine y8 rfl ?_;refine zo ?_;refine zf zc [] rfl ?_;refine za rfl ?_;refine vv (a:=(c : Int)) (b:=1048576) rfl rfl z8 ?_;rw [e1]
    refine zy (a:=(b : Int)) (b:=1) rfl rfl z8 ?_;iterate 4 refine za rfl ?_
    refine zk rfl rfl rfl rfl rfl yh rfl ?_;refine za rfl ?_;refine zb ?_;refine zq ?_;exact ⟨trivial,_,rfl,Cv.tup (CvL.cons (Cv.agg (CvL.rx (x:=(newEd b w h s).R) (Cv.nil _ (.inl rfl)) (Cv.nil _ (.inl rfl)))) (CvL.cons (Cv.pure rfl) CvL.nil))⟩
theorem ziv (c : Int) (h : c < 1∨8 < c) : CallP Tryz.prog 22 [I64 c] (.tup [.v (.int .u32 0),BL false]):=by
 have hi : CallP Tryz.prog 39 [I64 c] (BL false):=by
  refine CallP.intro2 z5 z5 ?_;refine CallT.intro zc Tryz.func39 rfl (by kernel_rfl) (Nat.le_of_ble_eq_true rfl) ?_;refine zf zc [] rfl ?_;refine za rfl ?_;refine zb ?_;refine zf zc [] rfl ?_;iterate 3 refine za rfl ?_
  refine' zu (d:=8) [_,_,_] rfl ?_ rfl ?_
  rotate_left
  ·refine zt rfl rfl (fun hb1_2=>?_) (fun hb1_2=>?_)
   ·have ghb1_2:=hb1_2
    try simp only [zh,Bool.not_true,Bool.not_false] at ghb1_2
    refine za rfl ?_;refine zg rfl rfl hb1_2 ?_;refine za rfl ?_;refine z3 rfl (fun _=>rfl) ?_;exact zb ⟨rfl,rfl⟩
   ·refine zl rfl rfl hb1_2 ?_;exact z3 rfl (fun h=>absurd (h.symm.trans hb1_2) (by decide)) (zb ⟨rfl,rfl⟩)
  refine za rfl ?_;refine zb ?_;refine zq ?_;exact ⟨trivial,_,rfl,Cv.eq (by show T.v (.bool (decide (1≤c) && decide (c≤8))) = _;rcases h with h | h;(rw [decide_eq_false (show ¬ 1≤c by omega)];rfl);(rw [decide_eq_false (show ¬ c≤8 by omega),Bool.and_false])) rfl⟩
 refine CallP.intro2 z5 z5 ?_;refine CallT.intro zc Tryz.func22 rfl (by kernel_rfl) (Nat.le_of_ble_eq_true rfl) ?_;refine zf zc [] rfl ?_;iterate 2 refine za rfl ?_
 refine zb ?_;refine zn ?_;refine zf zc [] rfl ?_;refine za rfl ?_;refine zi rfl rfl rfl (hi) ?_;refine za rfl ?_;refine zb ?_;refine xi rfl ?_;refine zf zc [] rfl ?_;iterate 2 refine za rfl ?_
 refine zb ?_;refine zq ?_;exact ⟨trivial,_,rfl,Cv.eq rfl rfl⟩
theorem ednew_no (c w h : Int) (s : List UInt8) (hs : s.length≤100000) (hx : newX c w h s≠0) : CallP Tryz.prog 9 [I64 c,I64 w,I64 h,strT s] (.tup [edT zeroEd,rqT [],I64 (newX c w h s)]):=by
 have hzp:=yg zeroEd
 by_cases hc : c < 1∨8 < c
 ·rw [show newX c w h s = 1 from if_pos hc]
  have hba:=ziv c hc
  refine CallP.intro2 z5 z5 ?_;refine CallT.intro zc Tryz.func9 rfl (by kernel_rfl) (Nat.le_of_ble_eq_true rfl) ?_;refine zf zc [] rfl ?_;refine yc rfl rfl ?_;iterate 2 refine za rfl ?_
  refine zb ?_;refine zf zc [] rfl ?_;refine za rfl ?_;refine zi rfl rfl rfl (hba) ?_;iterate 5 refine za rfl ?_
  refine zb ?_;refine zn ?_;refine zf zc [] rfl ?_;iterate 2 refine za rfl ?_
  refine zb ?_;refine xi rfl ?_;refine zf zc [] rfl ?_;refine za rfl ?_;refine zk rfl rfl rfl rfl rfl yh rfl ?_;iterate 2 refine za rfl ?_
  refine zb ?_;refine zq ?_;exact ⟨trivial,_,rfl,Cv.tup (CvL.cons (Cv.agg xq) (CvL.cons (Cv.nil _ (.inl rfl)) (CvL.cons (Cv.pure rfl) CvL.nil)))⟩
 ·obtain ⟨n,rfl⟩:=Int.eq_ofNat_of_zero_le (show 0≤c by omega)
  have hba:=ze1 n (by omega) (by omega)
  have hbn:=fun h1 h2=>bnew_no s h1 h2
  unfold newX at *
  rw [if_neg hc] at hx ⊢
  refine CallP.intro2 z5 z5 ?_;refine CallT.intro zc Tryz.func9 rfl (by kernel_rfl) (Nat.le_of_ble_eq_true rfl) ?_;refine zf zc [] rfl ?_;refine yc rfl rfl ?_;iterate 2 refine za rfl ?_
  refine zb ?_;refine zf zc [] rfl ?_;refine za rfl ?_;refine zi rfl rfl rfl (hba) ?_;iterate 5 refine za rfl ?_
  refine zb ?_;refine zn ?_;refine zf zc [] rfl ?_;iterate 2 refine za rfl ?_
  refine zb ?_;refine y8 rfl ?_;refine zo ?_;refine zn ?_;refine zf zc [] rfl ?_;iterate 3 refine za rfl ?_
  refine' zu (d:=31) [_,_,_] rfl ?_ rfl ?_
  rotate_left
  ·refine zt rfl rfl (fun hb4_2=>?_) (fun hb4_2=>?_)
   ·have ghb4_2:=hb4_2
    try simp only [zh,Bool.not_true,Bool.not_false] at ghb4_2
    refine za rfl ?_;refine zg rfl rfl hb4_2 ?_;refine za rfl ?_;refine zr rfl (fun _=>rfl) ?_;exact zb ⟨rfl,rfl⟩
   ·refine zl rfl rfl hb4_2 ?_;exact zr rfl (fun h=>absurd (h.symm.trans hb4_2) (by decide)) (zb ⟨rfl,rfl⟩)
  refine za rfl ?_;refine' zu (d:=35) [_,_,_] rfl ?_ rfl ?_
  rotate_left
  ·refine zt rfl rfl (fun hb4_6=>?_) (fun hb4_6=>?_)
   ·have ghb4_6:=hb4_6
    try simp only [zh,Bool.not_true,Bool.not_false] at ghb4_6
    refine za rfl ?_;refine zg rfl rfl hb4_6 ?_;refine za rfl ?_;refine zr rfl (fun _=>rfl) ?_;exact zb ⟨rfl,rfl⟩
   ·refine zl rfl rfl hb4_6 ?_;exact zr rfl (fun h=>absurd (h.symm.trans hb4_6) (by decide)) (zb ⟨rfl,rfl⟩)
  refine za rfl ?_;refine' zu (d:=39) [_,_,_] rfl ?_ rfl ?_
  rotate_left
  ·refine zt rfl rfl (fun hb4_10=>?_) (fun hb4_10=>?_)
   ·have ghb4_10:=hb4_10
    try simp only [zh,Bool.not_true,Bool.not_false] at ghb4_10
    refine za rfl ?_;refine zg rfl rfl hb4_10 ?_;refine za rfl ?_;refine zr rfl (fun _=>rfl) ?_;exact zb ⟨rfl,rfl⟩
   ·refine zl rfl rfl hb4_10 ?_;exact zr rfl (fun h=>absurd (h.symm.trans hb4_10) (by decide)) (zb ⟨rfl,rfl⟩)
  refine zb ?_;refine zm rfl (fun hc1=>?_) (fun hc1=>?_)
  ·(try simp only [zh] at hc1);rw [if_pos (by omega)]
   refine zf zc [] rfl ?_;refine za rfl ?_;refine zk rfl rfl rfl rfl rfl yh rfl ?_;iterate 2 refine za rfl ?_
   refine zb ?_;refine zq ?_;exact ⟨trivial,_,rfl,Cv.tup (CvL.cons (Cv.agg xq) (CvL.cons (Cv.nil _ (.inl rfl)) (CvL.cons (Cv.pure rfl) CvL.nil)))⟩
  ·(try simp only [zh] at hc1);rw [if_neg (by omega)] at hx ⊢
   refine zo ?_;refine zn ?_;refine zf zc [] rfl ?_;refine za rfl ?_;refine za (t:=I64 (s.length : Nat)) rfl ?_;refine za rfl ?_;refine zb ?_;refine zm rfl (fun hc2=>?_) (fun hc2=>?_)
   ·(try simp only [zh] at hc2);rw [if_pos (by omega)]
    refine zf zc [] rfl ?_;refine za rfl ?_;refine zk rfl rfl rfl rfl rfl yh rfl ?_;iterate 2 refine za rfl ?_
    refine zb ?_;refine zq ?_;exact ⟨trivial,_,rfl,Cv.tup (CvL.cons (Cv.agg xq) (CvL.cons (Cv.nil _ (.inl rfl)) (CvL.cons (Cv.pure rfl) CvL.nil)))⟩
   ·(try simp only [zh] at hc2);rw [if_neg (by omega)] at hx ⊢;have hr9 : rightB s = false:=(by cases h9 : rightB s with | false=>rfl | true=>exfalso;rw [h9] at hx;exact hx rfl);rw [if_pos hr9]
    refine zo ?_;refine zf zc [] rfl ?_;refine za rfl ?_;refine zi rfl rfl rfl ((hbn z8 hr9)) ?_;iterate 3 refine za rfl ?_
    refine yc rfl rfl ?_;refine zk rfl rfl rfl rfl rfl yh rfl ?_;refine za rfl ?_;refine zb ?_;refine zn ?_;refine zf zc [] rfl ?_;iterate 2 refine za rfl ?_
    refine zb ?_;refine xi rfl ?_;refine zf zc [] rfl ?_;iterate 2 refine za rfl ?_
    refine zk rfl rfl rfl rfl rfl yh rfl ?_;iterate 2 refine za rfl ?_
    refine zb ?_;refine zq ?_;exact ⟨trivial,_,rfl,Cv.tup (CvL.cons (Cv.agg xq) (CvL.cons (Cv.nil _ (.inl rfl)) (CvL.cons (Cv.pure rfl) CvL.nil)))⟩
end

section
open Go.RowKit
set_option maxRecDepth 100000
set_option maxHeartbeats 2000000
def rqOk (r : Rq) : Prop:=r.n.length≤5000∧r.l.length≤5000
theorem zd6 (l : List Rq) (hl : l.length≤100000) (hq : ∀ r∈l,rqOk r) : CallP Tryz.prog 18 [rqT l,rqT l] (BL true):=by
 have hpl:=zp cRq l
 refine CallP.intro2 z5 z5 ?_;refine CallT.intro zc Tryz.func18 rfl (by kernel_rfl) (Nat.le_of_ble_eq_true rfl) ?_;refine zf zc [] rfl ?_;refine za rfl ?_;refine zb ?_;refine zn ?_;refine zf zc [] rfl ?_;iterate 5 refine za rfl ?_
 refine zb ?_;refine zm rfl (fun hc0=>?_) (fun hc0=>?_)
 ·(try simp only [zh] at hc0);simp at hc0
 ·(try simp only [zh] at hc0)
  refine zo ?_;refine zn ?_;refine zf zc [] rfl ?_;refine za rfl ?_;refine zb ?_;refine yf ?_;refine yy (σ:=Nat) (fun i=>l.length - i) (fun i=>i≤l.length) (fun i=>[(5,I64 (i : Nat))]) (fun i=>[]) [0,1] rfl (0) ?_ ?_ ?_
  ·refine ⟨[],rfl,yo,yn,?_,?_⟩ <;> (repeat' first | exact trivial | exact ym | exact yq | exact yp rfl | refine yb ?_ ?_ | refine z4 rfl ?_ ?_ | refine zx ?_ ?_ | refine yk rfl ?_ | fail) <;> first | exact xd | (first | exact CvL.pure rfl | exact Cv.pure (by simp only [T.pure,hpl]))
  ·(try dsimp only);omega
  rintro i hi;refine zn ?_;refine zf zc [] rfl ?_;iterate 4 refine za rfl ?_
  refine zb ?_;refine zm rfl (fun hc1=>?_) (fun hc1=>?_)
  ·(try simp only [zh] at hc1);have hil : i < l.length:=(by omega);have hat:=getE hil;have hri:=hq l[i]! (List.mem_iff_getElem?.2 ⟨i,hat⟩)
   generalize l[i]! = r at *
   obtain ⟨rc,rn,rb,rl⟩:=r
   have hr1 : rn.length≤5000:=(hri.1)
   have hr2 : rl.length≤5000:=(hri.2)
   have hpn:=zp cI rn
   have hpq:=zp cI rl
   refine zo ?_;refine zn ?_;refine yf ?_;refine sb zc [] [_,_,_,_,_,_,_,_,_,_,_] (_) rfl yj yj yj (vb _) ?_;refine u5 (l1:=[_,_,_,_,_,_,_,_]) rfl ?_;iterate 2 refine za rfl ?_
   refine z9 (m:=i) rfl rfl rfl rfl rfl rfl hil ?_;refine zd rfl rfl (z6 cRq (m:=i) (a:=⟨rc,rn,rb,rl⟩) hat (by decide) rfl) ?_;iterate 2 refine za rfl ?_
   refine z9 (m:=i) rfl rfl rfl rfl rfl rfl hil ?_;refine zd rfl rfl (z6 cRq (m:=i) (a:=⟨rc,rn,rb,rl⟩) hat (by decide) rfl) ?_;refine zb ?_;refine zas rfl ?_;refine u5 (l1:=[_]) rfl ?_;refine yc rfl rfl ?_;refine zb ?_;refine rf rfl rfl rfl rfl ?_;refine qi (⟨rfl,Nat.le_of_ble_eq_true rfl,rfl,trivial⟩) ?_;refine zk rfl rfl rfl rfl rfl yh rfl ?_;refine zb ?_;refine xr ([(5,I64 (i : Nat)),(6,.ptr 0 0),(7,.ptr 1 0)]) ([.c (cRq.cells ⟨rc,rn,rb,rl⟩),.c (cRq.cells ⟨rc,rn,rb,rl⟩)]) [0,1] rfl (by refine ⟨[some 0,some 1],rfl,yo,yn,?_,?_⟩ <;> (repeat' first | exact trivial | exact ym | exact yq | exact yp rfl | refine yb ?_ ?_ | refine z4 rfl ?_ ?_ | refine zx ?_ ?_ | refine yk rfl ?_ | fail) <;> first | exact xd | (first | exact CvL.pure (show T.pureL [I64 rc,cIf rn,strT rb,cIf rl] = true by simp only [T.pureL,T.pure,hpn,hpq];rfl) | exact Cv.pure rfl | exact Cv.pure (by simp only [T.pure,hpl]) | exact CvL.eq rfl (show T.pureL [I64 rc,cIf rn,strT rb,cIf rl] = true by simp only [T.pureL,T.pure,hpn,hpq];rfl))) ?_
   refine zn ?_;refine zf zc [] rfl ?_;refine za rfl ?_;first | refine za rfl ?_ | refine zd rfl rfl zj ?_ | refine ze rfl rfl rfl zj ?_
   refine za rfl ?_;first | refine za rfl ?_ | refine zd rfl rfl zj ?_ | refine ze rfl rfl rfl zj ?_
   iterate 2 refine za rfl ?_
   refine' zu (d:=40) [_,_,_,_,_,_] rfl ?_ rfl ?_
   rotate_left
   ·refine zt rfl rfl (fun hb7_5=>?_) (fun hb7_5=>?_)
    ·have ghb7_5:=hb7_5
     try simp only [zh,Bool.not_true,Bool.not_false] at ghb7_5
     refine za rfl ?_;refine zg rfl rfl hb7_5 ?_;first | refine za rfl ?_ | refine zd rfl rfl zj ?_ | refine ze rfl rfl rfl zj ?_
     refine zg rfl rfl hb7_5 ?_;refine za rfl ?_;refine zg rfl rfl hb7_5 ?_;first | refine za rfl ?_ | refine zd rfl rfl zj ?_ | refine ze rfl rfl rfl zj ?_
     refine zg rfl rfl hb7_5 ?_;refine s7 (a:=rb) (b:=rb) rfl rfl ?_;rw [bne_self_eq_false]
     refine zr rfl (fun _=>rfl) ?_;exact zb ⟨rfl,rfl⟩
    ·refine zl rfl rfl hb7_5 ?_;iterate 3 refine zl rfl rfl hb7_5 ?_
     exact zr rfl (fun h=>absurd (h.symm.trans hb7_5) (by decide)) (zb ⟨rfl,rfl⟩)
   refine za rfl ?_;refine' zu (d:=49) [_,_,_,_,_,_,_,_] rfl ?_ rfl ?_
   rotate_left
   ·refine zt rfl rfl (fun hb7_12=>?_) (fun hb7_12=>?_)
    ·have ghb7_12:=hb7_12
     try simp only [zh,Bool.not_true,Bool.not_false] at ghb7_12
     refine za rfl ?_;refine zg rfl rfl hb7_12 ?_;first | refine za rfl ?_ | refine zd rfl rfl zj ?_ | refine ze rfl rfl rfl zj ?_
     refine zg rfl rfl hb7_12 ?_;refine za rfl ?_;refine zg rfl rfl hb7_12 ?_;refine za rfl ?_;refine zg rfl rfl hb7_12 ?_;first | refine za rfl ?_ | refine zd rfl rfl zj ?_ | refine ze rfl rfl rfl zj ?_
     refine zg rfl rfl hb7_12 ?_;refine za rfl ?_;refine zg rfl rfl hb7_12 ?_;refine za rfl ?_;refine zr rfl (fun _=>rfl) ?_;exact zb ⟨rfl,rfl⟩
    ·refine zl rfl rfl hb7_12 ?_;iterate 5 refine zl rfl rfl hb7_12 ?_
     exact zr rfl (fun h=>absurd (h.symm.trans hb7_12) (by decide)) (zb ⟨rfl,rfl⟩)
   refine za rfl ?_;refine' zu (d:=58) [_,_,_,_,_,_,_,_] rfl ?_ rfl ?_
   rotate_left
   ·refine zt rfl rfl (fun hb7_21=>?_) (fun hb7_21=>?_)
    ·have ghb7_21:=hb7_21
     try simp only [zh,Bool.not_true,Bool.not_false] at ghb7_21
     refine za rfl ?_;refine zg rfl rfl hb7_21 ?_;first | refine za rfl ?_ | refine zd rfl rfl zj ?_ | refine ze rfl rfl rfl zj ?_
     refine zg rfl rfl hb7_21 ?_;refine za rfl ?_;refine zg rfl rfl hb7_21 ?_;refine za rfl ?_;refine zg rfl rfl hb7_21 ?_;first | refine za rfl ?_ | refine zd rfl rfl zj ?_ | refine ze rfl rfl rfl zj ?_
     refine zg rfl rfl hb7_21 ?_;refine za rfl ?_;refine zg rfl rfl hb7_21 ?_;refine za rfl ?_;refine zr rfl (fun _=>rfl) ?_;exact zb ⟨rfl,rfl⟩
    ·refine zl rfl rfl hb7_21 ?_;iterate 5 refine zl rfl rfl hb7_21 ?_
     exact zr rfl (fun h=>absurd (h.symm.trans hb7_21) (by decide)) (zb ⟨rfl,rfl⟩)
   refine zb ?_;refine zm rfl (fun hc2=>?_) (fun hc2=>?_)
   ·(try simp only [zh] at hc2);simp at hc2
   ·(try simp only [zh] at hc2)
    refine zo ?_;refine zn ?_;refine zf zc [] rfl ?_;refine za rfl ?_;refine zb ?_;refine yf ?_;refine yy (σ:=Nat) (fun k=>rn.length - k) (fun k=>k≤rn.length) (fun k=>[(5,I64 (i : Nat)),(8,I64 (k : Nat)),(6,.ptr 0 0),(7,.ptr 1 0)]) (fun k=>[.c (cRq.cells ⟨rc,rn,rb,rl⟩),.c (cRq.cells ⟨rc,rn,rb,rl⟩)]) [0,1] rfl (0) ?_ ?_ ?_
    ·refine ⟨[some 0,some 1],rfl,yo,yn,?_,?_⟩ <;> (repeat' first | exact trivial | exact ym | exact yq | exact yp rfl | refine yb ?_ ?_ | refine z4 rfl ?_ ?_ | refine zx ?_ ?_ | refine yk rfl ?_ | fail) <;> first | exact xd | (first | exact CvL.pure rfl | exact CvL.pure (show T.pureL [I64 rc,cIf rn,strT rb,cIf rl] = true by simp only [T.pureL,T.pure,hpn,hpq];rfl) | exact Cv.pure (by simp only [T.pure,hpl]) | exact CvL.eq rfl (show T.pureL [I64 rc,cIf rn,strT rb,cIf rl] = true by simp only [T.pureL,T.pure,hpn,hpq];rfl))
    ·(try dsimp only);omega
    rintro k hk;refine zn ?_;refine zf zc [] rfl ?_;iterate 2 refine za rfl ?_
    first | refine za rfl ?_ | refine zd rfl rfl zj ?_ | refine ze rfl rfl rfl zj ?_
    iterate 2 refine za rfl ?_
    refine zb ?_;refine zm rfl (fun hc3=>?_) (fun hc3=>?_)
    ·(try simp only [zh] at hc3);have hkl : k < rn.length:=(by omega)
     refine zo ?_;refine zn ?_;refine yf ?_;refine yv zc [] [_,_,_,_,_,_,_,_,_,_,_] rfl yj yj ?_;refine za rfl ?_;first | refine za rfl ?_ | refine zd rfl rfl zj ?_ | refine ze rfl rfl rfl zj ?_
     refine za rfl ?_;refine z9 (m:=k) rfl rfl rfl rfl rfl rfl hkl ?_;refine xu (m:=k) rfl rfl rfl rfl hkl ?_;refine za rfl ?_;first | refine za rfl ?_ | refine zd rfl rfl zj ?_ | refine ze rfl rfl rfl zj ?_
     refine za rfl ?_;refine z9 (m:=k) rfl rfl rfl rfl rfl rfl hkl ?_;refine xu (m:=k) rfl rfl rfl rfl hkl ?_;refine za rfl ?_;iterate 2 refine zb ?_
     refine zm rfl (fun hc4=>?_) (fun hc4=>?_)
     ·(try simp only [zh] at hc4);simp at hc4
     ·(try simp only [zh] at hc4)
      refine zo ?_;refine zw zc [] rfl ?_;refine za rfl ?_;first | refine zy rfl rfl (by omega) ?_ | refine za rfl ?_
      refine za rfl ?_;refine zb ?_;refine ⟨k + 1,by (try dsimp only);omega,?_,(by refine ⟨[some 0,some 1],rfl,yo,yn,?_,?_⟩ <;> (repeat' first | exact trivial | exact ym | exact yq | exact yp rfl | refine yb ?_ ?_ | refine z4 rfl ?_ ?_ | refine zx ?_ ?_ | refine yk rfl ?_ | fail) <;> first | exact xd | (first | exact CvL.pure rfl | exact CvL.pure (show T.pureL [I64 rc,cIf rn,strT rb,cIf rl] = true by simp only [T.pureL,T.pure,hpn,hpq];rfl) | exact Cv.pure (by simp only [T.pure,hpl]) | exact CvL.eq rfl (show T.pureL [I64 rc,cIf rn,strT rb,cIf rl] = true by simp only [T.pureL,T.pure,hpn,hpq];rfl)))⟩
      (try dsimp only);omega
    ·(try simp only [zh] at hc3);obtain rfl : k = rn.length:=(by omega)
     refine yz ?_;refine zf zc [] rfl ?_;refine za rfl ?_;refine zb ?_;refine yf ?_;refine yy (σ:=Nat) (fun k=>rl.length - k) (fun k=>k≤rl.length) (fun k=>[(5,I64 (i : Nat)),(9,I64 (k : Nat)),(6,.ptr 0 0),(7,.ptr 1 0)]) (fun k=>[.c (cRq.cells ⟨rc,rn,rb,rl⟩),.c (cRq.cells ⟨rc,rn,rb,rl⟩)]) [0,1] rfl (0) ?_ ?_ ?_
     ·refine ⟨[some 0,some 1],rfl,yo,yn,?_,?_⟩ <;> (repeat' first | exact trivial | exact ym | exact yq | exact yp rfl | refine yb ?_ ?_ | refine z4 rfl ?_ ?_ | refine zx ?_ ?_ | refine yk rfl ?_ | fail) <;> first | exact xd | (first | exact CvL.pure rfl | exact CvL.pure (show T.pureL [I64 rc,cIf rn,strT rb,cIf rl] = true by simp only [T.pureL,T.pure,hpn,hpq];rfl) | exact Cv.pure (by simp only [T.pure,hpl]) | exact CvL.eq rfl (show T.pureL [I64 rc,cIf rn,strT rb,cIf rl] = true by simp only [T.pureL,T.pure,hpn,hpq];rfl))
     ·(try dsimp only);omega
     rintro k hk2;refine zn ?_;refine zf zc [] rfl ?_;iterate 2 refine za rfl ?_
     first | refine za rfl ?_ | refine zd rfl rfl zj ?_ | refine ze rfl rfl rfl zj ?_
     iterate 2 refine za rfl ?_
     refine zb ?_;refine zm rfl (fun hc5=>?_) (fun hc5=>?_)
     ·(try simp only [zh] at hc5);have hkl : k < rl.length:=(by omega)
      refine zo ?_;refine zn ?_;refine yf ?_;refine yv zc [] [_,_,_,_,_,_,_,_,_,_,_] rfl yj yj ?_;refine za rfl ?_;first | refine za rfl ?_ | refine zd rfl rfl zj ?_ | refine ze rfl rfl rfl zj ?_
      refine za rfl ?_;refine z9 (m:=k) rfl rfl rfl rfl rfl rfl hkl ?_;refine xu (m:=k) rfl rfl rfl rfl hkl ?_;refine za rfl ?_;first | refine za rfl ?_ | refine zd rfl rfl zj ?_ | refine ze rfl rfl rfl zj ?_
      refine za rfl ?_;refine z9 (m:=k) rfl rfl rfl rfl rfl rfl hkl ?_;refine xu (m:=k) rfl rfl rfl rfl hkl ?_;refine za rfl ?_;iterate 2 refine zb ?_
      refine zm rfl (fun hc6=>?_) (fun hc6=>?_)
      ·(try simp only [zh] at hc6);simp at hc6
      ·(try simp only [zh] at hc6)
       refine zo ?_;refine zw zc [] rfl ?_;refine za rfl ?_;first | refine zy rfl rfl (by omega) ?_ | refine za rfl ?_
       refine za rfl ?_;refine zb ?_;refine ⟨k + 1,by (try dsimp only);omega,?_,(by refine ⟨[some 0,some 1],rfl,yo,yn,?_,?_⟩ <;> (repeat' first | exact trivial | exact ym | exact yq | exact yp rfl | refine yb ?_ ?_ | refine z4 rfl ?_ ?_ | refine zx ?_ ?_ | refine yk rfl ?_ | fail) <;> first | exact xd | (first | exact CvL.pure rfl | exact CvL.pure (show T.pureL [I64 rc,cIf rn,strT rb,cIf rl] = true by simp only [T.pureL,T.pure,hpn,hpq];rfl) | exact Cv.pure (by simp only [T.pure,hpl]) | exact CvL.eq rfl (show T.pureL [I64 rc,cIf rn,strT rb,cIf rl] = true by simp only [T.pureL,T.pure,hpn,hpq];rfl)))⟩
       (try dsimp only);omega
     ·(try simp only [zh] at hc5)
      refine yz ?_;refine zw zc [] rfl ?_;refine za rfl ?_;first | refine zy rfl rfl (by omega) ?_ | refine za rfl ?_
      refine za rfl ?_;refine zb ?_;refine ⟨i + 1,by (try dsimp only);omega,?_,(by refine ⟨[],rfl,yo,yn,?_,?_⟩ <;> (repeat' first | exact trivial | exact ym | exact yq | exact yp rfl | refine yb ?_ ?_ | refine z4 rfl ?_ ?_ | refine zx ?_ ?_ | refine yk rfl ?_ | fail) <;> first | exact xd | (first | exact CvL.pure rfl | exact Cv.pure (by simp only [T.pure,hpl])))⟩
      (try dsimp only);omega
  ·(try simp only [zh] at hc1)
   refine yz ?_;refine zf zc [] rfl ?_;refine za rfl ?_;refine zb ?_;refine zq ?_;exact ⟨trivial,_,rfl,Cv.eq rfl rfl⟩
theorem zej (e : Ed) : CallP Tryz.prog 17 [edT e,rxT e.R] (BL true):=by
 have hp:=yg e
 have hpx:=yd e.R
 have htx:=zf9 e
 have hcu:=curs_p e
 have hmk:=zjz e
 have e1 : ((e.c.lo : Nat) : Int) = min (e.c.cur : Int) (e.c.anc : Int):=by unfold Ec.lo;omega
 have e2 : ((e.c.hi : Nat) : Int) = max (e.c.cur : Int) (e.c.anc : Int):=by unfold Ec.hi;omega
 refine CallP.intro2 z5 z5 ?_;refine CallT.intro zc Tryz.func17 rfl (by kernel_rfl) (Nat.le_of_ble_eq_true rfl) ?_;refine zf zc [2,3] rfl ?_;iterate 2 refine ya rfl rfl ?_
 refine za rfl ?_;refine zb ?_;refine zf zc [] rfl ?_;first | refine za rfl ?_ | refine zd rfl rfl zj ?_ | refine ze rfl rfl rfl zj ?_
 refine zi rfl rfl rfl (hmk) ?_;iterate 5 refine za rfl ?_
 refine zb ?_;refine yv zc [] [_,_,_,_,_,_,_,_,_,_,_,_,_,_,_,_,_,_,_,_,_,_,_,_,_,_,_,_,_,_,_] rfl yj yj ?_;first | refine za rfl ?_ | refine zd rfl rfl zj ?_ | refine ze rfl rfl rfl zj ?_
 refine zi rfl rfl rfl (htx) ?_;refine za rfl ?_;first | refine za rfl ?_ | refine zd rfl rfl zj ?_ | refine ze rfl rfl rfl zj ?_
 iterate 2 refine za rfl ?_
 refine' zu (d:=23) [_,_,_,_,_,_] rfl ?_ rfl ?_
 rotate_left
 ·refine zt rfl rfl (fun hb2_5=>?_) (fun hb2_5=>?_)
  ·have ghb2_5:=hb2_5
   try simp only [zh,Bool.not_true,Bool.not_false] at ghb2_5
   first | refine za rfl ?_ | refine zd rfl rfl zj ?_ | refine ze rfl rfl rfl zj ?_
   refine zg rfl rfl hb2_5 ?_;refine zi rfl rfl rfl (hcu) ?_;refine zg rfl rfl hb2_5 ?_;refine za rfl ?_;refine zg rfl rfl hb2_5 ?_;first | refine za rfl ?_ | refine zd rfl rfl zj ?_ | refine ze rfl rfl rfl zj ?_
   refine zg rfl rfl hb2_5 ?_;refine za rfl ?_;refine z3 rfl (fun _=>rfl) ?_;exact zb ⟨rfl,rfl⟩
  ·refine zl rfl rfl hb2_5 ?_;iterate 3 refine zl rfl rfl hb2_5 ?_
   exact z3 rfl (fun h=>absurd (h.symm.trans hb2_5) (by decide)) (zb ⟨rfl,rfl⟩)
 refine za rfl ?_;refine' zu (d:=32) [_,_,_,_,_,_,_,_] rfl ?_ rfl ?_
 rotate_left
 ·refine zt rfl rfl (fun hb2_12=>?_) (fun hb2_12=>?_)
  ·have ghb2_12:=hb2_12
   try simp only [zh,Bool.not_true,Bool.not_false] at ghb2_12
   refine za rfl ?_;refine zg rfl rfl hb2_12 ?_;refine za rfl ?_;refine zg rfl rfl hb2_12 ?_;first | refine za rfl ?_ | refine zd rfl rfl zj ?_ | refine ze rfl rfl rfl zj ?_
   refine zg rfl rfl hb2_12 ?_;refine za rfl ?_;refine zg rfl rfl hb2_12 ?_;first | refine za rfl ?_ | refine zd rfl rfl zj ?_ | refine ze rfl rfl rfl zj ?_
   refine zg rfl rfl hb2_12 ?_;first | refine w6 rfl rfl ?_ | refine za rfl ?_
   refine zg rfl rfl hb2_12 ?_;refine za rfl ?_;refine z3 rfl (fun _=>rfl) ?_;exact zb ⟨rfl,rfl⟩
  ·refine zl rfl rfl hb2_12 ?_;iterate 5 refine zl rfl rfl hb2_12 ?_
   exact z3 rfl (fun h=>absurd (h.symm.trans hb2_12) (by decide)) (zb ⟨rfl,rfl⟩)
 refine za rfl ?_;refine' zu (d:=41) [_,_,_,_,_,_,_,_] rfl ?_ rfl ?_
 rotate_left
 ·refine zt rfl rfl (fun hb2_21=>?_) (fun hb2_21=>?_)
  ·have ghb2_21:=hb2_21
   try simp only [zh,Bool.not_true,Bool.not_false] at ghb2_21
   refine za rfl ?_;refine zg rfl rfl hb2_21 ?_;refine za rfl ?_;refine zg rfl rfl hb2_21 ?_;first | refine za rfl ?_ | refine zd rfl rfl zj ?_ | refine ze rfl rfl rfl zj ?_
   refine zg rfl rfl hb2_21 ?_;refine za rfl ?_;refine zg rfl rfl hb2_21 ?_;first | refine za rfl ?_ | refine zd rfl rfl zj ?_ | refine ze rfl rfl rfl zj ?_
   refine zg rfl rfl hb2_21 ?_;first | refine wy rfl rfl ?_ | refine za rfl ?_
   refine zg rfl rfl hb2_21 ?_;refine za rfl ?_;refine z3 rfl (fun _=>rfl) ?_;exact zb ⟨rfl,rfl⟩
  ·refine zl rfl rfl hb2_21 ?_;iterate 5 refine zl rfl rfl hb2_21 ?_
   exact z3 rfl (fun h=>absurd (h.symm.trans hb2_21) (by decide)) (zb ⟨rfl,rfl⟩)
 refine za rfl ?_;iterate 2 refine zb ?_
 refine zq ?_;exact ⟨trivial,_,rfl,Cv.eq (by show T.v (.bool ((⟨e.c.bf.text.toArray⟩ : ByteArray).toList == (⟨e.c.bf.text.toArray⟩ : ByteArray).toList && ((e.c.cur : Int)) == (e.c.cur : Int) && (e.c.lo : Int) == min (e.c.cur : Int) (e.c.anc : Int) && (e.c.hi : Int) == max (e.c.cur : Int) (e.c.anc : Int))) = _;rw [e1,e2];simp) rfl⟩
theorem zac (e : Ed) (y : Nat) (k : Lk) : ∀ r∈e.drawnR y k,rqOk r:=by
 intro r hr
 unfold Ed.drawnR Ed.opR Ed.fillR at hr
 unfold rqOk
 rw [List.mem_append,List.mem_append] at hr
 rcases hr with (h | h) | h
 ·simp only [List.mem_singleton] at h;subst h;simp
 ·split at h
  ·simp only [List.mem_cons,List.not_mem_nil,or_false] at h
   rcases h with h | h | h <;> subst h <;> simp
  ·simp at h
 ·split at h
  ·simp only [List.mem_singleton] at h;subst h;simp
  ·simp at h
theorem zgt (e : Ed) (was : Nat→Lk) (l : List Rq) (n : Nat) (hl : ∀ r∈l,rqOk r) : ∀ r∈e.redN was l n,rqOk r:=by
 induction n with
 | zero=>rw [Ed.redN_zero];exact hl
 | succ n ih=>
  by_cases h : e.look n = was n
  ·rw [Ed.redN_same h];exact ih
  ·rw [Ed.redN_new h]
   intro r hr
   rcases List.mem_append.1 hr with h1 | h1
   ·exact ih r h1
   ·exact zac e n _ r h1
theorem zgu (e : Ed) (n : List Int) (k : Nat) : ∀ r∈e.expL n k,rqOk r:=by
 induction k with
 | zero=>intro r hr;simp [Ed.expL] at hr
 | succ k ih=>
  cases h : meetsB (6 * (k : Int)) n[2]! n[4]! with
  | true=>
   rw [Ed.expL_t h]
   intro r hr
   rcases List.mem_append.1 hr with h1 | h1
   ·exact ih r h1
   ·exact zac e k _ r h1
  | false=>rw [Ed.expL_f h];exact ih
theorem zgv (e : Ed) (hw : e.W) (o : Ot) : ∀ r∈(e.ev56 o).2,rqOk r:=by
 have hn : ∀ r∈([] : List Rq),rqOk r:=fun r hr=>by simp at hr
 have hcop:=hw.o.cop
 unfold Ed.ev56
 split
 ·unfold Ed.ev55
  split
  ·exact hn
  split
  ·show ∀ r∈e.keyR _ _ _,rqOk r
   unfold Ed.keyR Ed.cmdR
   intro r hr
   split at hr
   ·split at hr
    ·split at hr
     ·simp only [List.mem_singleton] at hr;subst hr;simp [rqOk]
     ·simp at hr
    ·split at hr
     ·simp only [List.mem_singleton] at hr;subst hr;simp [rqOk]
     ·simp at hr
   ·simp at hr
  split
  ·exact hn
  split
  ·split <;> exact hn
  split
  ·exact hn
  split
  ·show ∀ r∈e.givR _,rqOk r
   unfold Ed.givR
   intro r hr
   split at hr
   ·simp only [List.mem_cons,List.not_mem_nil,or_false] at hr
    rcases hr with h | h <;> subst h <;> simp [rqOk]
    omega
   ·simp only [List.mem_singleton] at hr;subst hr;simp [rqOk]
  split
  ·unfold Ed.notiN
   split
   ·exact hn
   ·intro r hr
    simp only [List.mem_singleton] at hr;subst hr;simp [rqOk]
  ·exact hn
 ·split <;> exact hn
theorem zgs {e : Ed} (hv : e.V) (o : Ot) : ∀ r∈(e.step o).2,rqOk r:=by
 rw [← qw hv o]
 have hn : ∀ r∈([] : List Rq),rqOk r:=fun r hr=>by simp at hr
 unfold Ed.step55
 split
 ·exact hn
 split
 ·split
  ·exact hn
  ·exact zgu e _ _
 ·exact zgt _ _ _ _ (zgv e hv.w o)
theorem zjn (b w h : Int) : ∀ r∈newR b w h,rqOk r:=by
 intro r hr
 unfold newR at hr
 simp only [List.mem_cons,List.not_mem_nil,or_false] at hr
 rcases hr with h | h | h | h | h | h <;> subst h <;> simp [rqOk]
theorem newEd_V {b w h : Int} {s : List UInt8} (hb : 0≤b∧b≤90000000) (h1 : 4≤w∧w≤128∧6≤h∧h≤128) (hs : s.length≤4096) : (newEd b w h s).V:=by
 have hw:=zhe (b:=b) h1 hs
 have hr:=hw.rows
 refine ⟨hw,rfl,by show b + 2 = b + 1 + 1;omega,by show 0≤b + 1∧b + 1≤_;omega,Nat.zero_le _,?_,Int.le_refl _⟩
 have e1 : sightN 0 ((spotN s 0).1 : Nat) ((newEd b w h s).rows : Nat) = 0:=by unfold sightN spotN;simp;omega
 have e2 : sightN 0 ((spotN s 0).2 : Nat) ((newEd b w h s).cols : Nat) = 0:=by unfold sightN spotN colN;simp;omega
 show ({ newEd b w h s with top:=sightN 0 ((spotN s 0).1 : Nat) ((newEd b w h s).rows : Nat),left:=sightN 0 ((spotN s 0).2 : Nat) ((newEd b w h s).cols : Nat) } : Ed) = _
 rw [e1,e2]
 rfl
end

section
open Go.RowKit
set_option maxRecDepth 100000
set_option maxHeartbeats 2000000
theorem ziu (c w h : Int) (s : List UInt8) (e0 : Ed) (r : List Rq) (k : Int) (hk : -1000≤k∧k≤1000) (hnew : CallP Tryz.prog 9 [I64 c,I64 w,I64 h,strT s] (.tup [edT e0,rqT r,I64 k])) (hrn : CallP Tryz.prog 30 [I64 c,I64 w,I64 h,strT s] (.tup [rxT e0.R,I64 k])) :
  CallP Tryz.prog 16 [I64 c,I64 w,I64 h,strT s] (.tup [edT e0,rqT r,rxT e0.R,BL true]):=by
 have hp:=yg e0
 have hpx:=yd e0.R
 have hpr:=zp cRq r
 generalize e0.R = x0 at *
 refine CallP.intro2 z5 z5 ?_;refine CallT.intro zc Tryz.func16 rfl (by kernel_rfl) (Nat.le_of_ble_eq_true rfl) ?_;refine zf zc [] rfl ?_;refine yc rfl rfl ?_;refine za rfl ?_;refine yc rfl rfl ?_;refine za rfl ?_;refine zb ?_;refine zf zc [] rfl ?_;iterate 4 refine za rfl ?_
 refine zi rfl rfl rfl (hnew) ?_;iterate 4 refine za rfl ?_
 refine yc rfl rfl ?_;refine zk rfl rfl rfl rfl rfl yh rfl ?_;iterate 2 refine za rfl ?_
 refine zb ?_;refine zf zc [] rfl ?_;iterate 4 refine za rfl ?_
 refine zi rfl rfl rfl (hrn) ?_;iterate 3 refine za rfl ?_
 refine yc rfl rfl ?_;refine zk rfl rfl rfl rfl rfl yh rfl ?_;refine za rfl ?_;refine zb ?_;refine xr ([(8,.ptr 0 0),(10,.ptr 1 0),(12,.ptr 2 0),(15,.ptr 3 0)]) ([.c zEd,.c zRx,.c (edC e0),.c (rxC x0)]) [13,14,16] rfl (by refine ⟨[some 0,some 1,some 2,some 3],rfl,yo,yn,?_,?_⟩ <;> (repeat' first | exact trivial | exact ym | exact yq | exact yp rfl | refine yb ?_ ?_ | refine z4 rfl ?_ ?_ | refine zx ?_ ?_ | refine yk rfl ?_ | fail) <;> first | exact xd | (first | exact CvL.pure rfl | exact CvL.eq rfl hp | exact CvL.eq rfl hpx | exact Cv.pure (by simp only [T.pure,hpr]) | exact Cv.pure rfl)) ?_
 refine sb zc [] [_,_,_,_,_,_,_,_,_] (_) rfl yj yj yj (sk (b:=1) (sk (b:=0) (vb _) (by simp)) (by rw [xc];simp)) ?_;refine u5 (l1:=[_,_,_,_,_,_]) rfl ?_;first | refine za rfl ?_ | refine zd rfl rfl zj ?_ | refine ze rfl rfl rfl zj ?_
 refine za rfl ?_;first | refine za rfl ?_ | refine zd rfl rfl zj ?_ | refine ze rfl rfl rfl zj ?_
 iterate 3 refine za rfl ?_
 refine zb ?_;refine rf rfl rfl rfl rfl ?_;refine u5 (l1:=[_]) rfl ?_;refine za rfl ?_;refine zb ?_;refine rf rfl rfl rfl rfl ?_;refine qi (⟨rfl,Nat.le_of_ble_eq_true rfl,rfl,⟨rfl,Nat.le_of_ble_eq_true rfl,rfl,trivial⟩⟩) ?_;refine za rfl ?_;refine zb ?_;refine zq ?_;exact ⟨trivial,_,rfl,Cv.tup (CvL.cons (Cv.eq rfl hp) (CvL.cons (Cv.pure (by simp only [T.pure,hpr])) (CvL.cons (Cv.eq rfl hpx) (CvL.cons (Cv.eq (by simp) rfl) CvL.nil))))⟩
end

section
open Go.RowKit
set_option maxRecDepth 100000
set_option maxHeartbeats 2000000
theorem asked0_p (b : Nat) (hb : b≤90000000) (w h : Int) (s : List UInt8) : CallP Tryz.prog 19 [rxT (newEd b w h s).R] (.islc (newO b w h) 6 (some 6)):=by
 have hpx:=yd (newEd b w h s).R
 have tw : (newEd b w h s).R.win = (b : Int) + 1:=rfl
 refine CallP.intro2 z5 z5 ?_;refine CallT.intro zc Tryz.func19 rfl (by kernel_rfl) (Nat.le_of_ble_eq_true rfl) ?_;refine zf zc [1] rfl ?_;refine ya rfl rfl ?_;refine za rfl ?_;refine zb ?_;refine yv zc [] [_,_,_,_,_,_,_,_,_,_,_] rfl yj yj ?_;refine za rfl ?_;first | refine za rfl ?_ | refine zd rfl rfl zj ?_ | refine ze rfl rfl rfl zj ?_
 refine za rfl ?_;first | refine za rfl ?_ | refine zd rfl rfl zj ?_ | refine ze rfl rfl rfl zj ?_
 refine zy (a:=(b : Int) + 1) (b:=1) rfl rfl z8 ?_;refine za rfl ?_;first | refine za rfl ?_ | refine zd rfl rfl zj ?_ | refine ze rfl rfl rfl zj ?_
 refine zy (a:=(b : Int) + 1) (b:=2) rfl rfl z8 ?_;iterate 3 refine za rfl ?_
 iterate 2 refine zb ?_
 refine zf zc [15,18,22,29,32,35,37] rfl ?_;refine za rfl ?_;refine ya rfl rfl ?_;iterate 2 refine za rfl ?_
 refine ya rfl rfl ?_;iterate 3 refine za rfl ?_
 refine ya rfl rfl ?_;iterate 3 refine za rfl ?_
 first | refine za rfl ?_ | refine zd rfl rfl zj ?_ | refine ze rfl rfl rfl zj ?_
 refine za rfl ?_;first | refine za rfl ?_ | refine zd rfl rfl zj ?_ | refine ze rfl rfl rfl zj ?_
 refine ya rfl rfl ?_;iterate 2 refine za rfl ?_
 refine ya rfl rfl ?_;iterate 2 refine za rfl ?_
 refine ya rfl rfl ?_;refine za rfl ?_;refine ya rfl rfl ?_;refine za rfl ?_;refine zb ?_;refine zq ?_;exact ⟨trivial,_,rfl,Cv.eq (by kernel_rfl) (by kernel_rfl)⟩
theorem ziz (b : Nat) (hb : b≤90000000) (w h : Int) (s : List UInt8) : CallP Tryz.prog 19 [rxT (newEd b w h s).R] (rqT (newR b w h)):=by
 rw [zde]
 refine (asked0_p b hb w h s).weak (by show (T.pureL (rxC (newEd b w h s).R) && true) = true;rw [yd];rfl) (ph b w h) fun v=>Cv.islc ?_ (.inr rfl)
 unfold newO newC
 exact xq
end

section
open Go.RowKit
set_option maxRecDepth 100000
set_option maxHeartbeats 4000000
structure KS (e : Ed) (i : Nat) : Prop where
 v : e.V
 k : 0≤e.cnt∧e.cnt≤6 + 200 * i
theorem KS.step {e : Ed} {i : Nat} (h : KS e i) (o : Ot) : KS (e.step o).1 (i + 1):=by
 obtain ⟨g1,g2,g3,-⟩:=rm h.v.w o h.k.1
 have:=h.k
 exact ⟨step_V h.v h.k.1 o,g2,by omega⟩
theorem stepS (e : Ed) (hv : e.V) (hc : 0≤e.cnt∧e.cnt≤900000000) (o : Ot) (hn : nOk o.n) (hl : o.l.length≤100000) :
  CallP Tryz.prog 20 [rxT e.R,otT o] (.tup [rxT (e.step o).1.R,rqT (e.step o).2]):=stepR_p e hv hc o hn hl
theorem p9 (c w h : Int) (s : List UInt8) (l : List Ot) (hx : newX c w h s ≠ 0) : CallP Tryz.prog 5 [I64 c, I64 w, I64 h, strT s, otsT l] (BL true) := by
  have hpl := zp cOt l
  have hsh := zgn l
  have hp := yg zeroEd
  have hpx := yd zeroEd.R
  have hk : -1000 ≤ newX c w h s ∧ newX c w h s ≤ 1000 := by unfold newX; repeat' split
                                                             all_goals omega
  have hbe := fun (h9 : s.length ≤ 100000) => ziu c w h s zeroEd [] (newX c w h s) hk (ednew_no c w h s h9 hx) (newR_no c w h s h9 hx)
  have his := zej zeroEd
  refine CallP.intro2 z5 z5 ?_
  refine CallT.intro zc Tryz.func5 rfl (by kernel_rfl) (Nat.le_of_ble_eq_true rfl) ?_
  refine zf zc [] rfl ?_
  refine za rfl ?_
  refine zb ?_
  refine zn ?_
  refine zf zc [] rfl ?_
  refine zi rfl rfl rfl (zc0) ?_
  refine za rfl ?_
  refine zb ?_
  refine y8 rfl ?_
  refine zo ?_
  refine zn ?_
  refine zf zc [] rfl ?_
  refine za rfl ?_
  refine za (t := I64 (s.length : Nat)) rfl ?_
  iterate 2 refine za rfl ?_
  refine' zu (d := 29) [_, _, _, _] rfl ?_ rfl ?_
  rotate_left
  · refine zt rfl rfl (fun hb3_3 => ?_) (fun hb3_3 => ?_)
    · have ghb3_3 := hb3_3
      try simp only [zh, Bool.not_true, Bool.not_false] at ghb3_3
      refine za rfl ?_
      refine zg rfl rfl hb3_3 ?_
      refine za (t := I64 (s.length : Nat)) rfl ?_
      refine zg rfl rfl hb3_3 ?_
      refine za rfl ?_
      refine z3 rfl (fun _ => rfl) ?_
      exact zb ⟨rfl, rfl⟩
    · refine zl rfl rfl hb3_3 ?_
      refine zl rfl rfl hb3_3 ?_
      exact z3 rfl (fun h => absurd (h.symm.trans hb3_3) (by decide)) (zb ⟨rfl, rfl⟩)
  refine za rfl ?_
  refine' zu (d := 34) [_, _, _, _] rfl ?_ rfl ?_
  rotate_left
  · refine zt rfl rfl (fun hb3_8 => ?_) (fun hb3_8 => ?_)
    · have ghb3_8 := hb3_8
      try simp only [zh, Bool.not_true, Bool.not_false] at ghb3_8
      refine za rfl ?_
      refine zg rfl rfl hb3_8 ?_
      refine za (t := I64 (s.length : Nat)) rfl ?_
      refine zg rfl rfl hb3_8 ?_
      refine za rfl ?_
      refine zr rfl (fun _ => rfl) ?_
      exact zb ⟨rfl, rfl⟩
    · refine zl rfl rfl hb3_8 ?_
      refine zl rfl rfl hb3_8 ?_
      exact zr rfl (fun h => absurd (h.symm.trans hb3_8) (by decide)) (zb ⟨rfl, rfl⟩)
  refine za rfl ?_
  refine' zu (d := 39) [_, _, _, _] rfl ?_ rfl ?_
  rotate_left
  · refine zt rfl rfl (fun hb3_13 => ?_) (fun hb3_13 => ?_)
    · have ghb3_13 := hb3_13
      try simp only [zh, Bool.not_true, Bool.not_false] at ghb3_13
      refine za rfl ?_
      refine zg rfl rfl hb3_13 ?_
      refine zi rfl rfl rfl (hsh) ?_
      refine zg rfl rfl hb3_13 ?_
      refine za rfl ?_
      refine zr rfl (fun _ => rfl) ?_
      exact zb ⟨rfl, rfl⟩
    · refine zl rfl rfl hb3_13 ?_
      refine zl rfl rfl hb3_13 ?_
      exact zr rfl (fun h => absurd (h.symm.trans hb3_13) (by decide)) (zb ⟨rfl, rfl⟩)
  refine zb ?_
  refine zm rfl (fun hc1 => ?_) (fun hc1 => ?_)
  · (try simp only [zh] at hc1)
    refine zf zc [] rfl ?_
    refine za rfl ?_
    refine zb ?_
    refine zq ?_
    exact ⟨trivial, _, rfl, Cv.eq rfl rfl⟩
  · (try simp only [zh] at hc1)
    refine zo ?_
    refine zf zc [] rfl ?_
    iterate 4 refine za rfl ?_
    refine zi rfl rfl rfl ((hbe z8)) ?_
    iterate 5 refine za rfl ?_
    iterate 2 refine yc rfl rfl ?_
    refine zk rfl rfl rfl rfl rfl yh rfl ?_
    refine za rfl ?_
    refine zk rfl rfl rfl rfl rfl yh rfl ?_
    refine za rfl ?_
    refine zb ?_
    refine zn ?_
    refine zf zc [] rfl ?_
    iterate 3 refine za rfl ?_
    refine' zu (d := 57) [_, _, _, _, _] rfl ?_ rfl ?_
    rotate_left
    · refine zt rfl rfl (fun hb6_2 => ?_) (fun hb6_2 => ?_)
      · have ghb6_2 := hb6_2
        try simp only [zh, Bool.not_true, Bool.not_false] at ghb6_2
        first | refine za rfl ?_ | refine zd rfl rfl zj ?_ | refine ze rfl rfl rfl zj ?_
        refine zg rfl rfl hb6_2 ?_
        first | refine za rfl ?_ | refine zd rfl rfl zj ?_ | refine ze rfl rfl rfl zj ?_
        refine zg rfl rfl hb6_2 ?_
        refine zi rfl rfl rfl (his) ?_
        refine zg rfl rfl hb6_2 ?_
        refine za rfl ?_
        refine zr rfl (fun _ => rfl) ?_
        exact zb ⟨rfl, rfl⟩
      · refine zl rfl rfl hb6_2 ?_
        iterate 2 refine zl rfl rfl hb6_2 ?_
        exact zr rfl (fun h => absurd (h.symm.trans hb6_2) (by decide)) (zb ⟨rfl, rfl⟩)
    refine zb ?_
    refine y8 rfl ?_
    refine zo ?_
    refine zn ?_
    refine zf zc [] rfl ?_
    refine za rfl ?_
    first | refine za rfl ?_ | refine zd rfl rfl zj ?_ | refine ze rfl rfl rfl zj ?_
    refine za rfl ?_
    refine zb ?_
    refine xi rfl ?_
    refine zf zc [] rfl ?_
    iterate 4 refine za rfl ?_
    refine zb ?_
    refine zq ?_
    exact ⟨trivial, _, rfl, Cv.eq rfl rfl⟩
theorem pq (c b : Nat) (hB : c * 1048576 = b) (w h : Int) (s : List UInt8) (l : List Ot) (h1 : 1≤c) (h2 : c≤8) (hw : 4≤w∧w≤128∧6≤h∧h≤128) (hs : s.length≤4096) (hr : rightB s = true) : CallP Tryz.prog 5 [I64 c,I64 w,I64 h,strT s,otsT l] (BL true):=by
 have hpl:=zp cOt l
 have hsh:=zgn l
 have hbe:=ziu c w h s (newEd b w h s) (newR b w h) 0 (by omega) (zib c b hB w h s h1 h2 hw hs hr) (zjw c b hB w h s h1 h2 hw hs hr)
 have has:=ziz b (by omega) w h s
 have hsa:=zd6 (newR b w h) (by simp [newR]) (zjn b w h)
 have k0 : KS (newEd b w h s) 0:=⟨newEd_V (by omega) hw hs,by show (0 : Int)≤6∧(6 : Int)≤6 + 200 * ((0 : Nat) : Int);omega⟩
 have hw0 : (newEd b w h s).R.w = w:=rfl
 have hpn:=zp cRq (newR b w h)
 generalize newR b w h = r0 at *
 generalize newEd b w h s = e0 at *
 have hp0:=yg e0
 have hx0:=yd e0.R
 have his:=zej e0
 refine CallP.intro2 z5 z5 ?_;refine CallT.intro zc Tryz.func5 rfl (by kernel_rfl) (Nat.le_of_ble_eq_true rfl) ?_;refine zf zc [] rfl ?_;refine za rfl ?_;refine zb ?_;refine zn ?_;refine zf zc [] rfl ?_;refine zi rfl rfl rfl (zc0) ?_;refine za rfl ?_;refine zb ?_;refine y8 rfl ?_;refine zo ?_;refine zn ?_;refine zf zc [] rfl ?_;refine za rfl ?_;refine za (t:=I64 (s.length : Nat)) rfl ?_;iterate 2 refine za rfl ?_
 refine' zu (d:=29) [_,_,_,_] rfl ?_ rfl ?_
 rotate_left
 ·refine zt rfl rfl (fun hb3_3=>?_) (fun hb3_3=>?_)
  ·have ghb3_3:=hb3_3
   try simp only [zh,Bool.not_true,Bool.not_false] at ghb3_3
   refine za rfl ?_;refine zg rfl rfl hb3_3 ?_;refine za (t:=I64 (s.length : Nat)) rfl ?_;refine zg rfl rfl hb3_3 ?_;refine za rfl ?_;refine z3 rfl (fun _=>rfl) ?_;exact zb ⟨rfl,rfl⟩
  ·refine zl rfl rfl hb3_3 ?_;refine zl rfl rfl hb3_3 ?_;exact z3 rfl (fun h=>absurd (h.symm.trans hb3_3) (by decide)) (zb ⟨rfl,rfl⟩)
 refine za rfl ?_;refine' zu (d:=34) [_,_,_,_] rfl ?_ rfl ?_
 rotate_left
 ·refine zt rfl rfl (fun hb3_8=>?_) (fun hb3_8=>?_)
  ·have ghb3_8:=hb3_8
   try simp only [zh,Bool.not_true,Bool.not_false] at ghb3_8
   refine za rfl ?_;refine zg rfl rfl hb3_8 ?_;refine za (t:=I64 (s.length : Nat)) rfl ?_;refine zg rfl rfl hb3_8 ?_;refine za rfl ?_;refine zr rfl (fun _=>rfl) ?_;exact zb ⟨rfl,rfl⟩
  ·refine zl rfl rfl hb3_8 ?_;refine zl rfl rfl hb3_8 ?_;exact zr rfl (fun h=>absurd (h.symm.trans hb3_8) (by decide)) (zb ⟨rfl,rfl⟩)
 refine za rfl ?_;refine' zu (d:=39) [_,_,_,_] rfl ?_ rfl ?_
 rotate_left
 ·refine zt rfl rfl (fun hb3_13=>?_) (fun hb3_13=>?_)
  ·have ghb3_13:=hb3_13
   try simp only [zh,Bool.not_true,Bool.not_false] at ghb3_13
   refine za rfl ?_;refine zg rfl rfl hb3_13 ?_;refine zi rfl rfl rfl (hsh) ?_;refine zg rfl rfl hb3_13 ?_;refine za rfl ?_;refine zr rfl (fun _=>rfl) ?_;exact zb ⟨rfl,rfl⟩
  ·refine zl rfl rfl hb3_13 ?_;refine zl rfl rfl hb3_13 ?_;exact zr rfl (fun h=>absurd (h.symm.trans hb3_13) (by decide)) (zb ⟨rfl,rfl⟩)
 refine zb ?_;refine zm rfl (fun hc1=>?_) (fun hc1=>?_)
 ·(try simp only [zh] at hc1)
  refine zf zc [] rfl ?_;refine za rfl ?_;refine zb ?_;refine zq ?_;exact ⟨trivial,_,rfl,Cv.eq rfl rfl⟩
 ·have hst : shortB l = true:=(by revert hc1;cases shortB l <;> simp);have hll:=zaa hst
  refine zo ?_;refine zf zc [] rfl ?_;iterate 4 refine za rfl ?_
  refine zi rfl rfl rfl (hbe) ?_;iterate 5 refine za rfl ?_
  iterate 2 refine yc rfl rfl ?_
  refine zk rfl rfl rfl rfl rfl yh rfl ?_;refine za rfl ?_;refine zk rfl rfl rfl rfl rfl yh rfl ?_;refine za rfl ?_;refine zb ?_;refine zn ?_;refine zf zc [] rfl ?_;iterate 3 refine za rfl ?_
  refine' zu (d:=57) [_,_,_,_,_] rfl ?_ rfl ?_
  rotate_left
  ·refine zt rfl rfl (fun hb6_2=>?_) (fun hb6_2=>?_)
   ·have ghb6_2:=hb6_2
    try simp only [zh,Bool.not_true,Bool.not_false] at ghb6_2
    first | refine za rfl ?_ | refine zd rfl rfl zj ?_ | refine ze rfl rfl rfl zj ?_
    refine zg rfl rfl hb6_2 ?_;first | refine za rfl ?_ | refine zd rfl rfl zj ?_ | refine ze rfl rfl rfl zj ?_
    refine zg rfl rfl hb6_2 ?_;refine zi rfl rfl rfl (his) ?_;refine zg rfl rfl hb6_2 ?_;refine za rfl ?_;refine zr rfl (fun _=>rfl) ?_;exact zb ⟨rfl,rfl⟩
   ·refine zl rfl rfl hb6_2 ?_;iterate 2 refine zl rfl rfl hb6_2 ?_
    exact zr rfl (fun h=>absurd (h.symm.trans hb6_2) (by decide)) (zb ⟨rfl,rfl⟩)
  refine zb ?_;refine y8 rfl ?_;refine zo ?_;refine zn ?_;refine zf zc [] rfl ?_;refine za rfl ?_;first | refine za rfl ?_ | refine zd rfl rfl zj ?_ | refine ze rfl rfl rfl zj ?_
  refine za rfl ?_;refine zb ?_;refine zm rfl (fun hc3=>?_) (fun hc3=>?_)
  ·(try simp only [zh] at hc3);omega
  ·(try simp only [zh] at hc3)
   refine zo ?_;refine zn ?_;refine zf zc [] rfl ?_;refine za rfl ?_;first | refine za rfl ?_ | refine zd rfl rfl zj ?_ | refine ze rfl rfl rfl zj ?_
   refine zi rfl rfl rfl (has) ?_;refine zi rfl rfl rfl (hsa) ?_;refine za rfl ?_;refine zb ?_;refine y8 rfl ?_;refine zo ?_;refine zn ?_;refine zf zc [] rfl ?_;refine za rfl ?_;refine zb ?_;refine yf ?_;refine zi8 (σ1:=Nat) (σ2:=Ed) (fun i _=>l.length - i) (fun i e=>i≤l.length∧KS e i) (fun i e=>[(15,I64 (i : Nat)),(11,.ptr 0 0),(13,.ptr 1 0)]) (fun i e=>[.c (edC e),.c (rxC e.R)]) [4] rfl (0) (e0) ?_ ?_ ?_
   ·refine ⟨[some 0,some 1],rfl,yo,yn,?_,?_⟩ <;> (repeat' first | exact trivial | exact ym | exact yq | exact yp rfl | refine yb ?_ ?_ | refine z4 rfl ?_ ?_ | refine zx ?_ ?_ | refine yk rfl ?_ | fail) <;> first | exact xd | (first | exact CvL.pure hp0 | exact CvL.pure hx0 | exact CvL.pure rfl | exact Cv.pure (by simp only [T.pure,hpl]))
   ·exact ⟨Nat.zero_le _,k0⟩
   rintro i e ⟨hi,he⟩;refine zn ?_;refine zf zc [] rfl ?_;iterate 4 refine za rfl ?_
   refine zb ?_;refine zm rfl (fun hc5=>?_) (fun hc5=>?_)
   ·(try simp only [zh] at hc5);have hil : i < l.length:=(by omega);have hsa2:=zgo hst hil;have hs1:=step_c e l[i]! he.v.w ⟨he.k.1,by have:=he.k;omega⟩ hsa2.1 (by omega);have hs2:=stepS e he.v ⟨he.k.1,by have:=he.k;omega⟩ l[i]! hsa2.1 (by omega);have he2:=he.step l[i]!;have hsm:=zd6 (e.step l[i]!).2 (by have:=(rm he.v.w l[i]! he.k.1).2.2.2;omega) (zgs he.v l[i]!);have hpe:=yg e;have hxe:=yd e.R;have hpo:=x4 l[i]!;have hi1:=zej e;have hat:=getE hil
    generalize (e.step l[i]!).1 = e2 at *
    generalize (e.step l[i]!).2 = r2 at *
    have hp2:=yg e2
    have hx2:=yd e2.R
    have hpr2:=zp cRq r2
    have hi2:=zej e2
    refine zo ?_;refine zn ?_;refine yf ?_;refine sb zc [] [_,_,_,_,_,_,_,_,_,_,_] (_) rfl yj yj yj (vb _) ?_;refine u5 (l1:=[_,_,_,_,_,_,_,_,_]) rfl ?_;first | refine za rfl ?_ | refine zd rfl rfl zj ?_ | refine ze rfl rfl rfl zj ?_
    iterate 2 refine za rfl ?_
    refine z9 (m:=i) rfl rfl rfl rfl rfl rfl hil ?_;refine zd rfl rfl (z6 cOt (m:=i) (a:=l[i]!) hat (by decide) rfl) ?_;refine zi rfl rfl rfl (hs1) ?_;iterate 3 refine za rfl ?_
    refine zb ?_;refine zas rfl ?_;refine rf rfl rfl rfl rfl ?_;refine qi (⟨rfl,Nat.le_of_ble_eq_true rfl,rfl,trivial⟩) ?_;refine za rfl ?_;refine zb ?_;refine sb zc [] [_,_,_,_,_,_,_,_,_,_,_] (_) rfl yj yj yj (vb _) ?_;refine u5 (l1:=[_,_,_,_,_,_,_,_,_]) rfl ?_;first | refine za rfl ?_ | refine zd rfl rfl zj ?_ | refine ze rfl rfl rfl zj ?_
    iterate 2 refine za rfl ?_
    refine z9 (m:=i) rfl rfl rfl rfl rfl rfl hil ?_;refine zd rfl rfl (z6 cOt (m:=i) (a:=l[i]!) hat (by decide) rfl) ?_;refine zi rfl rfl rfl (hs2) ?_;iterate 3 refine za rfl ?_
    refine zb ?_;refine zas rfl ?_;refine rf rfl rfl rfl rfl ?_;refine qi (⟨rfl,Nat.le_of_ble_eq_true rfl,rfl,trivial⟩) ?_;refine za rfl ?_;refine zb ?_;refine xr ([(15,I64 (i : Nat)),(11,.ptr 0 0),(13,.ptr 1 0),(16,.ptr 2 0),(18,.ptr 3 0)]) ([.c (edC e),.c (rxC e.R),.c (edC e2),.c (rxC e2.R)]) [4,17,19] rfl (by refine ⟨[some 0,some 1,some 2,some 3],rfl,yo,yn,?_,?_⟩ <;> (repeat' first | exact trivial | exact ym | exact yq | exact yp rfl | refine yb ?_ ?_ | refine z4 rfl ?_ ?_ | refine zx ?_ ?_ | refine yk rfl ?_ | fail) <;> first | exact xd | (first | exact CvL.eq rfl hpe | exact CvL.eq rfl hxe | exact CvL.eq rfl hp2 | exact CvL.eq rfl hx2 | exact Cv.pure (by simp only [T.pure,hpl]) | exact Cv.pure (by simp only [T.pure,hpr2]) | exact Cv.pure rfl)) ?_
    refine zn ?_;refine zf zc [] rfl ?_;first | refine za rfl ?_ | refine zd rfl rfl zj ?_ | refine ze rfl rfl rfl zj ?_
    first | refine za rfl ?_ | refine zd rfl rfl zj ?_ | refine ze rfl rfl rfl zj ?_
    refine zi rfl rfl rfl (hi2) ?_;iterate 2 refine za rfl ?_
    refine' zu (d:=102) [_,_,_,_,_] rfl ?_ rfl ?_
    rotate_left
    ·refine zt rfl rfl (fun hb17_4=>?_) (fun hb17_4=>?_)
     ·have ghb17_4:=hb17_4
      try simp only [zh,Bool.not_true,Bool.not_false] at ghb17_4
      refine za rfl ?_;refine zg rfl rfl hb17_4 ?_;refine za rfl ?_;refine zg rfl rfl hb17_4 ?_;refine zi rfl rfl rfl (hsm) ?_;refine zg rfl rfl hb17_4 ?_;refine za rfl ?_;refine zr rfl (fun _=>rfl) ?_;exact zb ⟨rfl,rfl⟩
     ·refine zl rfl rfl hb17_4 ?_;iterate 2 refine zl rfl rfl hb17_4 ?_
      exact zr rfl (fun h=>absurd (h.symm.trans hb17_4) (by decide)) (zb ⟨rfl,rfl⟩)
    refine za rfl ?_;refine' zu (d:=108) [_,_,_,_,_] rfl ?_ rfl ?_
    rotate_left
    ·refine zt rfl rfl (fun hb17_10=>?_) (fun hb17_10=>?_)
     ·have ghb17_10:=hb17_10
      try simp only [zh,Bool.not_true,Bool.not_false] at ghb17_10
      first | refine za rfl ?_ | refine zd rfl rfl zj ?_ | refine ze rfl rfl rfl zj ?_
      refine zg rfl rfl hb17_10 ?_;first | refine za rfl ?_ | refine zd rfl rfl zj ?_ | refine ze rfl rfl rfl zj ?_
      refine zg rfl rfl hb17_10 ?_;refine zi rfl rfl rfl (hi1) ?_;refine zg rfl rfl hb17_10 ?_;refine za rfl ?_;refine zr rfl (fun _=>rfl) ?_;exact zb ⟨rfl,rfl⟩
     ·refine zl rfl rfl hb17_10 ?_;iterate 2 refine zl rfl rfl hb17_10 ?_
      exact zr rfl (fun h=>absurd (h.symm.trans hb17_10) (by decide)) (zb ⟨rfl,rfl⟩)
    refine zb ?_;refine y8 rfl ?_;refine zo ?_;refine ze8 zc [] [_,_,_] (_) rfl yj yj yj (sk (b:=1) (sk (b:=0) (vb _) (by simp)) (by rw [xc];simp)) ?_;refine u5 (l1:=[_,_]) rfl ?_;first | refine za rfl ?_ | refine zd rfl rfl zj ?_ | refine ze rfl rfl rfl zj ?_
    first | refine za rfl ?_ | refine zd rfl rfl zj ?_ | refine ze rfl rfl rfl zj ?_
    refine zb ?_;refine rf rfl rfl rfl rfl ?_;refine qi (⟨rfl,Nat.le_of_ble_eq_true rfl,rfl,trivial⟩) ?_;refine zk rfl rfl rfl rfl rfl yh rfl ?_;refine zb ?_;refine zw zc [] rfl ?_;refine za rfl ?_;first | refine zy rfl rfl (by omega) ?_ | refine za rfl ?_
    refine za rfl ?_;refine zb ?_;refine ⟨i + 1,e2,by (try dsimp only);omega,?_,(by refine ⟨[some 0,some 1],rfl,yo,yn,?_,?_⟩ <;> (repeat' first | exact trivial | exact ym | exact yq | exact yp rfl | refine yb ?_ ?_ | refine z4 rfl ?_ ?_ | refine zx ?_ ?_ | refine yk rfl ?_ | fail) <;> first | exact xd | (first | exact CvL.pure hp2 | exact CvL.pure hx2 | exact CvL.pure rfl | exact CvL.eq rfl hp2 | exact CvL.eq rfl hx2 | exact Cv.pure (by simp only [T.pure,hpl])))⟩
    exact ⟨by omega,he2⟩
   ·(try simp only [zh] at hc5)
    refine yz ?_;refine zf zc [] rfl ?_;refine za rfl ?_;refine zb ?_;refine zq ?_;exact ⟨trivial,_,rfl,Cv.eq rfl rfl⟩
end

section
open Go.RowKit
set_option maxRecDepth 100000
set_option maxHeartbeats 2000000
end

section
open Go.RowKit
abbrev shEI : Sh:=.int .i64
abbrev shOut : Sh:=.st [shEI,shEI,shEI,.sl shEI,.str,.sl shEI]
theorem tr {ts : List T} (h : shEI.wt ts) : ∃ n,ts = [I64 n]∧(-9223372036854775808≤n∧n≤9223372036854775807):=by
 obtain ⟨n,rfl,hw⟩:=h
 refine ⟨n,rfl,?_⟩
 simp [Lit.wf,IntKind.min,IntKind.max,IntKind.signed,IntKind.bits] at hw
 omega
theorem zee {α : Type} (c : Cd α) {p : List T→Prop} {Q : α→Prop} (h : ∀ a,p a→∃ x,a = c.cells x∧Q x) : ∀ (n : Nat) {xs : List T},nth p n xs→∃ l : List α,xs = encL c l∧l.length = n∧∀ x∈l,Q x
 | 0,xs,k=>⟨[],k,rfl,fun _ hx=>by cases hx⟩
 | n + 1,xs,⟨a,b,e,k1,k2⟩=>by
  obtain ⟨x,rfl,hx⟩:=h a k1
  obtain ⟨l,rfl,rfl,hl⟩:=zee c h n k2
  exact ⟨x :: l,e,rfl,fun y hy=>by
   rcases List.mem_cons.1 hy with rfl | hy
   ·exact hx
   ·exact hl y hy⟩
theorem wtE_sl {α : Type} (c : Cd α) {s : Sh} {Q : α→Prop} (h : ∀ a,s.wt a→∃ x,a = c.cells x∧Q x) {ts : List T} (k : (Sh.sl s).wt ts) : ∃ l : List α,ts = [.islc (encL c l) l.length none]∧l.length≤maxLen∧∀ x∈l,Q x:=by
 obtain ⟨xs,n,rfl,h1,h2⟩:=k
 obtain ⟨l,rfl,rfl,hl⟩:=zee c h n h2
 exact ⟨l,rfl,h1,hl⟩
theorem zdz {ts : List T} (h : (Sh.sl shEI).wt ts) : ∃ l : List Int,ts = [cIf l]:=by
 obtain ⟨l,h1,-,-⟩:=wtE_sl cI (Q:=fun _=>True) (fun a k=>by obtain ⟨n,e,-⟩:=tr k;exact ⟨n,e,trivial⟩) h
 exact ⟨l,h1⟩
theorem wtE_out {ts : List T} (h : shOut.wt ts) : ∃ o : Ot,ts = cOt.cells o:=by
 obtain ⟨a1,b1,rfl,k1,a2,b2,rfl,k2,a3,b3,rfl,k3,a4,b4,rfl,k4,a5,b5,rfl,k5,a6,b6,rfl,k6,rfl⟩:=h
 obtain ⟨n1,rfl,-⟩:=tr k1
 obtain ⟨n2,rfl,-⟩:=tr k2
 obtain ⟨n3,rfl,-⟩:=tr k3
 obtain ⟨n4,rfl⟩:=zdz k4
 obtain ⟨n5,rfl,-⟩:=zf0 k5
 obtain ⟨n6,rfl⟩:=zdz k6
 exact ⟨⟨n1,n2,n3,n4,n5,n6⟩,rfl⟩
theorem zja {ts : List T} (h : (Sh.sl shOut).wt ts) : ∃ l : List Ot,ts = [otsT l]:=by
 obtain ⟨l,h1,-,-⟩:=wtE_sl cOt (Q:=fun _=>True) (fun a k=>by obtain ⟨o,e⟩:=wtE_out k;exact ⟨o,e,trivial⟩) h
 exact ⟨l,h1⟩
end

section
open Go.RowKit
set_option maxRecDepth 100000
theorem pu (c w h : Int) (s : List UInt8) (l : List Ot) : CallP Tryz.prog 5 [I64 c,I64 w,I64 h,strT s,otsT l] (BL true):=by
 by_cases hx : newX c w h s = 0
 ·unfold newX at hx
  split at hx
  ·omega
  split at hx
  ·omega
  split at hx
  ·omega
  split at hx
  ·omega
  rename_i h1 h2 h3 h4
  obtain ⟨n,rfl⟩:=Int.eq_ofNat_of_zero_le (show 0≤c by omega)
  exact pq n (n * 1048576) rfl w h s l (by omega) (by omega) (by omega) (by omega) (by simpa using h4)
 ·exact p9 c w h s l hx
theorem editorSteps_wt {t0 t1 t2 t3 t4 : List T} (h0 : shEI.wt t0) (h1 : shEI.wt t1) (h2 : shEI.wt t2) (h3 : Sh.str.wt t3) (h4 : (Sh.sl shOut).wt t4) : CallP Tryz.prog 5 [shEI.tree t0,shEI.tree t1,shEI.tree t2,Sh.str.tree t3,(Sh.sl shOut).tree t4] (BL true):=by
 obtain ⟨c,rfl,-⟩:=tr h0
 obtain ⟨w,rfl,-⟩:=tr h1
 obtain ⟨h,rfl,-⟩:=tr h2
 obtain ⟨s,rfl,hs⟩:=zf0 h3
 obtain ⟨l,rfl⟩:=zja h4
 exact pu c w h s l
end

section
open Go.RowKit
set_option maxRecDepth 100000
theorem glo_of {W : World} {l : List (String × DataW Unit)} (hf : l.filter (fun x => x.1 == "strings.asciiSpace") = [("strings.asciiSpace", Lib.tabData .u8 Lib.asciiSpaceTab)]) (h : laidMetH Tryz.prog l W) : Glo (inW (fun _ => none) W) := by
 have h2 := h.filter (fun x => x.1 == "strings.asciiSpace")
 rw [hf,MakeChecks.laidMetH_plain _ _ _ (by kernel_rfl)] at h2
 have ht : Lib.TabIs Tryz.prog W "strings.asciiSpace" .u8 Lib.asciiSpaceTab := Lib.tabIs_of_head (g := 0) (t := 161) (e := 5) (n := 256) (by kernel_rfl) (by kernel_rfl) (by kernel_rfl) (by kernel_rfl) (by kernel_rfl) (by kernel_rfl) h2
 intro g a hg
 have hg' : glT g = some a:=hg
 unfold glT at hg'
 split at hg'
 ·rename_i hgg
  subst hgg
  injection hg' with hg'
  subst hg'
  unfold Lib.TabIs World.var? at ht
  rw [show Tryz.prog.globalNamed "strings.asciiSpace" = some 0 from by kernel_rfl] at ht
  simp only [Option.bind_some] at ht
  refine ⟨fun h=>h,?_⟩
  show ∃ e f,W.heap[0]? = some (.cells spaceA e f)
  split at ht
  ·rename_i cs e f he
   injection ht with ht
   subst ht
   exact ⟨_,_,he⟩
  ·cases ht
 ·cases hg'
end

section
open Go.ChangeShapes Go.WideShapes Go.ChangeAt Go.RowKit Go.WideElems
def rowed (P : Program) (ts : List TypeId) : Bool:=ts.all fun t=>P.readableRec t && decide (t < P.types.size)
theorem se {H : Type} {enc : TypeId × Value→H} {P : Program} (hl : laidOutB P = true) {W W' : World} (hb : Below W.heap.size W W') :
  ∀ {ts : List TypeId} {vs : List Value} {ds : List (DataW H)} {p : List MemPlace},rowed P ts = true→(∀ x∈p,x.block < W.heap.size)→
   DataW.TrodAll enc P W 0 (fun _=>true) true ts vs ds p→DataW.TrodAll enc P W' 0 (fun b=>decide (b < W.heap.size)) true ts vs ds p
 | [],_,_,_,_,_,h=>by
  obtain ⟨rfl,rfl,rfl⟩:=trodAll_nil h
  exact trodAll_mk0
 | t :: ts,_,_,_,hr,hlt,h=>by
  obtain ⟨v,vs1,d,ds1,a,b,rfl,rfl,rfl,h1,h2⟩:=trodAll_cons h
  simp only [rowed,List.all_cons,Bool.and_eq_true,decide_eq_true_eq] at hr
  refine trodAll_cons_mk (Below.trod hl hr.1.1 hr.1.2 h1 hb (fun x hx=>hlt x (by simp [hx]))) ?_;exact se hl hb (by simpa [rowed] using hr.2) (fun x hx=>hlt x (by simp [hx])) h2
theorem post_law {H : Type} {enc : TypeId × Value→H} {P : Program} {f : Func} {s : ChangeSpec} {W W' : World} {args : Array Value} {ds gs : List (DataW H)} {before : List MemPlace} {tb : TypeId}
  (hl : laidOutB P = true) (hps : rowed P f.params.toList = true) (hvs : varsRowed P s.vars = true) (hres : f.resultTypes = #[tb]) (htb : P.underlying tb = some .bool)
  (hW : DataW.Whole enc P f.params.toList s.vars false W args.toList ds gs before)
  (h1 : (s.fn H (ds ++ gs)).results = [.lit (.bool true)]) (h2 : (s.fn H (ds ++ gs)).args = ds) (h3 : (s.fn H (ds ++ gs)).vars = gs)
  (hb : Below W.heap.size W W') : s.post enc P f false true false false W args (.bool true) W':=by
 have hlt:=hW.lt
 have hW':=hW
 obtain ⟨p,q,hA,hV,rfl,hfz,hnd⟩:=hW
 refine ⟨ds,gs,p ++ q,[],p,q,hW',?_,?_,?_,hb.frame _,fun h=>by cases h⟩
 ·rw [h1,hres]
  exact trodAll_cons_mk (shut_bool htb true) trodAll_mk0
 ·rw [h2]
  exact se hl hb hps (fun x hx=>hlt x (by simp [hx])) hA
 ·rw [h3]
  exact Below.trodVars hl hb hvs hV
end
end Go.Proofs.YtofmninnienjhaaGreatDoor
