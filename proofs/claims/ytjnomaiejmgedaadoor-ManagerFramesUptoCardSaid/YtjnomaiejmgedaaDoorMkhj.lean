/-
  The proof's lemmas, part 6.
-/
import Derived.Test.YtjnomaiejmgedaaDoorMkhe
import Derived.LaidSub
import Derived.MakeChecks
import Derived.OpenVars
import Derived.Carry
namespace Go.Proofs.YtjnomaiejmgedaaDoor
set_option linter.unusedSimpArgs false
set_option linter.unusedVariables false

section
open Go.RowKit
set_option maxRecDepth 10000
set_option maxHeartbeats 2000000
theorem ze0 (m : Mg) (n : List Int) (top : Int) (ok : m.Ok top) (htop : top≤1000000) (hn : 9≤n.length) (i : Nat) (v : Fr) (he : m.F[i]? = some (n[1]!,v)) (hp : posK m.F n[1]! = some i) (hm : 0≤n[2]!∧n[2]!≤2147483647) (e4 : bit n[2]! 4 = false) (e8 : bit n[2]! 8 = true) (eL : (bit n[2]! 1 || bit n[2]! 2) = false) (e16 : bit n[2]! 16 = false) (eB : confBig v n[2]! n[5]! n[6]! = false) :
  CallT Tryd.prog 90 [.ptr 0 0,cIf n] (tnH m (mF m) (mW m) []) (fun t H'=>t = .tup []∧H' = ranH (m.conf n[1]! n[2]! n[3]! n[4]! n[5]! n[6]! n[7]! n[8]!).1 (m.conf n[1]! n[2]! n[3]! n[4]! n[5]! n[6]! n[7]! n[8]!).2 []):=by
 have hc:=ok.cnt
 have hpF:=piF m.F
 have hpW:=piW m.W
 have hlk:=lookF ok.fk n[1]! true
 have hmo:=he
 have h12 : (bitV .and .i64 n[2]! 12 != 0) = true:=by rw [and12 hm,e4,e8];rfl
 have h4 : (bitV .and .i64 n[2]! 4 != 0) = false:=by rw [and4 hm,e4]
 have h8 : (bitV .and .i64 n[2]! 8 != 0) = true:=by rw [and8 hm,e8]
 have h16 : (bitV .and .i64 n[2]! 16 != 0) = false:=by rw [and16 hm,e16]
 have h3 : (bitV .and .i64 n[2]! 3 != 0) = false:=by rw [and3 hm,eL]
 have h3v:=and3v hm
 have hr : m.conf n[1]! n[2]! n[3]! n[4]! n[5]! n[6]! n[7]! n[8]! = (m,[]):=by
  unfold Mg.conf;rw [hp];simp only [getM he,confA,eB,eL,e16,confW,confH,e4,e8,if_true,if_false,Bool.false_eq_true,List.append_nil,List.nil_append,List.cons_append,List.length_cons,List.length_nil]
  exact Prod.ext (by show ({ m with cnt:=m.cnt + ((0 : Nat) : Int) } : Mg) = m;rw [show m.cnt + ((0 : Nat) : Int) = m.cnt from by omega]) rfl
 unfold confBig confW confH at eB
 rw [e4,e8] at eB
 simp only [Bool.or_true,Bool.or_false,Bool.true_or,Bool.false_or,Bool.true_and,if_true,if_false,Bool.false_eq_true,Bool.and_eq_true,decide_eq_true_eq,Bool.and_eq_false_iff,decide_eq_false_iff_not] at eB
 rw [hr]
 rw [xb hp he] at hlk
 refine CallT.intro zc Tryd.func90 rfl (by kernel_rfl) (Nat.le_of_ble_eq_true rfl) ?_;refine yu zc [] [_,_,_,_,_,_,_,_,_,_,_,_,_,_,_,_,_,_,_,_] rfl yj yj ?_;refine za rfl ?_;refine zr rfl rfl rfl rfl rfl y9 zu ?_;refine zm rfl rfl yn ?_;refine za rfl ?_;refine zr rfl rfl rfl rfl rfl y9 zu ?_;refine zm rfl rfl yn ?_;refine za rfl ?_;refine zr rfl rfl rfl rfl rfl y9 zu ?_;refine zm rfl rfl yn ?_;refine za rfl ?_;refine zr rfl rfl rfl rfl rfl y9 zu ?_;refine zm rfl rfl yn ?_;refine za rfl ?_;refine zr rfl rfl rfl rfl rfl y9 zu ?_;refine zm rfl rfl yn ?_;iterate 5 refine za rfl ?_
 iterate 2 refine zb ?_
 refine ze zc [] rfl ?_;iterate 6 refine za rfl ?_
 refine yy zc rfl rfl rfl hlk ?_;iterate 3 refine za rfl ?_
 refine yk rfl rfl ?_;refine zp rfl rfl rfl rfl rfl xf rfl ?_;refine za rfl ?_;refine zb ?_;refine z7 ([(0,.ptr 0 0),(9,.iptr (frC v) 0)]) (tnH m (mF m) (mW m) []) [1,4,5,6,7,8,10] rfl (by refine ⟨[some 0,some 1,some 2,some 3],rfl,yb,ya,?_,?_⟩ <;> (repeat' first | exact trivial | exact yc | exact yd | exact z9 rfl | refine zn ?_ ?_ | refine zk rfl ?_ ?_ | refine zj ?_ ?_ | refine ye rfl ?_ | fail) <;> first | exact yv | (first | exact yg (Cv.om rfl) (Cv.om rfl) (Cv.slc rfl (.inr rfl)) | exact yg (Cv.om rfl) (Cv.om rfl) (Cv.slc rfl (.inl rfl)) | exact CvL.pure (zg _ _) | exact Cv.ptr rfl | exact CvL.pure rfl | exact Cv.fptr ⟨rfl,(by simp)⟩ (CvL.pure rfl))) ?_
 refine zo ?_;refine ze zc [] rfl ?_;iterate 2 refine za rfl ?_
 refine zb ?_;refine yq rfl ?_;refine zt ?_;refine zo ?_;refine ze zc [] rfl ?_;iterate 3 refine za rfl ?_
 refine zb ?_;refine zi rfl (fun hc1=>?_) (fun hc1=>?_)
 ·(try simp only [zf] at hc1)
  refine yu zc [] [_,_,_,_,_,_] rfl yj yj ?_;iterate 6 refine za rfl ?_
  iterate 2 refine zb ?_
  refine zo ?_;refine ze zc [] rfl ?_;iterate 3 refine za rfl ?_
  refine zb ?_;refine zi rfl (fun hc2=>?_) (fun hc2=>?_)
  ·exact absurd (h4.symm.trans hc2) (by decide)
  ·(try simp only [zf] at hc2)
   refine zt ?_;refine zo ?_;refine ze zc [] rfl ?_;iterate 3 refine za rfl ?_
   refine zb ?_;refine zi rfl (fun hc3=>?_) (fun hc3=>?_)
   ·(try simp only [zf] at hc3)
    refine z4 zc [] rfl ?_;refine za rfl ?_;refine zr rfl rfl rfl rfl rfl y9 zu ?_;refine zm rfl rfl yn ?_;refine za rfl ?_;refine zb ?_;refine ze zc [] rfl ?_;iterate 3 refine za rfl ?_
    refine' zx (d:=68) [_,_,_] rfl ?_ rfl ?_
    rotate_left
    ·refine zw rfl rfl (fun hb10_2=>?_) (fun hb10_2=>?_)
     ·have ghb10_2:=hb10_2
      try simp only [zf,Bool.not_true,Bool.not_false] at ghb10_2
      refine za rfl ?_;refine zd rfl rfl hb10_2 ?_;refine za rfl ?_;refine zh rfl (fun _=>rfl) ?_;exact zb ⟨rfl,rfl⟩
     ·refine zl rfl rfl hb10_2 ?_;exact zh rfl (fun h=>absurd (h.symm.trans hb10_2) (by decide)) (zb ⟨rfl,rfl⟩)
    refine za rfl ?_;refine' zx (d:=72) [_,_,_] rfl ?_ rfl ?_
    rotate_left
    ·refine zw rfl rfl (fun hb10_6=>?_) (fun hb10_6=>?_)
     ·have ghb10_6:=hb10_6
      try simp only [zf,Bool.not_true,Bool.not_false] at ghb10_6
      refine za rfl ?_;refine zd rfl rfl hb10_6 ?_;refine za rfl ?_;refine zh rfl (fun _=>rfl) ?_;exact zb ⟨rfl,rfl⟩
     ·refine zl rfl rfl hb10_6 ?_;exact zh rfl (fun h=>absurd (h.symm.trans hb10_6) (by decide)) (zb ⟨rfl,rfl⟩)
    refine za rfl ?_;refine' zx (d:=76) [_,_,_] rfl ?_ rfl ?_
    rotate_left
    ·refine zw rfl rfl (fun hb10_10=>?_) (fun hb10_10=>?_)
     ·have ghb10_10:=hb10_10
      try simp only [zf,Bool.not_true,Bool.not_false] at ghb10_10
      refine za rfl ?_;refine zd rfl rfl hb10_10 ?_;refine za rfl ?_;refine zh rfl (fun _=>rfl) ?_;exact zb ⟨rfl,rfl⟩
     ·refine zl rfl rfl hb10_10 ?_;exact zh rfl (fun h=>absurd (h.symm.trans hb10_10) (by decide)) (zb ⟨rfl,rfl⟩)
    refine zb ?_;refine zi rfl (fun hc4=>?_) (fun hc4=>?_)
    ·(try simp only [zf] at hc4);have e5 : n[Int.toNat 5]! = n[5]!:=rfl;have e6 : n[Int.toNat 6]! = n[6]!:=rfl;exfalso;omega
    ·(try simp only [zf] at hc4)
     refine zt ?_;refine zo ?_;refine ze zc [] rfl ?_;iterate 3 refine za rfl ?_
     refine zb ?_;refine zi rfl (fun hc5=>?_) (fun hc5=>?_)
     ·exact absurd (h3.symm.trans hc5) (by decide)
     ·(try simp only [zf] at hc5)
      refine zt ?_;refine ze zc [] rfl ?_;iterate 3 refine za rfl ?_
      refine zb ?_;refine zi rfl (fun hc6=>?_) (fun hc6=>?_)
      ·exact absurd (h16.symm.trans hc6) (by decide)
      ·(try simp only [zf] at hc6)
       refine zt ?_;exact ⟨trivial,_,rfl,rfl,rfl⟩
   ·exact absurd (h8.symm.trans hc3) (by decide)
 ·exact absurd (h12.symm.trans hc1) (by decide)
theorem zez (m : Mg) (n : List Int) (top : Int) (ok : m.Ok top) (htop : top≤1000000) (hn : 9≤n.length) (i : Nat) (v : Fr) (he : m.F[i]? = some (n[1]!,v)) (hp : posK m.F n[1]! = some i) (hm : 0≤n[2]!∧n[2]!≤2147483647) (e4 : bit n[2]! 4 = false) (e8 : bit n[2]! 8 = true) (eL : (bit n[2]! 1 || bit n[2]! 2) = false) (e16 : bit n[2]! 16 = true) (eB : confBig v n[2]! n[5]! n[6]! = false) :
  CallT Tryd.prog 90 [.ptr 0 0,cIf n] (tnH m (mF m) (mW m) []) (fun t H'=>t = .tup []∧H' = ranH (m.conf n[1]! n[2]! n[3]! n[4]! n[5]! n[6]! n[7]! n[8]!).1 (m.conf n[1]! n[2]! n[3]! n[4]! n[5]! n[6]! n[7]! n[8]!).2 []):=by
 have hc:=ok.cnt
 have hpF:=piF m.F
 have hpW:=piW m.W
 have hlk:=lookF ok.fk n[1]! true
 have hmo:=he
 obtain ⟨R0,hR0⟩ : ∃ R,R = rq 5 [v.fr,16,0,0,0,0,0,n[8]!]:=⟨_,rfl⟩
 have h12 : (bitV .and .i64 n[2]! 12 != 0) = true:=by rw [and12 hm,e4,e8];rfl
 have h4 : (bitV .and .i64 n[2]! 4 != 0) = false:=by rw [and4 hm,e4]
 have h8 : (bitV .and .i64 n[2]! 8 != 0) = true:=by rw [and8 hm,e8]
 have h16 : (bitV .and .i64 n[2]! 16 != 0) = true:=by rw [and16 hm,e16]
 have h3 : (bitV .and .i64 n[2]! 3 != 0) = false:=by rw [and3 hm,eL]
 have h3v:=and3v hm
 have hr : m.conf n[1]! n[2]! n[3]! n[4]! n[5]! n[6]! n[7]! n[8]! = (m.up 1,[R0]):=by
  unfold Mg.conf;rw [hp];simp only [getM he,confA,eB,eL,e16,confW,confH,e4,e8,if_true,if_false,Bool.false_eq_true,List.append_nil,List.nil_append,List.cons_append,List.length_cons,List.length_nil,hR0]
  try rfl
 unfold confBig confW confH at eB
 rw [e4,e8] at eB
 simp only [Bool.or_true,Bool.or_false,Bool.true_or,Bool.false_or,Bool.true_and,if_true,if_false,Bool.false_eq_true,Bool.and_eq_true,decide_eq_true_eq,Bool.and_eq_false_iff,decide_eq_false_iff_not] at eB
 rw [hr]
 rw [xb hp he] at hlk
 have c0 : CallT Tryd.prog 125 [.ptr 0 0,I64 v.fr,I64 16,I64 0,I64 0,I64 0,I64 0,I64 n[8]!] (tnH m (mF m) (mW m) []) (fun t H'=>t = .tup []∧H' = tnH1 (m.up 1) (mF m) (mW m) [R0]):=by
  have:=yi m (mF m) (mW m) v.fr 16 0 0 0 0 n[8]! [] (by simp) (by skip;omega) hpF hpW
  rw [← hR0] at this
  exact this
 refine CallT.intro zc Tryd.func90 rfl (by kernel_rfl) (Nat.le_of_ble_eq_true rfl) ?_;refine yu zc [] [_,_,_,_,_,_,_,_,_,_,_,_,_,_,_,_,_,_,_,_] rfl yj yj ?_;refine za rfl ?_;refine zr rfl rfl rfl rfl rfl y9 zu ?_;refine zm rfl rfl yn ?_;refine za rfl ?_;refine zr rfl rfl rfl rfl rfl y9 zu ?_;refine zm rfl rfl yn ?_;refine za rfl ?_;refine zr rfl rfl rfl rfl rfl y9 zu ?_;refine zm rfl rfl yn ?_;refine za rfl ?_;refine zr rfl rfl rfl rfl rfl y9 zu ?_;refine zm rfl rfl yn ?_;refine za rfl ?_;refine zr rfl rfl rfl rfl rfl y9 zu ?_;refine zm rfl rfl yn ?_;iterate 5 refine za rfl ?_
 iterate 2 refine zb ?_
 refine ze zc [] rfl ?_;iterate 6 refine za rfl ?_
 refine yy zc rfl rfl rfl hlk ?_;iterate 3 refine za rfl ?_
 refine yk rfl rfl ?_;refine zp rfl rfl rfl rfl rfl xf rfl ?_;refine za rfl ?_;refine zb ?_;refine z7 ([(0,.ptr 0 0),(9,.iptr (frC v) 0)]) (tnH m (mF m) (mW m) []) [1,4,5,6,7,8,10] rfl (by refine ⟨[some 0,some 1,some 2,some 3],rfl,yb,ya,?_,?_⟩ <;> (repeat' first | exact trivial | exact yc | exact yd | exact z9 rfl | refine zn ?_ ?_ | refine zk rfl ?_ ?_ | refine zj ?_ ?_ | refine ye rfl ?_ | fail) <;> first | exact yv | (first | exact yg (Cv.om rfl) (Cv.om rfl) (Cv.slc rfl (.inr rfl)) | exact yg (Cv.om rfl) (Cv.om rfl) (Cv.slc rfl (.inl rfl)) | exact CvL.pure (zg _ _) | exact Cv.ptr rfl | exact CvL.pure rfl | exact Cv.fptr ⟨rfl,(by simp)⟩ (CvL.pure rfl))) ?_
 refine zo ?_;refine ze zc [] rfl ?_;iterate 2 refine za rfl ?_
 refine zb ?_;refine yq rfl ?_;refine zt ?_;refine zo ?_;refine ze zc [] rfl ?_;iterate 3 refine za rfl ?_
 refine zb ?_;refine zi rfl (fun hc1=>?_) (fun hc1=>?_)
 ·(try simp only [zf] at hc1)
  refine yu zc [] [_,_,_,_,_,_] rfl yj yj ?_;iterate 6 refine za rfl ?_
  iterate 2 refine zb ?_
  refine zo ?_;refine ze zc [] rfl ?_;iterate 3 refine za rfl ?_
  refine zb ?_;refine zi rfl (fun hc2=>?_) (fun hc2=>?_)
  ·exact absurd (h4.symm.trans hc2) (by decide)
  ·(try simp only [zf] at hc2)
   refine zt ?_;refine zo ?_;refine ze zc [] rfl ?_;iterate 3 refine za rfl ?_
   refine zb ?_;refine zi rfl (fun hc3=>?_) (fun hc3=>?_)
   ·(try simp only [zf] at hc3)
    refine z4 zc [] rfl ?_;refine za rfl ?_;refine zr rfl rfl rfl rfl rfl y9 zu ?_;refine zm rfl rfl yn ?_;refine za rfl ?_;refine zb ?_;refine ze zc [] rfl ?_;iterate 3 refine za rfl ?_
    refine' zx (d:=68) [_,_,_] rfl ?_ rfl ?_
    rotate_left
    ·refine zw rfl rfl (fun hb10_2=>?_) (fun hb10_2=>?_)
     ·have ghb10_2:=hb10_2
      try simp only [zf,Bool.not_true,Bool.not_false] at ghb10_2
      refine za rfl ?_;refine zd rfl rfl hb10_2 ?_;refine za rfl ?_;refine zh rfl (fun _=>rfl) ?_;exact zb ⟨rfl,rfl⟩
     ·refine zl rfl rfl hb10_2 ?_;exact zh rfl (fun h=>absurd (h.symm.trans hb10_2) (by decide)) (zb ⟨rfl,rfl⟩)
    refine za rfl ?_;refine' zx (d:=72) [_,_,_] rfl ?_ rfl ?_
    rotate_left
    ·refine zw rfl rfl (fun hb10_6=>?_) (fun hb10_6=>?_)
     ·have ghb10_6:=hb10_6
      try simp only [zf,Bool.not_true,Bool.not_false] at ghb10_6
      refine za rfl ?_;refine zd rfl rfl hb10_6 ?_;refine za rfl ?_;refine zh rfl (fun _=>rfl) ?_;exact zb ⟨rfl,rfl⟩
     ·refine zl rfl rfl hb10_6 ?_;exact zh rfl (fun h=>absurd (h.symm.trans hb10_6) (by decide)) (zb ⟨rfl,rfl⟩)
    refine za rfl ?_;refine' zx (d:=76) [_,_,_] rfl ?_ rfl ?_
    rotate_left
    ·refine zw rfl rfl (fun hb10_10=>?_) (fun hb10_10=>?_)
     ·have ghb10_10:=hb10_10
      try simp only [zf,Bool.not_true,Bool.not_false] at ghb10_10
      refine za rfl ?_;refine zd rfl rfl hb10_10 ?_;refine za rfl ?_;refine zh rfl (fun _=>rfl) ?_;exact zb ⟨rfl,rfl⟩
     ·refine zl rfl rfl hb10_10 ?_;exact zh rfl (fun h=>absurd (h.symm.trans hb10_10) (by decide)) (zb ⟨rfl,rfl⟩)
    refine zb ?_;refine zi rfl (fun hc4=>?_) (fun hc4=>?_)
    ·(try simp only [zf] at hc4);have e5 : n[Int.toNat 5]! = n[5]!:=rfl;have e6 : n[Int.toNat 6]! = n[6]!:=rfl;exfalso;omega
    ·(try simp only [zf] at hc4)
     refine zt ?_;refine zo ?_;refine ze zc [] rfl ?_;iterate 3 refine za rfl ?_
     refine zb ?_;refine zi rfl (fun hc5=>?_) (fun hc5=>?_)
     ·exact absurd (h3.symm.trans hc5) (by decide)
     ·(try simp only [zf] at hc5)
      refine zt ?_;refine ze zc [] rfl ?_;iterate 3 refine za rfl ?_
      refine zb ?_;refine zi rfl (fun hc6=>?_) (fun hc6=>?_)
      ·(try simp only [zf] at hc6)
       refine z4 zc [] rfl ?_;iterate 4 refine za rfl ?_
       refine zq rfl rfl (CallT.frame (c0) [0,1,2,3] rfl z3 z3 ?_)
       rintro _ _ ⟨rfl,rfl⟩;refine frK zy zy ?_;refine zb ?_;exact ⟨trivial,_,rfl,rfl,rfl⟩
      ·exact absurd (h16.symm.trans hc6) (by decide)
   ·exact absurd (h8.symm.trans hc3) (by decide)
 ·exact absurd (h12.symm.trans hc1) (by decide)
theorem zey (m : Mg) (n : List Int) (top : Int) (ok : m.Ok top) (htop : top≤1000000) (hn : 9≤n.length) (i : Nat) (v : Fr) (he : m.F[i]? = some (n[1]!,v)) (hp : posK m.F n[1]! = some i) (hm : 0≤n[2]!∧n[2]!≤2147483647) (e4 : bit n[2]! 4 = false) (e8 : bit n[2]! 8 = true) (eL : (bit n[2]! 1 || bit n[2]! 2) = true) (e16 : bit n[2]! 16 = false) (eB : confBig v n[2]! n[5]! n[6]! = false) :
  CallT Tryd.prog 90 [.ptr 0 0,cIf n] (tnH m (mF m) (mW m) []) (fun t H'=>t = .tup []∧H' = ranH (m.conf n[1]! n[2]! n[3]! n[4]! n[5]! n[6]! n[7]! n[8]!).1 (m.conf n[1]! n[2]! n[3]! n[4]! n[5]! n[6]! n[7]! n[8]!).2 []):=by
 have hc:=ok.cnt
 have hpF:=piF m.F
 have hpW:=piW m.W
 have hlk:=lookF ok.fk n[1]! true
 have hmo:=he
 obtain ⟨R0,hR0⟩ : ∃ R,R = rq 5 [v.fr,n[2]! % 4,n[3]!,n[4]!,0,0,0,0]:=⟨_,rfl⟩
 have h12 : (bitV .and .i64 n[2]! 12 != 0) = true:=by rw [and12 hm,e4,e8];rfl
 have h4 : (bitV .and .i64 n[2]! 4 != 0) = false:=by rw [and4 hm,e4]
 have h8 : (bitV .and .i64 n[2]! 8 != 0) = true:=by rw [and8 hm,e8]
 have h16 : (bitV .and .i64 n[2]! 16 != 0) = false:=by rw [and16 hm,e16]
 have h3 : (bitV .and .i64 n[2]! 3 != 0) = true:=by rw [and3 hm,eL]
 have h3v:=and3v hm
 have hr : m.conf n[1]! n[2]! n[3]! n[4]! n[5]! n[6]! n[7]! n[8]! = (m.up 1,[R0]):=by
  unfold Mg.conf;rw [hp];simp only [getM he,confA,eB,eL,e16,confW,confH,e4,e8,if_true,if_false,Bool.false_eq_true,List.append_nil,List.nil_append,List.cons_append,List.length_cons,List.length_nil,hR0]
  try rfl
 unfold confBig confW confH at eB
 rw [e4,e8] at eB
 simp only [Bool.or_true,Bool.or_false,Bool.true_or,Bool.false_or,Bool.true_and,if_true,if_false,Bool.false_eq_true,Bool.and_eq_true,decide_eq_true_eq,Bool.and_eq_false_iff,decide_eq_false_iff_not] at eB
 rw [hr]
 rw [xb hp he] at hlk
 have c0 : CallT Tryd.prog 125 [.ptr 0 0,I64 v.fr,I64 (n[2]! % 4),I64 n[3]!,I64 n[4]!,I64 0,I64 0,I64 0] (tnH m (mF m) (mW m) []) (fun t H'=>t = .tup []∧H' = tnH1 (m.up 1) (mF m) (mW m) [R0]):=by
  have:=yi m (mF m) (mW m) v.fr (n[2]! % 4) n[3]! n[4]! 0 0 0 [] (by simp) (by skip;omega) hpF hpW
  rw [← hR0] at this
  exact this
 refine CallT.intro zc Tryd.func90 rfl (by kernel_rfl) (Nat.le_of_ble_eq_true rfl) ?_;refine yu zc [] [_,_,_,_,_,_,_,_,_,_,_,_,_,_,_,_,_,_,_,_] rfl yj yj ?_;refine za rfl ?_;refine zr rfl rfl rfl rfl rfl y9 zu ?_;refine zm rfl rfl yn ?_;refine za rfl ?_;refine zr rfl rfl rfl rfl rfl y9 zu ?_;refine zm rfl rfl yn ?_;refine za rfl ?_;refine zr rfl rfl rfl rfl rfl y9 zu ?_;refine zm rfl rfl yn ?_;refine za rfl ?_;refine zr rfl rfl rfl rfl rfl y9 zu ?_;refine zm rfl rfl yn ?_;refine za rfl ?_;refine zr rfl rfl rfl rfl rfl y9 zu ?_;refine zm rfl rfl yn ?_;iterate 5 refine za rfl ?_
 iterate 2 refine zb ?_
 refine ze zc [] rfl ?_;iterate 6 refine za rfl ?_
 refine yy zc rfl rfl rfl hlk ?_;iterate 3 refine za rfl ?_
 refine yk rfl rfl ?_;refine zp rfl rfl rfl rfl rfl xf rfl ?_;refine za rfl ?_;refine zb ?_;refine z7 ([(0,.ptr 0 0),(9,.iptr (frC v) 0)]) (tnH m (mF m) (mW m) []) [1,4,5,6,7,8,10] rfl (by refine ⟨[some 0,some 1,some 2,some 3],rfl,yb,ya,?_,?_⟩ <;> (repeat' first | exact trivial | exact yc | exact yd | exact z9 rfl | refine zn ?_ ?_ | refine zk rfl ?_ ?_ | refine zj ?_ ?_ | refine ye rfl ?_ | fail) <;> first | exact yv | (first | exact yg (Cv.om rfl) (Cv.om rfl) (Cv.slc rfl (.inr rfl)) | exact yg (Cv.om rfl) (Cv.om rfl) (Cv.slc rfl (.inl rfl)) | exact CvL.pure (zg _ _) | exact Cv.ptr rfl | exact CvL.pure rfl | exact Cv.fptr ⟨rfl,(by simp)⟩ (CvL.pure rfl))) ?_
 refine zo ?_;refine ze zc [] rfl ?_;iterate 2 refine za rfl ?_
 refine zb ?_;refine yq rfl ?_;refine zt ?_;refine zo ?_;refine ze zc [] rfl ?_;iterate 3 refine za rfl ?_
 refine zb ?_;refine zi rfl (fun hc1=>?_) (fun hc1=>?_)
 ·(try simp only [zf] at hc1)
  refine yu zc [] [_,_,_,_,_,_] rfl yj yj ?_;iterate 6 refine za rfl ?_
  iterate 2 refine zb ?_
  refine zo ?_;refine ze zc [] rfl ?_;iterate 3 refine za rfl ?_
  refine zb ?_;refine zi rfl (fun hc2=>?_) (fun hc2=>?_)
  ·exact absurd (h4.symm.trans hc2) (by decide)
  ·(try simp only [zf] at hc2)
   refine zt ?_;refine zo ?_;refine ze zc [] rfl ?_;iterate 3 refine za rfl ?_
   refine zb ?_;refine zi rfl (fun hc3=>?_) (fun hc3=>?_)
   ·(try simp only [zf] at hc3)
    refine z4 zc [] rfl ?_;refine za rfl ?_;refine zr rfl rfl rfl rfl rfl y9 zu ?_;refine zm rfl rfl yn ?_;refine za rfl ?_;refine zb ?_;refine ze zc [] rfl ?_;iterate 3 refine za rfl ?_
    refine' zx (d:=68) [_,_,_] rfl ?_ rfl ?_
    rotate_left
    ·refine zw rfl rfl (fun hb10_2=>?_) (fun hb10_2=>?_)
     ·have ghb10_2:=hb10_2
      try simp only [zf,Bool.not_true,Bool.not_false] at ghb10_2
      refine za rfl ?_;refine zd rfl rfl hb10_2 ?_;refine za rfl ?_;refine zh rfl (fun _=>rfl) ?_;exact zb ⟨rfl,rfl⟩
     ·refine zl rfl rfl hb10_2 ?_;exact zh rfl (fun h=>absurd (h.symm.trans hb10_2) (by decide)) (zb ⟨rfl,rfl⟩)
    refine za rfl ?_;refine' zx (d:=72) [_,_,_] rfl ?_ rfl ?_
    rotate_left
    ·refine zw rfl rfl (fun hb10_6=>?_) (fun hb10_6=>?_)
     ·have ghb10_6:=hb10_6
      try simp only [zf,Bool.not_true,Bool.not_false] at ghb10_6
      refine za rfl ?_;refine zd rfl rfl hb10_6 ?_;refine za rfl ?_;refine zh rfl (fun _=>rfl) ?_;exact zb ⟨rfl,rfl⟩
     ·refine zl rfl rfl hb10_6 ?_;exact zh rfl (fun h=>absurd (h.symm.trans hb10_6) (by decide)) (zb ⟨rfl,rfl⟩)
    refine za rfl ?_;refine' zx (d:=76) [_,_,_] rfl ?_ rfl ?_
    rotate_left
    ·refine zw rfl rfl (fun hb10_10=>?_) (fun hb10_10=>?_)
     ·have ghb10_10:=hb10_10
      try simp only [zf,Bool.not_true,Bool.not_false] at ghb10_10
      refine za rfl ?_;refine zd rfl rfl hb10_10 ?_;refine za rfl ?_;refine zh rfl (fun _=>rfl) ?_;exact zb ⟨rfl,rfl⟩
     ·refine zl rfl rfl hb10_10 ?_;exact zh rfl (fun h=>absurd (h.symm.trans hb10_10) (by decide)) (zb ⟨rfl,rfl⟩)
    refine zb ?_;refine zi rfl (fun hc4=>?_) (fun hc4=>?_)
    ·(try simp only [zf] at hc4);have e5 : n[Int.toNat 5]! = n[5]!:=rfl;have e6 : n[Int.toNat 6]! = n[6]!:=rfl;exfalso;omega
    ·(try simp only [zf] at hc4)
     refine zt ?_;refine zo ?_;refine ze zc [] rfl ?_;iterate 3 refine za rfl ?_
     refine zb ?_;refine zi rfl (fun hc5=>?_) (fun hc5=>?_)
     ·(try simp only [zf] at hc5)
      refine z4 zc [] rfl ?_;iterate 4 refine za rfl ?_
      refine za (t:=I64 (n[2]! % 4)) (by show some (T.v (.int .i64 (bitV .and .i64 n[2]! 3)),(none : Option (Nat × List T))) = _;rw [h3v]) ?_;iterate 2 refine za rfl ?_
      refine zq rfl rfl (CallT.frame (c0) [0,1,2,3] rfl z3 z3 ?_)
      rintro _ _ ⟨rfl,rfl⟩;refine frK zy zy ?_;refine zb ?_;refine ze zc [] rfl ?_;iterate 3 refine za rfl ?_
      refine zb ?_;refine zi rfl (fun hc6=>?_) (fun hc6=>?_)
      ·exact absurd (h16.symm.trans hc6) (by decide)
      ·(try simp only [zf] at hc6)
       refine zt ?_;exact ⟨trivial,_,rfl,rfl,rfl⟩
     ·exact absurd (h3.symm.trans hc5) (by decide)
   ·exact absurd (h8.symm.trans hc3) (by decide)
 ·exact absurd (h12.symm.trans hc1) (by decide)
theorem zex (m : Mg) (n : List Int) (top : Int) (ok : m.Ok top) (htop : top≤1000000) (hn : 9≤n.length) (i : Nat) (v : Fr) (he : m.F[i]? = some (n[1]!,v)) (hp : posK m.F n[1]! = some i) (hm : 0≤n[2]!∧n[2]!≤2147483647) (e4 : bit n[2]! 4 = false) (e8 : bit n[2]! 8 = true) (eL : (bit n[2]! 1 || bit n[2]! 2) = true) (e16 : bit n[2]! 16 = true) (eB : confBig v n[2]! n[5]! n[6]! = false) :
  CallT Tryd.prog 90 [.ptr 0 0,cIf n] (tnH m (mF m) (mW m) []) (fun t H'=>t = .tup []∧H' = ranH (m.conf n[1]! n[2]! n[3]! n[4]! n[5]! n[6]! n[7]! n[8]!).1 (m.conf n[1]! n[2]! n[3]! n[4]! n[5]! n[6]! n[7]! n[8]!).2 []):=by
 have hc:=ok.cnt
 have hpF:=piF m.F
 have hpW:=piW m.W
 have hlk:=lookF ok.fk n[1]! true
 have hmo:=he
 obtain ⟨R0,hR0⟩ : ∃ R,R = rq 5 [v.fr,n[2]! % 4,n[3]!,n[4]!,0,0,0,0]:=⟨_,rfl⟩
 obtain ⟨R1,hR1⟩ : ∃ R,R = rq 5 [v.fr,16,0,0,0,0,0,n[8]!]:=⟨_,rfl⟩
 have h12 : (bitV .and .i64 n[2]! 12 != 0) = true:=by rw [and12 hm,e4,e8];rfl
 have h4 : (bitV .and .i64 n[2]! 4 != 0) = false:=by rw [and4 hm,e4]
 have h8 : (bitV .and .i64 n[2]! 8 != 0) = true:=by rw [and8 hm,e8]
 have h16 : (bitV .and .i64 n[2]! 16 != 0) = true:=by rw [and16 hm,e16]
 have h3 : (bitV .and .i64 n[2]! 3 != 0) = true:=by rw [and3 hm,eL]
 have h3v:=and3v hm
 have hr : m.conf n[1]! n[2]! n[3]! n[4]! n[5]! n[6]! n[7]! n[8]! = (m.up 2,[R0,R1]):=by
  unfold Mg.conf;rw [hp];simp only [getM he,confA,eB,eL,e16,confW,confH,e4,e8,if_true,if_false,Bool.false_eq_true,List.append_nil,List.nil_append,List.cons_append,List.length_cons,List.length_nil,hR0,hR1]
  try rfl
 unfold confBig confW confH at eB
 rw [e4,e8] at eB
 simp only [Bool.or_true,Bool.or_false,Bool.true_or,Bool.false_or,Bool.true_and,if_true,if_false,Bool.false_eq_true,Bool.and_eq_true,decide_eq_true_eq,Bool.and_eq_false_iff,decide_eq_false_iff_not] at eB
 rw [hr]
 rw [xb hp he] at hlk
 have c0 : CallT Tryd.prog 125 [.ptr 0 0,I64 v.fr,I64 (n[2]! % 4),I64 n[3]!,I64 n[4]!,I64 0,I64 0,I64 0] (tnH m (mF m) (mW m) []) (fun t H'=>t = .tup []∧H' = tnH1 (m.up 1) (mF m) (mW m) [R0]):=by
  have:=yi m (mF m) (mW m) v.fr (n[2]! % 4) n[3]! n[4]! 0 0 0 [] (by simp) (by skip;omega) hpF hpW
  rw [← hR0] at this
  exact this
 have c1 : CallT Tryd.prog 125 [.ptr 0 0,I64 v.fr,I64 16,I64 0,I64 0,I64 0,I64 0,I64 n[8]!] (tnH (m.up 1) (mF m) (mW m) [R0]) (fun t H'=>t = .tup []∧H' = tnH1 (m.up 2) (mF m) (mW m) [R0,R1]):=by
  have:=yi (m.up 1) (mF m) (mW m) v.fr 16 0 0 0 0 n[8]! [R0] (by simp) (by show 0≤m.cnt + 1∧m.cnt + 1≤2000000;omega) hpF hpW
  rw [← hR1,we m 1 1 2 (by decide)] at this
  exact this
 refine CallT.intro zc Tryd.func90 rfl (by kernel_rfl) (Nat.le_of_ble_eq_true rfl) ?_;refine yu zc [] [_,_,_,_,_,_,_,_,_,_,_,_,_,_,_,_,_,_,_,_] rfl yj yj ?_;refine za rfl ?_;refine zr rfl rfl rfl rfl rfl y9 zu ?_;refine zm rfl rfl yn ?_;refine za rfl ?_;refine zr rfl rfl rfl rfl rfl y9 zu ?_;refine zm rfl rfl yn ?_;refine za rfl ?_;refine zr rfl rfl rfl rfl rfl y9 zu ?_;refine zm rfl rfl yn ?_;refine za rfl ?_;refine zr rfl rfl rfl rfl rfl y9 zu ?_;refine zm rfl rfl yn ?_;refine za rfl ?_;refine zr rfl rfl rfl rfl rfl y9 zu ?_;refine zm rfl rfl yn ?_;iterate 5 refine za rfl ?_
 iterate 2 refine zb ?_
 refine ze zc [] rfl ?_;iterate 6 refine za rfl ?_
 refine yy zc rfl rfl rfl hlk ?_;iterate 3 refine za rfl ?_
 refine yk rfl rfl ?_;refine zp rfl rfl rfl rfl rfl xf rfl ?_;refine za rfl ?_;refine zb ?_;refine z7 ([(0,.ptr 0 0),(9,.iptr (frC v) 0)]) (tnH m (mF m) (mW m) []) [1,4,5,6,7,8,10] rfl (by refine ⟨[some 0,some 1,some 2,some 3],rfl,yb,ya,?_,?_⟩ <;> (repeat' first | exact trivial | exact yc | exact yd | exact z9 rfl | refine zn ?_ ?_ | refine zk rfl ?_ ?_ | refine zj ?_ ?_ | refine ye rfl ?_ | fail) <;> first | exact yv | (first | exact yg (Cv.om rfl) (Cv.om rfl) (Cv.slc rfl (.inr rfl)) | exact yg (Cv.om rfl) (Cv.om rfl) (Cv.slc rfl (.inl rfl)) | exact CvL.pure (zg _ _) | exact Cv.ptr rfl | exact CvL.pure rfl | exact Cv.fptr ⟨rfl,(by simp)⟩ (CvL.pure rfl))) ?_
 refine zo ?_;refine ze zc [] rfl ?_;iterate 2 refine za rfl ?_
 refine zb ?_;refine yq rfl ?_;refine zt ?_;refine zo ?_;refine ze zc [] rfl ?_;iterate 3 refine za rfl ?_
 refine zb ?_;refine zi rfl (fun hc1=>?_) (fun hc1=>?_)
 ·(try simp only [zf] at hc1)
  refine yu zc [] [_,_,_,_,_,_] rfl yj yj ?_;iterate 6 refine za rfl ?_
  iterate 2 refine zb ?_
  refine zo ?_;refine ze zc [] rfl ?_;iterate 3 refine za rfl ?_
  refine zb ?_;refine zi rfl (fun hc2=>?_) (fun hc2=>?_)
  ·exact absurd (h4.symm.trans hc2) (by decide)
  ·(try simp only [zf] at hc2)
   refine zt ?_;refine zo ?_;refine ze zc [] rfl ?_;iterate 3 refine za rfl ?_
   refine zb ?_;refine zi rfl (fun hc3=>?_) (fun hc3=>?_)
   ·(try simp only [zf] at hc3)
    refine z4 zc [] rfl ?_;refine za rfl ?_;refine zr rfl rfl rfl rfl rfl y9 zu ?_;refine zm rfl rfl yn ?_;refine za rfl ?_;refine zb ?_;refine ze zc [] rfl ?_;iterate 3 refine za rfl ?_
    refine' zx (d:=68) [_,_,_] rfl ?_ rfl ?_
    rotate_left
    ·refine zw rfl rfl (fun hb10_2=>?_) (fun hb10_2=>?_)
     ·have ghb10_2:=hb10_2
      try simp only [zf,Bool.not_true,Bool.not_false] at ghb10_2
      refine za rfl ?_;refine zd rfl rfl hb10_2 ?_;refine za rfl ?_;refine zh rfl (fun _=>rfl) ?_;exact zb ⟨rfl,rfl⟩
     ·refine zl rfl rfl hb10_2 ?_;exact zh rfl (fun h=>absurd (h.symm.trans hb10_2) (by decide)) (zb ⟨rfl,rfl⟩)
    refine za rfl ?_;refine' zx (d:=72) [_,_,_] rfl ?_ rfl ?_
    rotate_left
    ·refine zw rfl rfl (fun hb10_6=>?_) (fun hb10_6=>?_)
     ·have ghb10_6:=hb10_6
      try simp only [zf,Bool.not_true,Bool.not_false] at ghb10_6
      refine za rfl ?_;refine zd rfl rfl hb10_6 ?_;refine za rfl ?_;refine zh rfl (fun _=>rfl) ?_;exact zb ⟨rfl,rfl⟩
     ·refine zl rfl rfl hb10_6 ?_;exact zh rfl (fun h=>absurd (h.symm.trans hb10_6) (by decide)) (zb ⟨rfl,rfl⟩)
    refine za rfl ?_;refine' zx (d:=76) [_,_,_] rfl ?_ rfl ?_
    rotate_left
    ·refine zw rfl rfl (fun hb10_10=>?_) (fun hb10_10=>?_)
     ·have ghb10_10:=hb10_10
      try simp only [zf,Bool.not_true,Bool.not_false] at ghb10_10
      refine za rfl ?_;refine zd rfl rfl hb10_10 ?_;refine za rfl ?_;refine zh rfl (fun _=>rfl) ?_;exact zb ⟨rfl,rfl⟩
     ·refine zl rfl rfl hb10_10 ?_;exact zh rfl (fun h=>absurd (h.symm.trans hb10_10) (by decide)) (zb ⟨rfl,rfl⟩)
    refine zb ?_;refine zi rfl (fun hc4=>?_) (fun hc4=>?_)
    ·(try simp only [zf] at hc4);have e5 : n[Int.toNat 5]! = n[5]!:=rfl;have e6 : n[Int.toNat 6]! = n[6]!:=rfl;exfalso;omega
    ·(try simp only [zf] at hc4)
     refine zt ?_;refine zo ?_;refine ze zc [] rfl ?_;iterate 3 refine za rfl ?_
     refine zb ?_;refine zi rfl (fun hc5=>?_) (fun hc5=>?_)
     ·(try simp only [zf] at hc5)
      refine z4 zc [] rfl ?_;iterate 4 refine za rfl ?_
      refine za (t:=I64 (n[2]! % 4)) (by show some (T.v (.int .i64 (bitV .and .i64 n[2]! 3)),(none : Option (Nat × List T))) = _;rw [h3v]) ?_;iterate 2 refine za rfl ?_
      refine zq rfl rfl (CallT.frame (c0) [0,1,2,3] rfl z3 z3 ?_)
      rintro _ _ ⟨rfl,rfl⟩;refine frK zy zy ?_;refine zb ?_;refine ze zc [] rfl ?_;iterate 3 refine za rfl ?_
      refine zb ?_;refine zi rfl (fun hc6=>?_) (fun hc6=>?_)
      ·(try simp only [zf] at hc6)
       refine z4 zc [] rfl ?_;iterate 4 refine za rfl ?_
       refine zq rfl rfl (CallT.frame (c1) [0,1,2,4] rfl z3 z3 ?_)
       rintro _ _ ⟨rfl,rfl⟩;refine frK zy zy ?_;refine zb ?_;exact ⟨trivial,_,rfl,rfl,rfl⟩
      ·exact absurd (h16.symm.trans hc6) (by decide)
     ·exact absurd (h3.symm.trans hc5) (by decide)
   ·exact absurd (h8.symm.trans hc3) (by decide)
 ·exact absurd (h12.symm.trans hc1) (by decide)
theorem zew (m : Mg) (n : List Int) (top : Int) (ok : m.Ok top) (htop : top≤1000000) (hn : 9≤n.length) (i : Nat) (v : Fr) (he : m.F[i]? = some (n[1]!,v)) (hp : posK m.F n[1]! = some i) (hm : 0≤n[2]!∧n[2]!≤2147483647) (e4 : bit n[2]! 4 = false) (e8 : bit n[2]! 8 = true) (eL : (bit n[2]! 1 || bit n[2]! 2) = false) (e16 : bit n[2]! 16 = false) (eB : confBig v n[2]! n[5]! n[6]! = true) :
  CallT Tryd.prog 90 [.ptr 0 0,cIf n] (tnH m (mF m) (mW m) []) (fun t H'=>t = .tup []∧H' = ranH (m.conf n[1]! n[2]! n[3]! n[4]! n[5]! n[6]! n[7]! n[8]!).1 (m.conf n[1]! n[2]! n[3]! n[4]! n[5]! n[6]! n[7]! n[8]!).2 []):=by
 have hc:=ok.cnt
 have hpF:=piF m.F
 have hpW:=piW m.W
 have hlk:=lookF ok.fk n[1]! true
 have hmo:=he
 obtain ⟨R0,hR0⟩ : ∃ R,R = rq 5 [n[1]!,12,0,0,v.w,n[6]!,0,0]:=⟨_,rfl⟩
 obtain ⟨R1,hR1⟩ : ∃ R,R = rq 5 [v.fr,12,0,0,v.w + 2,n[6]! + 10,0,0]:=⟨_,rfl⟩
 have h12 : (bitV .and .i64 n[2]! 12 != 0) = true:=by rw [and12 hm,e4,e8];rfl
 have h4 : (bitV .and .i64 n[2]! 4 != 0) = false:=by rw [and4 hm,e4]
 have h8 : (bitV .and .i64 n[2]! 8 != 0) = true:=by rw [and8 hm,e8]
 have h16 : (bitV .and .i64 n[2]! 16 != 0) = false:=by rw [and16 hm,e16]
 have h3 : (bitV .and .i64 n[2]! 3 != 0) = false:=by rw [and3 hm,eL]
 have h3v:=and3v hm
 have hr : m.conf n[1]! n[2]! n[3]! n[4]! n[5]! n[6]! n[7]! n[8]! = ({ m.up 2 with F:=m.F.set i (n[1]!,⟨v.fr,v.w,n[6]!,v.title⟩) },[R0,R1]):=by
  unfold Mg.conf;rw [hp];simp only [getM he,confA,eB,eL,e16,confW,confH,e4,e8,if_true,if_false,Bool.false_eq_true,List.append_nil,List.nil_append,List.cons_append,List.length_cons,List.length_nil,hR0,hR1]
  try rfl
 unfold confBig confW confH at eB
 rw [e4,e8] at eB
 simp only [Bool.or_true,Bool.or_false,Bool.true_or,Bool.false_or,Bool.true_and,if_true,if_false,Bool.false_eq_true,Bool.and_eq_true,decide_eq_true_eq,Bool.and_eq_false_iff,decide_eq_false_iff_not] at eB
 rw [hr]
 rw [xb hp he] at hlk
 have c0 : CallT Tryd.prog 125 [.ptr 0 0,I64 n[1]!,I64 12,I64 0,I64 0,I64 v.w,I64 n[6]!,I64 0] (tnH m (mF m) (mW m) []) (fun t H'=>t = .tup []∧H' = tnH1 (m.up 1) (mF m) (mW m) [R0]):=by
  have:=yi m (mF m) (mW m) n[1]! 12 0 0 v.w n[6]! 0 [] (by simp) (by skip;omega) hpF hpW
  rw [← hR0] at this
  exact this
 have c1 : CallT Tryd.prog 125 [.ptr 0 0,I64 v.fr,I64 12,I64 0,I64 0,I64 (v.w + 2),I64 (n[6]! + 10),I64 0] (tnH (m.up 1) (mF m) (mW m) [R0]) (fun t H'=>t = .tup []∧H' = tnH1 (m.up 2) (mF m) (mW m) [R0,R1]):=by
  have:=yi (m.up 1) (mF m) (mW m) v.fr 12 0 0 (v.w + 2) (n[6]! + 10) 0 [R0] (by simp) (by show 0≤m.cnt + 1∧m.cnt + 1≤2000000;omega) hpF hpW
  rw [← hR1,we m 1 1 2 (by decide)] at this
  exact this
 obtain ⟨MM,hMM⟩ : ∃ MM : Int→Mg,MM = fun j=>{ m.up j with F:=m.F.set i (n[1]!,⟨v.fr,v.w,n[6]!,v.title⟩) }:=⟨_,rfl⟩
 have hMF : ∀ j,(MM j).F = m.F.set i (n[1]!,⟨v.fr,v.w,n[6]!,v.title⟩):=fun j=>by rw [hMM]
 have hMt : ∀ j a,tnC (MM j) a = tnC (m.up j) a:=fun j a=>by rw [hMM]
 have hMc : ∀ j,(MM j).cnt = m.cnt + j:=fun j=>by rw [hMM]
 have hup : ∀ a b c : Int,a + b = c→(MM a).up b = MM c:=fun a b c h=>by rw [hMM];exact vz m _ a b c h
 obtain ⟨p,hpe⟩ : ∃ p : OP,p = mapP (kF (m.F.set i (n[1]!,⟨v.fr,v.w,n[6]!,v.title⟩))) (tF (m.F.set i (n[1]!,⟨v.fr,v.w,n[6]!,v.title⟩))):=⟨_,rfl⟩
 have hpp : p.pi = true:=by rw [hpe];exact piF _
 refine CallT.intro zc Tryd.func90 rfl (by kernel_rfl) (Nat.le_of_ble_eq_true rfl) ?_;refine yu zc [] [_,_,_,_,_,_,_,_,_,_,_,_,_,_,_,_,_,_,_,_] rfl yj yj ?_;refine za rfl ?_;refine zr rfl rfl rfl rfl rfl y9 zu ?_;refine zm rfl rfl yn ?_;refine za rfl ?_;refine zr rfl rfl rfl rfl rfl y9 zu ?_;refine zm rfl rfl yn ?_;refine za rfl ?_;refine zr rfl rfl rfl rfl rfl y9 zu ?_;refine zm rfl rfl yn ?_;refine za rfl ?_;refine zr rfl rfl rfl rfl rfl y9 zu ?_;refine zm rfl rfl yn ?_;refine za rfl ?_;refine zr rfl rfl rfl rfl rfl y9 zu ?_;refine zm rfl rfl yn ?_;iterate 5 refine za rfl ?_
 iterate 2 refine zb ?_
 refine ze zc [] rfl ?_;iterate 6 refine za rfl ?_
 refine yy zc rfl rfl rfl hlk ?_;iterate 3 refine za rfl ?_
 refine yk rfl rfl ?_;refine zp rfl rfl rfl rfl rfl xf rfl ?_;refine za rfl ?_;refine zb ?_;refine z7 ([(0,.ptr 0 0),(9,.ptr 4 0)]) (tnHf m (mF m) (mW m) [] v) [1,4,5,6,7,8,10] rfl (by refine ⟨[some 0,some 1,some 2,some 3,some 4],rfl,yb,ya,?_,?_⟩ <;> (repeat' first | exact trivial | exact yc | exact yd | exact z9 rfl | refine zn ?_ ?_ | refine zk rfl ?_ ?_ | refine zj ?_ ?_ | refine ye rfl ?_ | fail) <;> first | exact yv | (first | exact yg (Cv.om rfl) (Cv.om rfl) (Cv.slc rfl (.inr rfl)) | exact yg (Cv.om rfl) (Cv.om rfl) (Cv.slc rfl (.inl rfl)) | exact CvL.pure (zg _ _) | exact Cv.ptr rfl | exact CvL.pure rfl | exact Cv.fptr ⟨rfl,(by simp)⟩ (CvL.pure rfl))) ?_
 refine zo ?_;refine ze zc [] rfl ?_;iterate 2 refine za rfl ?_
 refine zb ?_;refine yq rfl ?_;refine zt ?_;refine zo ?_;refine ze zc [] rfl ?_;iterate 3 refine za rfl ?_
 refine zb ?_;refine zi rfl (fun hc1=>?_) (fun hc1=>?_)
 ·(try simp only [zf] at hc1)
  refine yu zc [] [_,_,_,_,_,_] rfl yj yj ?_;iterate 6 refine za rfl ?_
  iterate 2 refine zb ?_
  refine zo ?_;refine ze zc [] rfl ?_;iterate 3 refine za rfl ?_
  refine zb ?_;refine zi rfl (fun hc2=>?_) (fun hc2=>?_)
  ·exact absurd (h4.symm.trans hc2) (by decide)
  ·(try simp only [zf] at hc2)
   refine zt ?_;refine zo ?_;refine ze zc [] rfl ?_;iterate 3 refine za rfl ?_
   refine zb ?_;refine zi rfl (fun hc3=>?_) (fun hc3=>?_)
   ·(try simp only [zf] at hc3)
    refine z4 zc [] rfl ?_;refine za rfl ?_;refine zr rfl rfl rfl rfl rfl y9 zu ?_;refine zm rfl rfl yn ?_;refine za rfl ?_;refine zb ?_;refine ze zc [] rfl ?_;iterate 3 refine za rfl ?_
    refine' zx (d:=68) [_,_,_] rfl ?_ rfl ?_
    rotate_left
    ·refine zw rfl rfl (fun hb10_2=>?_) (fun hb10_2=>?_)
     ·have ghb10_2:=hb10_2
      try simp only [zf,Bool.not_true,Bool.not_false] at ghb10_2
      refine za rfl ?_;refine zd rfl rfl hb10_2 ?_;refine za rfl ?_;refine zh rfl (fun _=>rfl) ?_;exact zb ⟨rfl,rfl⟩
     ·refine zl rfl rfl hb10_2 ?_;exact zh rfl (fun h=>absurd (h.symm.trans hb10_2) (by decide)) (zb ⟨rfl,rfl⟩)
    refine za rfl ?_;refine' zx (d:=72) [_,_,_] rfl ?_ rfl ?_
    rotate_left
    ·refine zw rfl rfl (fun hb10_6=>?_) (fun hb10_6=>?_)
     ·have ghb10_6:=hb10_6
      try simp only [zf,Bool.not_true,Bool.not_false] at ghb10_6
      refine za rfl ?_;refine zd rfl rfl hb10_6 ?_;refine za rfl ?_;refine zh rfl (fun _=>rfl) ?_;exact zb ⟨rfl,rfl⟩
     ·refine zl rfl rfl hb10_6 ?_;exact zh rfl (fun h=>absurd (h.symm.trans hb10_6) (by decide)) (zb ⟨rfl,rfl⟩)
    refine za rfl ?_;refine' zx (d:=76) [_,_,_] rfl ?_ rfl ?_
    rotate_left
    ·refine zw rfl rfl (fun hb10_10=>?_) (fun hb10_10=>?_)
     ·have ghb10_10:=hb10_10
      try simp only [zf,Bool.not_true,Bool.not_false] at ghb10_10
      refine za rfl ?_;refine zd rfl rfl hb10_10 ?_;refine za rfl ?_;refine zh rfl (fun _=>rfl) ?_;exact zb ⟨rfl,rfl⟩
     ·refine zl rfl rfl hb10_10 ?_;exact zh rfl (fun h=>absurd (h.symm.trans hb10_10) (by decide)) (zb ⟨rfl,rfl⟩)
    refine zb ?_;refine zi rfl (fun hc4=>?_) (fun hc4=>?_)
    ·(try simp only [zf] at hc4)
     refine ze zc [] rfl ?_;iterate 4 refine za rfl ?_
     refine zq rfl rfl (CallT.frame (c0) [0,1,2,3] rfl z3 z3 ?_)
     rintro _ _ ⟨rfl,rfl⟩;refine frK zy zy ?_;refine zb ?_;refine z7 ([(0,.ptr 0 0),(9,.ptr 5 0)]) (tnH1f (m.up 1) (mF m) (mW m) [R0] v) [4,5,6,7,8,11,12] rfl (by refine ⟨[some 0,some 1,some 2,some 3,some 5,some 4],rfl,yb,ya,?_,?_⟩ <;> (repeat' first | exact trivial | exact yc | exact yd | exact z9 rfl | refine zn ?_ ?_ | refine zk rfl ?_ ?_ | refine zj ?_ ?_ | refine ye rfl ?_ | fail) <;> first | exact yv | (first | exact yg (Cv.om rfl) (Cv.om rfl) (Cv.slc rfl (.inr rfl)) | exact yg (Cv.om rfl) (Cv.om rfl) (Cv.slc rfl (.inl rfl)) | exact CvL.pure (zg _ _) | exact Cv.ptr rfl | exact CvL.pure rfl | exact Cv.fptr ⟨rfl,(by simp)⟩ (CvL.pure rfl))) ?_
     refine ze zc [] rfl ?_;iterate 4 refine za rfl ?_
     refine xg rfl rfl zu ?_;refine za rfl ?_;refine xg rfl rfl zu ?_;refine zq rfl rfl (CallT.frame (c1) [0,1,2,4] rfl z3 z3 ?_)
     rintro _ _ ⟨rfl,rfl⟩;refine frK zy zy ?_;refine zb ?_;refine z7 ([(0,.ptr 0 0),(9,.ptr 6 0)]) (tnH2f (m.up 2) (mF m) (mW m) [R0,R1] v) [4,5,6,7,8,11,12] rfl (by refine ⟨[some 0,some 1,some 2,some 3,some 4,some 6,some 5],rfl,yb,ya,?_,?_⟩ <;> (repeat' first | exact trivial | exact yc | exact yd | exact z9 rfl | refine zn ?_ ?_ | refine zk rfl ?_ ?_ | refine zj ?_ ?_ | refine ye rfl ?_ | fail) <;> first | exact yv | (first | exact yg (Cv.om rfl) (Cv.om rfl) (Cv.slc rfl (.inr rfl)) | exact yg (Cv.om rfl) (Cv.om rfl) (Cv.slc rfl (.inl rfl)) | exact CvL.pure (zg _ _) | exact Cv.ptr rfl | exact CvL.pure rfl | exact Cv.fptr ⟨rfl,(by simp)⟩ (CvL.pure rfl))) ?_
     refine ze zc [] rfl ?_;iterate 3 refine za rfl ?_
     refine zp rfl rfl rfl rfl rfl xf rfl ?_;refine za rfl ?_;refine zp rfl rfl rfl rfl rfl xf rfl ?_;refine zb ?_;refine z7 ([(0,.ptr 0 0),(9,.ptr 6 0)]) (tnH2f (m.up 2) (mF m) (mW m) [R0,R1] ⟨v.fr,v.w,n[6]!,v.title⟩) [4,5,6,7,8] rfl (by refine ⟨[some 0,some 1,some 2,some 3,some 4,some 5,some 6],rfl,yb,ya,?_,?_⟩ <;> (repeat' first | exact trivial | exact yc | exact yd | exact z9 rfl | refine zn ?_ ?_ | refine zk rfl ?_ ?_ | refine zj ?_ ?_ | refine ye rfl ?_ | fail) <;> first | exact yv | (first | exact yg (Cv.om rfl) (Cv.om rfl) (Cv.slc rfl (.inr rfl)) | exact yg (Cv.om rfl) (Cv.om rfl) (Cv.slc rfl (.inl rfl)) | exact CvL.pure (zg _ _) | exact Cv.ptr rfl | exact CvL.pure rfl | exact Cv.fptr ⟨rfl,(by simp)⟩ (CvL.pure rfl))) ?_
     refine wc zc [] [_,_,_,_,_,_,_] rfl yj yj ?_;iterate 6 refine za rfl ?_
     refine za (t:=frT ⟨v.fr,v.w,n[6]!,v.title⟩) rfl ?_;refine zb ?_;refine x9 zc rfl rfl rfl rfl rfl rfl rfl rfl (by exact likeF _ _) (keyAt he) ?_;rw [show mapP (kF m.F) ((tF m.F).set i (frT ⟨v.fr,v.w,n[6]!,v.title⟩)) = p from (setF he).trans hpe.symm]
     refine zb ?_;refine z7 ([(0,.ptr 0 0),(9,.iptr (frC ⟨v.fr,v.w,n[6]!,v.title⟩) 0)]) (tnH2 (MM 2) p (mW m) [R0,R1]) [5,6,7,8] rfl (by refine ⟨[some 0,some 1,some 2,some 3,some 4,some 5],rfl,yb,ya,?_,?_⟩ <;> (repeat' first | exact trivial | exact yc | exact yd | exact z9 rfl | refine zn ?_ ?_ | refine zk rfl ?_ ?_ | refine zj ?_ ?_ | refine ye rfl ?_ | fail) <;> first | exact yv | (first | (rw [hMt];exact yg (Cv.om rfl) (Cv.om rfl) (Cv.slc rfl (.inl rfl))) | first | exact yg (Cv.om rfl) (Cv.om rfl) (Cv.slc rfl (.inr rfl)) | exact yg (Cv.om rfl) (Cv.om rfl) (Cv.slc rfl (.inl rfl)) | exact CvL.pure (zg _ _) | exact Cv.ptr rfl | exact CvL.pure rfl | exact Cv.fptr ⟨rfl,(by simp)⟩ (CvL.pure rfl))) ?_
     refine zo ?_;refine ze zc [] rfl ?_;iterate 3 refine za rfl ?_
     refine zb ?_;refine zi rfl (fun hc5=>?_) (fun hc5=>?_)
     ·exact absurd (h3.symm.trans hc5) (by decide)
     ·(try simp only [zf] at hc5)
      refine zt ?_;refine ze zc [] rfl ?_;iterate 3 refine za rfl ?_
      refine zb ?_;refine zi rfl (fun hc6=>?_) (fun hc6=>?_)
      ·exact absurd (h16.symm.trans hc6) (by decide)
      ·(try simp only [zf] at hc6)
       refine zt ?_;refine ⟨trivial,_,rfl,rfl,?_⟩;rw [hpe,hMM];rfl
    ·(try simp only [zf] at hc4);have e5 : n[Int.toNat 5]! = n[5]!:=rfl;have e6 : n[Int.toNat 6]! = n[6]!:=rfl;exfalso;omega
   ·exact absurd (h8.symm.trans hc3) (by decide)
 ·exact absurd (h12.symm.trans hc1) (by decide)
theorem zev (m : Mg) (n : List Int) (top : Int) (ok : m.Ok top) (htop : top≤1000000) (hn : 9≤n.length) (i : Nat) (v : Fr) (he : m.F[i]? = some (n[1]!,v)) (hp : posK m.F n[1]! = some i) (hm : 0≤n[2]!∧n[2]!≤2147483647) (e4 : bit n[2]! 4 = false) (e8 : bit n[2]! 8 = true) (eL : (bit n[2]! 1 || bit n[2]! 2) = false) (e16 : bit n[2]! 16 = true) (eB : confBig v n[2]! n[5]! n[6]! = true) :
  CallT Tryd.prog 90 [.ptr 0 0,cIf n] (tnH m (mF m) (mW m) []) (fun t H'=>t = .tup []∧H' = ranH (m.conf n[1]! n[2]! n[3]! n[4]! n[5]! n[6]! n[7]! n[8]!).1 (m.conf n[1]! n[2]! n[3]! n[4]! n[5]! n[6]! n[7]! n[8]!).2 []):=by
 have hc:=ok.cnt
 have hpF:=piF m.F
 have hpW:=piW m.W
 have hlk:=lookF ok.fk n[1]! true
 have hmo:=he
 obtain ⟨R0,hR0⟩ : ∃ R,R = rq 5 [n[1]!,12,0,0,v.w,n[6]!,0,0]:=⟨_,rfl⟩
 obtain ⟨R1,hR1⟩ : ∃ R,R = rq 5 [v.fr,12,0,0,v.w + 2,n[6]! + 10,0,0]:=⟨_,rfl⟩
 obtain ⟨R2,hR2⟩ : ∃ R,R = rq 5 [v.fr,16,0,0,0,0,0,n[8]!]:=⟨_,rfl⟩
 have h12 : (bitV .and .i64 n[2]! 12 != 0) = true:=by rw [and12 hm,e4,e8];rfl
 have h4 : (bitV .and .i64 n[2]! 4 != 0) = false:=by rw [and4 hm,e4]
 have h8 : (bitV .and .i64 n[2]! 8 != 0) = true:=by rw [and8 hm,e8]
 have h16 : (bitV .and .i64 n[2]! 16 != 0) = true:=by rw [and16 hm,e16]
 have h3 : (bitV .and .i64 n[2]! 3 != 0) = false:=by rw [and3 hm,eL]
 have h3v:=and3v hm
 have hr : m.conf n[1]! n[2]! n[3]! n[4]! n[5]! n[6]! n[7]! n[8]! = ({ m.up 3 with F:=m.F.set i (n[1]!,⟨v.fr,v.w,n[6]!,v.title⟩) },[R0,R1,R2]):=by
  unfold Mg.conf;rw [hp];simp only [getM he,confA,eB,eL,e16,confW,confH,e4,e8,if_true,if_false,Bool.false_eq_true,List.append_nil,List.nil_append,List.cons_append,List.length_cons,List.length_nil,hR0,hR1,hR2]
  try rfl
 unfold confBig confW confH at eB
 rw [e4,e8] at eB
 simp only [Bool.or_true,Bool.or_false,Bool.true_or,Bool.false_or,Bool.true_and,if_true,if_false,Bool.false_eq_true,Bool.and_eq_true,decide_eq_true_eq,Bool.and_eq_false_iff,decide_eq_false_iff_not] at eB
 rw [hr]
 rw [xb hp he] at hlk
 have c0 : CallT Tryd.prog 125 [.ptr 0 0,I64 n[1]!,I64 12,I64 0,I64 0,I64 v.w,I64 n[6]!,I64 0] (tnH m (mF m) (mW m) []) (fun t H'=>t = .tup []∧H' = tnH1 (m.up 1) (mF m) (mW m) [R0]):=by
  have:=yi m (mF m) (mW m) n[1]! 12 0 0 v.w n[6]! 0 [] (by simp) (by skip;omega) hpF hpW
  rw [← hR0] at this
  exact this
 have c1 : CallT Tryd.prog 125 [.ptr 0 0,I64 v.fr,I64 12,I64 0,I64 0,I64 (v.w + 2),I64 (n[6]! + 10),I64 0] (tnH (m.up 1) (mF m) (mW m) [R0]) (fun t H'=>t = .tup []∧H' = tnH1 (m.up 2) (mF m) (mW m) [R0,R1]):=by
  have:=yi (m.up 1) (mF m) (mW m) v.fr 12 0 0 (v.w + 2) (n[6]! + 10) 0 [R0] (by simp) (by show 0≤m.cnt + 1∧m.cnt + 1≤2000000;omega) hpF hpW
  rw [← hR1,we m 1 1 2 (by decide)] at this
  exact this
 obtain ⟨MM,hMM⟩ : ∃ MM : Int→Mg,MM = fun j=>{ m.up j with F:=m.F.set i (n[1]!,⟨v.fr,v.w,n[6]!,v.title⟩) }:=⟨_,rfl⟩
 have hMF : ∀ j,(MM j).F = m.F.set i (n[1]!,⟨v.fr,v.w,n[6]!,v.title⟩):=fun j=>by rw [hMM]
 have hMt : ∀ j a,tnC (MM j) a = tnC (m.up j) a:=fun j a=>by rw [hMM]
 have hMc : ∀ j,(MM j).cnt = m.cnt + j:=fun j=>by rw [hMM]
 have hup : ∀ a b c : Int,a + b = c→(MM a).up b = MM c:=fun a b c h=>by rw [hMM];exact vz m _ a b c h
 obtain ⟨p,hpe⟩ : ∃ p : OP,p = mapP (kF (m.F.set i (n[1]!,⟨v.fr,v.w,n[6]!,v.title⟩))) (tF (m.F.set i (n[1]!,⟨v.fr,v.w,n[6]!,v.title⟩))):=⟨_,rfl⟩
 have hpp : p.pi = true:=by rw [hpe];exact piF _
 have c2 : CallT Tryd.prog 125 [.ptr 0 0,I64 v.fr,I64 16,I64 0,I64 0,I64 0,I64 0,I64 n[8]!] (tnH (MM 2) p (mW m) [R0,R1]) (fun t H'=>t = .tup []∧H' = tnH1 (MM 3) p (mW m) [R0,R1,R2]):=by
  have:=yi (MM 2) p (mW m) v.fr 16 0 0 0 0 n[8]! [R0,R1] (by simp) (by rw [hMc];omega) hpp hpW
  rw [← hR2,hup 2 1 3 (by decide)] at this
  exact this
 refine CallT.intro zc Tryd.func90 rfl (by kernel_rfl) (Nat.le_of_ble_eq_true rfl) ?_;refine yu zc [] [_,_,_,_,_,_,_,_,_,_,_,_,_,_,_,_,_,_,_,_] rfl yj yj ?_;refine za rfl ?_;refine zr rfl rfl rfl rfl rfl y9 zu ?_;refine zm rfl rfl yn ?_;refine za rfl ?_;refine zr rfl rfl rfl rfl rfl y9 zu ?_;refine zm rfl rfl yn ?_;refine za rfl ?_;refine zr rfl rfl rfl rfl rfl y9 zu ?_;refine zm rfl rfl yn ?_;refine za rfl ?_;refine zr rfl rfl rfl rfl rfl y9 zu ?_;refine zm rfl rfl yn ?_;refine za rfl ?_;refine zr rfl rfl rfl rfl rfl y9 zu ?_;refine zm rfl rfl yn ?_;iterate 5 refine za rfl ?_
 iterate 2 refine zb ?_
 refine ze zc [] rfl ?_;iterate 6 refine za rfl ?_
 refine yy zc rfl rfl rfl hlk ?_;iterate 3 refine za rfl ?_
 refine yk rfl rfl ?_;refine zp rfl rfl rfl rfl rfl xf rfl ?_;refine za rfl ?_;refine zb ?_;refine z7 ([(0,.ptr 0 0),(9,.ptr 4 0)]) (tnHf m (mF m) (mW m) [] v) [1,4,5,6,7,8,10] rfl (by refine ⟨[some 0,some 1,some 2,some 3,some 4],rfl,yb,ya,?_,?_⟩ <;> (repeat' first | exact trivial | exact yc | exact yd | exact z9 rfl | refine zn ?_ ?_ | refine zk rfl ?_ ?_ | refine zj ?_ ?_ | refine ye rfl ?_ | fail) <;> first | exact yv | (first | exact yg (Cv.om rfl) (Cv.om rfl) (Cv.slc rfl (.inr rfl)) | exact yg (Cv.om rfl) (Cv.om rfl) (Cv.slc rfl (.inl rfl)) | exact CvL.pure (zg _ _) | exact Cv.ptr rfl | exact CvL.pure rfl | exact Cv.fptr ⟨rfl,(by simp)⟩ (CvL.pure rfl))) ?_
 refine zo ?_;refine ze zc [] rfl ?_;iterate 2 refine za rfl ?_
 refine zb ?_;refine yq rfl ?_;refine zt ?_;refine zo ?_;refine ze zc [] rfl ?_;iterate 3 refine za rfl ?_
 refine zb ?_;refine zi rfl (fun hc1=>?_) (fun hc1=>?_)
 ·(try simp only [zf] at hc1)
  refine yu zc [] [_,_,_,_,_,_] rfl yj yj ?_;iterate 6 refine za rfl ?_
  iterate 2 refine zb ?_
  refine zo ?_;refine ze zc [] rfl ?_;iterate 3 refine za rfl ?_
  refine zb ?_;refine zi rfl (fun hc2=>?_) (fun hc2=>?_)
  ·exact absurd (h4.symm.trans hc2) (by decide)
  ·(try simp only [zf] at hc2)
   refine zt ?_;refine zo ?_;refine ze zc [] rfl ?_;iterate 3 refine za rfl ?_
   refine zb ?_;refine zi rfl (fun hc3=>?_) (fun hc3=>?_)
   ·(try simp only [zf] at hc3)
    refine z4 zc [] rfl ?_;refine za rfl ?_;refine zr rfl rfl rfl rfl rfl y9 zu ?_;refine zm rfl rfl yn ?_;refine za rfl ?_;refine zb ?_;refine ze zc [] rfl ?_;iterate 3 refine za rfl ?_
    refine' zx (d:=68) [_,_,_] rfl ?_ rfl ?_
    rotate_left
    ·refine zw rfl rfl (fun hb10_2=>?_) (fun hb10_2=>?_)
     ·have ghb10_2:=hb10_2
      try simp only [zf,Bool.not_true,Bool.not_false] at ghb10_2
      refine za rfl ?_;refine zd rfl rfl hb10_2 ?_;refine za rfl ?_;refine zh rfl (fun _=>rfl) ?_;exact zb ⟨rfl,rfl⟩
     ·refine zl rfl rfl hb10_2 ?_;exact zh rfl (fun h=>absurd (h.symm.trans hb10_2) (by decide)) (zb ⟨rfl,rfl⟩)
    refine za rfl ?_;refine' zx (d:=72) [_,_,_] rfl ?_ rfl ?_
    rotate_left
    ·refine zw rfl rfl (fun hb10_6=>?_) (fun hb10_6=>?_)
     ·have ghb10_6:=hb10_6
      try simp only [zf,Bool.not_true,Bool.not_false] at ghb10_6
      refine za rfl ?_;refine zd rfl rfl hb10_6 ?_;refine za rfl ?_;refine zh rfl (fun _=>rfl) ?_;exact zb ⟨rfl,rfl⟩
     ·refine zl rfl rfl hb10_6 ?_;exact zh rfl (fun h=>absurd (h.symm.trans hb10_6) (by decide)) (zb ⟨rfl,rfl⟩)
    refine za rfl ?_;refine' zx (d:=76) [_,_,_] rfl ?_ rfl ?_
    rotate_left
    ·refine zw rfl rfl (fun hb10_10=>?_) (fun hb10_10=>?_)
     ·have ghb10_10:=hb10_10
      try simp only [zf,Bool.not_true,Bool.not_false] at ghb10_10
      refine za rfl ?_;refine zd rfl rfl hb10_10 ?_;refine za rfl ?_;refine zh rfl (fun _=>rfl) ?_;exact zb ⟨rfl,rfl⟩
     ·refine zl rfl rfl hb10_10 ?_;exact zh rfl (fun h=>absurd (h.symm.trans hb10_10) (by decide)) (zb ⟨rfl,rfl⟩)
    refine zb ?_;refine zi rfl (fun hc4=>?_) (fun hc4=>?_)
    ·(try simp only [zf] at hc4)
     refine ze zc [] rfl ?_;iterate 4 refine za rfl ?_
     refine zq rfl rfl (CallT.frame (c0) [0,1,2,3] rfl z3 z3 ?_)
     rintro _ _ ⟨rfl,rfl⟩;refine frK zy zy ?_;refine zb ?_;refine z7 ([(0,.ptr 0 0),(9,.ptr 5 0)]) (tnH1f (m.up 1) (mF m) (mW m) [R0] v) [4,5,6,7,8,11,12] rfl (by refine ⟨[some 0,some 1,some 2,some 3,some 5,some 4],rfl,yb,ya,?_,?_⟩ <;> (repeat' first | exact trivial | exact yc | exact yd | exact z9 rfl | refine zn ?_ ?_ | refine zk rfl ?_ ?_ | refine zj ?_ ?_ | refine ye rfl ?_ | fail) <;> first | exact yv | (first | exact yg (Cv.om rfl) (Cv.om rfl) (Cv.slc rfl (.inr rfl)) | exact yg (Cv.om rfl) (Cv.om rfl) (Cv.slc rfl (.inl rfl)) | exact CvL.pure (zg _ _) | exact Cv.ptr rfl | exact CvL.pure rfl | exact Cv.fptr ⟨rfl,(by simp)⟩ (CvL.pure rfl))) ?_
     refine ze zc [] rfl ?_;iterate 4 refine za rfl ?_
     refine xg rfl rfl zu ?_;refine za rfl ?_;refine xg rfl rfl zu ?_;refine zq rfl rfl (CallT.frame (c1) [0,1,2,4] rfl z3 z3 ?_)
     rintro _ _ ⟨rfl,rfl⟩;refine frK zy zy ?_;refine zb ?_;refine z7 ([(0,.ptr 0 0),(9,.ptr 5 0)]) (tnH1f (m.up 2) (mF m) (mW m) [R0,R1] v) [4,5,6,7,8,11,12] rfl (by refine ⟨[some 0,some 1,some 2,some 3,some 6,some 5],rfl,yb,ya,?_,?_⟩ <;> (repeat' first | exact trivial | exact yc | exact yd | exact z9 rfl | refine zn ?_ ?_ | refine zk rfl ?_ ?_ | refine zj ?_ ?_ | refine ye rfl ?_ | fail) <;> first | exact yv | (first | exact yg (Cv.om rfl) (Cv.om rfl) (Cv.slc rfl (.inr rfl)) | exact yg (Cv.om rfl) (Cv.om rfl) (Cv.slc rfl (.inl rfl)) | exact CvL.pure (zg _ _) | exact Cv.ptr rfl | exact CvL.pure rfl | exact Cv.fptr ⟨rfl,(by simp)⟩ (CvL.pure rfl))) ?_
     refine ze zc [] rfl ?_;iterate 3 refine za rfl ?_
     refine zp rfl rfl rfl rfl rfl xf rfl ?_;refine za rfl ?_;refine zp rfl rfl rfl rfl rfl xf rfl ?_;refine zb ?_;refine z7 ([(0,.ptr 0 0),(9,.ptr 5 0)]) (tnH1f (m.up 2) (mF m) (mW m) [R0,R1] ⟨v.fr,v.w,n[6]!,v.title⟩) [4,5,6,7,8] rfl (by refine ⟨[some 0,some 1,some 2,some 3,some 4,some 5],rfl,yb,ya,?_,?_⟩ <;> (repeat' first | exact trivial | exact yc | exact yd | exact z9 rfl | refine zn ?_ ?_ | refine zk rfl ?_ ?_ | refine zj ?_ ?_ | refine ye rfl ?_ | fail) <;> first | exact yv | (first | exact yg (Cv.om rfl) (Cv.om rfl) (Cv.slc rfl (.inr rfl)) | exact yg (Cv.om rfl) (Cv.om rfl) (Cv.slc rfl (.inl rfl)) | exact CvL.pure (zg _ _) | exact Cv.ptr rfl | exact CvL.pure rfl | exact Cv.fptr ⟨rfl,(by simp)⟩ (CvL.pure rfl))) ?_
     refine wc zc [] [_,_,_,_,_,_,_] rfl yj yj ?_;iterate 6 refine za rfl ?_
     refine za (t:=frT ⟨v.fr,v.w,n[6]!,v.title⟩) rfl ?_;refine zb ?_;refine x9 zc rfl rfl rfl rfl rfl rfl rfl rfl (by exact likeF _ _) (keyAt he) ?_;rw [show mapP (kF m.F) ((tF m.F).set i (frT ⟨v.fr,v.w,n[6]!,v.title⟩)) = p from (setF he).trans hpe.symm]
     refine zb ?_;refine z7 ([(0,.ptr 0 0),(9,.iptr (frC ⟨v.fr,v.w,n[6]!,v.title⟩) 0)]) (tnH1 (MM 2) p (mW m) [R0,R1]) [5,6,7,8] rfl (by refine ⟨[some 0,some 1,some 2,some 3,some 4],rfl,yb,ya,?_,?_⟩ <;> (repeat' first | exact trivial | exact yc | exact yd | exact z9 rfl | refine zn ?_ ?_ | refine zk rfl ?_ ?_ | refine zj ?_ ?_ | refine ye rfl ?_ | fail) <;> first | exact yv | (first | (rw [hMt];exact yg (Cv.om rfl) (Cv.om rfl) (Cv.slc rfl (.inl rfl))) | first | exact yg (Cv.om rfl) (Cv.om rfl) (Cv.slc rfl (.inr rfl)) | exact yg (Cv.om rfl) (Cv.om rfl) (Cv.slc rfl (.inl rfl)) | exact CvL.pure (zg _ _) | exact Cv.ptr rfl | exact CvL.pure rfl | exact Cv.fptr ⟨rfl,(by simp)⟩ (CvL.pure rfl))) ?_
     refine zo ?_;refine ze zc [] rfl ?_;iterate 3 refine za rfl ?_
     refine zb ?_;refine zi rfl (fun hc5=>?_) (fun hc5=>?_)
     ·exact absurd (h3.symm.trans hc5) (by decide)
     ·(try simp only [zf] at hc5)
      refine zt ?_;refine ze zc [] rfl ?_;iterate 3 refine za rfl ?_
      refine zb ?_;refine zi rfl (fun hc6=>?_) (fun hc6=>?_)
      ·(try simp only [zf] at hc6)
       refine z4 zc [] rfl ?_;iterate 4 refine za rfl ?_
       refine zq rfl rfl (CallT.frame (c2) [0,1,2,4] rfl z3 z3 ?_)
       rintro _ _ ⟨rfl,rfl⟩;refine frK zy zy ?_;refine zb ?_;refine ⟨trivial,_,rfl,rfl,?_⟩;rw [hpe,hMM];rfl
      ·exact absurd (h16.symm.trans hc6) (by decide)
    ·(try simp only [zf] at hc4);have e5 : n[Int.toNat 5]! = n[5]!:=rfl;have e6 : n[Int.toNat 6]! = n[6]!:=rfl;exfalso;omega
   ·exact absurd (h8.symm.trans hc3) (by decide)
 ·exact absurd (h12.symm.trans hc1) (by decide)
theorem zeu (m : Mg) (n : List Int) (top : Int) (ok : m.Ok top) (htop : top≤1000000) (hn : 9≤n.length) (i : Nat) (v : Fr) (he : m.F[i]? = some (n[1]!,v)) (hp : posK m.F n[1]! = some i) (hm : 0≤n[2]!∧n[2]!≤2147483647) (e4 : bit n[2]! 4 = false) (e8 : bit n[2]! 8 = true) (eL : (bit n[2]! 1 || bit n[2]! 2) = true) (e16 : bit n[2]! 16 = false) (eB : confBig v n[2]! n[5]! n[6]! = true) :
  CallT Tryd.prog 90 [.ptr 0 0,cIf n] (tnH m (mF m) (mW m) []) (fun t H'=>t = .tup []∧H' = ranH (m.conf n[1]! n[2]! n[3]! n[4]! n[5]! n[6]! n[7]! n[8]!).1 (m.conf n[1]! n[2]! n[3]! n[4]! n[5]! n[6]! n[7]! n[8]!).2 []):=by
 have hc:=ok.cnt
 have hpF:=piF m.F
 have hpW:=piW m.W
 have hlk:=lookF ok.fk n[1]! true
 have hmo:=he
 obtain ⟨R0,hR0⟩ : ∃ R,R = rq 5 [n[1]!,12,0,0,v.w,n[6]!,0,0]:=⟨_,rfl⟩
 obtain ⟨R1,hR1⟩ : ∃ R,R = rq 5 [v.fr,12,0,0,v.w + 2,n[6]! + 10,0,0]:=⟨_,rfl⟩
 obtain ⟨R2,hR2⟩ : ∃ R,R = rq 5 [v.fr,n[2]! % 4,n[3]!,n[4]!,0,0,0,0]:=⟨_,rfl⟩
 have h12 : (bitV .and .i64 n[2]! 12 != 0) = true:=by rw [and12 hm,e4,e8];rfl
 have h4 : (bitV .and .i64 n[2]! 4 != 0) = false:=by rw [and4 hm,e4]
 have h8 : (bitV .and .i64 n[2]! 8 != 0) = true:=by rw [and8 hm,e8]
 have h16 : (bitV .and .i64 n[2]! 16 != 0) = false:=by rw [and16 hm,e16]
 have h3 : (bitV .and .i64 n[2]! 3 != 0) = true:=by rw [and3 hm,eL]
 have h3v:=and3v hm
 have hr : m.conf n[1]! n[2]! n[3]! n[4]! n[5]! n[6]! n[7]! n[8]! = ({ m.up 3 with F:=m.F.set i (n[1]!,⟨v.fr,v.w,n[6]!,v.title⟩) },[R0,R1,R2]):=by
  unfold Mg.conf;rw [hp];simp only [getM he,confA,eB,eL,e16,confW,confH,e4,e8,if_true,if_false,Bool.false_eq_true,List.append_nil,List.nil_append,List.cons_append,List.length_cons,List.length_nil,hR0,hR1,hR2]
  try rfl
 unfold confBig confW confH at eB
 rw [e4,e8] at eB
 simp only [Bool.or_true,Bool.or_false,Bool.true_or,Bool.false_or,Bool.true_and,if_true,if_false,Bool.false_eq_true,Bool.and_eq_true,decide_eq_true_eq,Bool.and_eq_false_iff,decide_eq_false_iff_not] at eB
 rw [hr]
 rw [xb hp he] at hlk
 have c0 : CallT Tryd.prog 125 [.ptr 0 0,I64 n[1]!,I64 12,I64 0,I64 0,I64 v.w,I64 n[6]!,I64 0] (tnH m (mF m) (mW m) []) (fun t H'=>t = .tup []∧H' = tnH1 (m.up 1) (mF m) (mW m) [R0]):=by
  have:=yi m (mF m) (mW m) n[1]! 12 0 0 v.w n[6]! 0 [] (by simp) (by skip;omega) hpF hpW
  rw [← hR0] at this
  exact this
 have c1 : CallT Tryd.prog 125 [.ptr 0 0,I64 v.fr,I64 12,I64 0,I64 0,I64 (v.w + 2),I64 (n[6]! + 10),I64 0] (tnH (m.up 1) (mF m) (mW m) [R0]) (fun t H'=>t = .tup []∧H' = tnH1 (m.up 2) (mF m) (mW m) [R0,R1]):=by
  have:=yi (m.up 1) (mF m) (mW m) v.fr 12 0 0 (v.w + 2) (n[6]! + 10) 0 [R0] (by simp) (by show 0≤m.cnt + 1∧m.cnt + 1≤2000000;omega) hpF hpW
  rw [← hR1,we m 1 1 2 (by decide)] at this
  exact this
 obtain ⟨MM,hMM⟩ : ∃ MM : Int→Mg,MM = fun j=>{ m.up j with F:=m.F.set i (n[1]!,⟨v.fr,v.w,n[6]!,v.title⟩) }:=⟨_,rfl⟩
 have hMF : ∀ j,(MM j).F = m.F.set i (n[1]!,⟨v.fr,v.w,n[6]!,v.title⟩):=fun j=>by rw [hMM]
 have hMt : ∀ j a,tnC (MM j) a = tnC (m.up j) a:=fun j a=>by rw [hMM]
 have hMc : ∀ j,(MM j).cnt = m.cnt + j:=fun j=>by rw [hMM]
 have hup : ∀ a b c : Int,a + b = c→(MM a).up b = MM c:=fun a b c h=>by rw [hMM];exact vz m _ a b c h
 obtain ⟨p,hpe⟩ : ∃ p : OP,p = mapP (kF (m.F.set i (n[1]!,⟨v.fr,v.w,n[6]!,v.title⟩))) (tF (m.F.set i (n[1]!,⟨v.fr,v.w,n[6]!,v.title⟩))):=⟨_,rfl⟩
 have hpp : p.pi = true:=by rw [hpe];exact piF _
 have c2 : CallT Tryd.prog 125 [.ptr 0 0,I64 v.fr,I64 (n[2]! % 4),I64 n[3]!,I64 n[4]!,I64 0,I64 0,I64 0] (tnH (MM 2) p (mW m) [R0,R1]) (fun t H'=>t = .tup []∧H' = tnH1 (MM 3) p (mW m) [R0,R1,R2]):=by
  have:=yi (MM 2) p (mW m) v.fr (n[2]! % 4) n[3]! n[4]! 0 0 0 [R0,R1] (by simp) (by rw [hMc];omega) hpp hpW
  rw [← hR2,hup 2 1 3 (by decide)] at this
  exact this
 refine CallT.intro zc Tryd.func90 rfl (by kernel_rfl) (Nat.le_of_ble_eq_true rfl) ?_;refine yu zc [] [_,_,_,_,_,_,_,_,_,_,_,_,_,_,_,_,_,_,_,_] rfl yj yj ?_;refine za rfl ?_;refine zr rfl rfl rfl rfl rfl y9 zu ?_;refine zm rfl rfl yn ?_;refine za rfl ?_;refine zr rfl rfl rfl rfl rfl y9 zu ?_;refine zm rfl rfl yn ?_;refine za rfl ?_;refine zr rfl rfl rfl rfl rfl y9 zu ?_;refine zm rfl rfl yn ?_;refine za rfl ?_;refine zr rfl rfl rfl rfl rfl y9 zu ?_;refine zm rfl rfl yn ?_;refine za rfl ?_;refine zr rfl rfl rfl rfl rfl y9 zu ?_;refine zm rfl rfl yn ?_;iterate 5 refine za rfl ?_
 iterate 2 refine zb ?_
 refine ze zc [] rfl ?_;iterate 6 refine za rfl ?_
 refine yy zc rfl rfl rfl hlk ?_;iterate 3 refine za rfl ?_
 refine yk rfl rfl ?_;refine zp rfl rfl rfl rfl rfl xf rfl ?_;refine za rfl ?_;refine zb ?_;refine z7 ([(0,.ptr 0 0),(9,.ptr 4 0)]) (tnHf m (mF m) (mW m) [] v) [1,4,5,6,7,8,10] rfl (by refine ⟨[some 0,some 1,some 2,some 3,some 4],rfl,yb,ya,?_,?_⟩ <;> (repeat' first | exact trivial | exact yc | exact yd | exact z9 rfl | refine zn ?_ ?_ | refine zk rfl ?_ ?_ | refine zj ?_ ?_ | refine ye rfl ?_ | fail) <;> first | exact yv | (first | exact yg (Cv.om rfl) (Cv.om rfl) (Cv.slc rfl (.inr rfl)) | exact yg (Cv.om rfl) (Cv.om rfl) (Cv.slc rfl (.inl rfl)) | exact CvL.pure (zg _ _) | exact Cv.ptr rfl | exact CvL.pure rfl | exact Cv.fptr ⟨rfl,(by simp)⟩ (CvL.pure rfl))) ?_
 refine zo ?_;refine ze zc [] rfl ?_;iterate 2 refine za rfl ?_
 refine zb ?_;refine yq rfl ?_;refine zt ?_;refine zo ?_;refine ze zc [] rfl ?_;iterate 3 refine za rfl ?_
 refine zb ?_;refine zi rfl (fun hc1=>?_) (fun hc1=>?_)
 ·(try simp only [zf] at hc1)
  refine yu zc [] [_,_,_,_,_,_] rfl yj yj ?_;iterate 6 refine za rfl ?_
  iterate 2 refine zb ?_
  refine zo ?_;refine ze zc [] rfl ?_;iterate 3 refine za rfl ?_
  refine zb ?_;refine zi rfl (fun hc2=>?_) (fun hc2=>?_)
  ·exact absurd (h4.symm.trans hc2) (by decide)
  ·(try simp only [zf] at hc2)
   refine zt ?_;refine zo ?_;refine ze zc [] rfl ?_;iterate 3 refine za rfl ?_
   refine zb ?_;refine zi rfl (fun hc3=>?_) (fun hc3=>?_)
   ·(try simp only [zf] at hc3)
    refine z4 zc [] rfl ?_;refine za rfl ?_;refine zr rfl rfl rfl rfl rfl y9 zu ?_;refine zm rfl rfl yn ?_;refine za rfl ?_;refine zb ?_;refine ze zc [] rfl ?_;iterate 3 refine za rfl ?_
    refine' zx (d:=68) [_,_,_] rfl ?_ rfl ?_
    rotate_left
    ·refine zw rfl rfl (fun hb10_2=>?_) (fun hb10_2=>?_)
     ·have ghb10_2:=hb10_2
      try simp only [zf,Bool.not_true,Bool.not_false] at ghb10_2
      refine za rfl ?_;refine zd rfl rfl hb10_2 ?_;refine za rfl ?_;refine zh rfl (fun _=>rfl) ?_;exact zb ⟨rfl,rfl⟩
     ·refine zl rfl rfl hb10_2 ?_;exact zh rfl (fun h=>absurd (h.symm.trans hb10_2) (by decide)) (zb ⟨rfl,rfl⟩)
    refine za rfl ?_;refine' zx (d:=72) [_,_,_] rfl ?_ rfl ?_
    rotate_left
    ·refine zw rfl rfl (fun hb10_6=>?_) (fun hb10_6=>?_)
     ·have ghb10_6:=hb10_6
      try simp only [zf,Bool.not_true,Bool.not_false] at ghb10_6
      refine za rfl ?_;refine zd rfl rfl hb10_6 ?_;refine za rfl ?_;refine zh rfl (fun _=>rfl) ?_;exact zb ⟨rfl,rfl⟩
     ·refine zl rfl rfl hb10_6 ?_;exact zh rfl (fun h=>absurd (h.symm.trans hb10_6) (by decide)) (zb ⟨rfl,rfl⟩)
    refine za rfl ?_;refine' zx (d:=76) [_,_,_] rfl ?_ rfl ?_
    rotate_left
    ·refine zw rfl rfl (fun hb10_10=>?_) (fun hb10_10=>?_)
     ·have ghb10_10:=hb10_10
      try simp only [zf,Bool.not_true,Bool.not_false] at ghb10_10
      refine za rfl ?_;refine zd rfl rfl hb10_10 ?_;refine za rfl ?_;refine zh rfl (fun _=>rfl) ?_;exact zb ⟨rfl,rfl⟩
     ·refine zl rfl rfl hb10_10 ?_;exact zh rfl (fun h=>absurd (h.symm.trans hb10_10) (by decide)) (zb ⟨rfl,rfl⟩)
    refine zb ?_;refine zi rfl (fun hc4=>?_) (fun hc4=>?_)
    ·(try simp only [zf] at hc4)
     refine ze zc [] rfl ?_;iterate 4 refine za rfl ?_
     refine zq rfl rfl (CallT.frame (c0) [0,1,2,3] rfl z3 z3 ?_)
     rintro _ _ ⟨rfl,rfl⟩;refine frK zy zy ?_;refine zb ?_;refine z7 ([(0,.ptr 0 0),(9,.ptr 5 0)]) (tnH1f (m.up 1) (mF m) (mW m) [R0] v) [4,5,6,7,8,11,12] rfl (by refine ⟨[some 0,some 1,some 2,some 3,some 5,some 4],rfl,yb,ya,?_,?_⟩ <;> (repeat' first | exact trivial | exact yc | exact yd | exact z9 rfl | refine zn ?_ ?_ | refine zk rfl ?_ ?_ | refine zj ?_ ?_ | refine ye rfl ?_ | fail) <;> first | exact yv | (first | exact yg (Cv.om rfl) (Cv.om rfl) (Cv.slc rfl (.inr rfl)) | exact yg (Cv.om rfl) (Cv.om rfl) (Cv.slc rfl (.inl rfl)) | exact CvL.pure (zg _ _) | exact Cv.ptr rfl | exact CvL.pure rfl | exact Cv.fptr ⟨rfl,(by simp)⟩ (CvL.pure rfl))) ?_
     refine ze zc [] rfl ?_;iterate 4 refine za rfl ?_
     refine xg rfl rfl zu ?_;refine za rfl ?_;refine xg rfl rfl zu ?_;refine zq rfl rfl (CallT.frame (c1) [0,1,2,4] rfl z3 z3 ?_)
     rintro _ _ ⟨rfl,rfl⟩;refine frK zy zy ?_;refine zb ?_;refine z7 ([(0,.ptr 0 0),(9,.ptr 5 0)]) (tnH1f (m.up 2) (mF m) (mW m) [R0,R1] v) [4,5,6,7,8,11,12] rfl (by refine ⟨[some 0,some 1,some 2,some 3,some 6,some 5],rfl,yb,ya,?_,?_⟩ <;> (repeat' first | exact trivial | exact yc | exact yd | exact z9 rfl | refine zn ?_ ?_ | refine zk rfl ?_ ?_ | refine zj ?_ ?_ | refine ye rfl ?_ | fail) <;> first | exact yv | (first | exact yg (Cv.om rfl) (Cv.om rfl) (Cv.slc rfl (.inr rfl)) | exact yg (Cv.om rfl) (Cv.om rfl) (Cv.slc rfl (.inl rfl)) | exact CvL.pure (zg _ _) | exact Cv.ptr rfl | exact CvL.pure rfl | exact Cv.fptr ⟨rfl,(by simp)⟩ (CvL.pure rfl))) ?_
     refine ze zc [] rfl ?_;iterate 3 refine za rfl ?_
     refine zp rfl rfl rfl rfl rfl xf rfl ?_;refine za rfl ?_;refine zp rfl rfl rfl rfl rfl xf rfl ?_;refine zb ?_;refine z7 ([(0,.ptr 0 0),(9,.ptr 5 0)]) (tnH1f (m.up 2) (mF m) (mW m) [R0,R1] ⟨v.fr,v.w,n[6]!,v.title⟩) [4,5,6,7,8] rfl (by refine ⟨[some 0,some 1,some 2,some 3,some 4,some 5],rfl,yb,ya,?_,?_⟩ <;> (repeat' first | exact trivial | exact yc | exact yd | exact z9 rfl | refine zn ?_ ?_ | refine zk rfl ?_ ?_ | refine zj ?_ ?_ | refine ye rfl ?_ | fail) <;> first | exact yv | (first | exact yg (Cv.om rfl) (Cv.om rfl) (Cv.slc rfl (.inr rfl)) | exact yg (Cv.om rfl) (Cv.om rfl) (Cv.slc rfl (.inl rfl)) | exact CvL.pure (zg _ _) | exact Cv.ptr rfl | exact CvL.pure rfl | exact Cv.fptr ⟨rfl,(by simp)⟩ (CvL.pure rfl))) ?_
     refine wc zc [] [_,_,_,_,_,_,_] rfl yj yj ?_;iterate 6 refine za rfl ?_
     refine za (t:=frT ⟨v.fr,v.w,n[6]!,v.title⟩) rfl ?_;refine zb ?_;refine x9 zc rfl rfl rfl rfl rfl rfl rfl rfl (by exact likeF _ _) (keyAt he) ?_;rw [show mapP (kF m.F) ((tF m.F).set i (frT ⟨v.fr,v.w,n[6]!,v.title⟩)) = p from (setF he).trans hpe.symm]
     refine zb ?_;refine z7 ([(0,.ptr 0 0),(9,.iptr (frC ⟨v.fr,v.w,n[6]!,v.title⟩) 0)]) (tnH1 (MM 2) p (mW m) [R0,R1]) [5,6,7,8] rfl (by refine ⟨[some 0,some 1,some 2,some 3,some 4],rfl,yb,ya,?_,?_⟩ <;> (repeat' first | exact trivial | exact yc | exact yd | exact z9 rfl | refine zn ?_ ?_ | refine zk rfl ?_ ?_ | refine zj ?_ ?_ | refine ye rfl ?_ | fail) <;> first | exact yv | (first | (rw [hMt];exact yg (Cv.om rfl) (Cv.om rfl) (Cv.slc rfl (.inl rfl))) | first | exact yg (Cv.om rfl) (Cv.om rfl) (Cv.slc rfl (.inr rfl)) | exact yg (Cv.om rfl) (Cv.om rfl) (Cv.slc rfl (.inl rfl)) | exact CvL.pure (zg _ _) | exact Cv.ptr rfl | exact CvL.pure rfl | exact Cv.fptr ⟨rfl,(by simp)⟩ (CvL.pure rfl))) ?_
     refine zo ?_;refine ze zc [] rfl ?_;iterate 3 refine za rfl ?_
     refine zb ?_;refine zi rfl (fun hc5=>?_) (fun hc5=>?_)
     ·(try simp only [zf] at hc5)
      refine z4 zc [] rfl ?_;iterate 4 refine za rfl ?_
      refine za (t:=I64 (n[2]! % 4)) (by show some (T.v (.int .i64 (bitV .and .i64 n[2]! 3)),(none : Option (Nat × List T))) = _;rw [h3v]) ?_;iterate 2 refine za rfl ?_
      refine zq rfl rfl (CallT.frame (c2) [0,1,2,4] rfl z3 z3 ?_)
      rintro _ _ ⟨rfl,rfl⟩;refine frK zy zy ?_;refine zb ?_;refine ze zc [] rfl ?_;iterate 3 refine za rfl ?_
      refine zb ?_;refine zi rfl (fun hc6=>?_) (fun hc6=>?_)
      ·exact absurd (h16.symm.trans hc6) (by decide)
      ·(try simp only [zf] at hc6)
       refine zt ?_;refine ⟨trivial,_,rfl,rfl,?_⟩;rw [hpe,hMM];rfl
     ·exact absurd (h3.symm.trans hc5) (by decide)
    ·(try simp only [zf] at hc4);have e5 : n[Int.toNat 5]! = n[5]!:=rfl;have e6 : n[Int.toNat 6]! = n[6]!:=rfl;exfalso;omega
   ·exact absurd (h8.symm.trans hc3) (by decide)
 ·exact absurd (h12.symm.trans hc1) (by decide)
theorem zet (m : Mg) (n : List Int) (top : Int) (ok : m.Ok top) (htop : top≤1000000) (hn : 9≤n.length) (i : Nat) (v : Fr) (he : m.F[i]? = some (n[1]!,v)) (hp : posK m.F n[1]! = some i) (hm : 0≤n[2]!∧n[2]!≤2147483647) (e4 : bit n[2]! 4 = false) (e8 : bit n[2]! 8 = true) (eL : (bit n[2]! 1 || bit n[2]! 2) = true) (e16 : bit n[2]! 16 = true) (eB : confBig v n[2]! n[5]! n[6]! = true) :
  CallT Tryd.prog 90 [.ptr 0 0,cIf n] (tnH m (mF m) (mW m) []) (fun t H'=>t = .tup []∧H' = ranH (m.conf n[1]! n[2]! n[3]! n[4]! n[5]! n[6]! n[7]! n[8]!).1 (m.conf n[1]! n[2]! n[3]! n[4]! n[5]! n[6]! n[7]! n[8]!).2 []):=by
 have hc:=ok.cnt
 have hpF:=piF m.F
 have hpW:=piW m.W
 have hlk:=lookF ok.fk n[1]! true
 have hmo:=he
 obtain ⟨R0,hR0⟩ : ∃ R,R = rq 5 [n[1]!,12,0,0,v.w,n[6]!,0,0]:=⟨_,rfl⟩
 obtain ⟨R1,hR1⟩ : ∃ R,R = rq 5 [v.fr,12,0,0,v.w + 2,n[6]! + 10,0,0]:=⟨_,rfl⟩
 obtain ⟨R2,hR2⟩ : ∃ R,R = rq 5 [v.fr,n[2]! % 4,n[3]!,n[4]!,0,0,0,0]:=⟨_,rfl⟩
 obtain ⟨R3,hR3⟩ : ∃ R,R = rq 5 [v.fr,16,0,0,0,0,0,n[8]!]:=⟨_,rfl⟩
 have h12 : (bitV .and .i64 n[2]! 12 != 0) = true:=by rw [and12 hm,e4,e8];rfl
 have h4 : (bitV .and .i64 n[2]! 4 != 0) = false:=by rw [and4 hm,e4]
 have h8 : (bitV .and .i64 n[2]! 8 != 0) = true:=by rw [and8 hm,e8]
 have h16 : (bitV .and .i64 n[2]! 16 != 0) = true:=by rw [and16 hm,e16]
 have h3 : (bitV .and .i64 n[2]! 3 != 0) = true:=by rw [and3 hm,eL]
 have h3v:=and3v hm
 have hr : m.conf n[1]! n[2]! n[3]! n[4]! n[5]! n[6]! n[7]! n[8]! = ({ m.up 4 with F:=m.F.set i (n[1]!,⟨v.fr,v.w,n[6]!,v.title⟩) },[R0,R1,R2,R3]):=by
  unfold Mg.conf;rw [hp];simp only [getM he,confA,eB,eL,e16,confW,confH,e4,e8,if_true,if_false,Bool.false_eq_true,List.append_nil,List.nil_append,List.cons_append,List.length_cons,List.length_nil,hR0,hR1,hR2,hR3]
  try rfl
 unfold confBig confW confH at eB
 rw [e4,e8] at eB
 simp only [Bool.or_true,Bool.or_false,Bool.true_or,Bool.false_or,Bool.true_and,if_true,if_false,Bool.false_eq_true,Bool.and_eq_true,decide_eq_true_eq,Bool.and_eq_false_iff,decide_eq_false_iff_not] at eB
 rw [hr]
 rw [xb hp he] at hlk
 have c0 : CallT Tryd.prog 125 [.ptr 0 0,I64 n[1]!,I64 12,I64 0,I64 0,I64 v.w,I64 n[6]!,I64 0] (tnH m (mF m) (mW m) []) (fun t H'=>t = .tup []∧H' = tnH1 (m.up 1) (mF m) (mW m) [R0]):=by
  have:=yi m (mF m) (mW m) n[1]! 12 0 0 v.w n[6]! 0 [] (by simp) (by skip;omega) hpF hpW
  rw [← hR0] at this
  exact this
 have c1 : CallT Tryd.prog 125 [.ptr 0 0,I64 v.fr,I64 12,I64 0,I64 0,I64 (v.w + 2),I64 (n[6]! + 10),I64 0] (tnH (m.up 1) (mF m) (mW m) [R0]) (fun t H'=>t = .tup []∧H' = tnH1 (m.up 2) (mF m) (mW m) [R0,R1]):=by
  have:=yi (m.up 1) (mF m) (mW m) v.fr 12 0 0 (v.w + 2) (n[6]! + 10) 0 [R0] (by simp) (by show 0≤m.cnt + 1∧m.cnt + 1≤2000000;omega) hpF hpW
  rw [← hR1,we m 1 1 2 (by decide)] at this
  exact this
 obtain ⟨MM,hMM⟩ : ∃ MM : Int→Mg,MM = fun j=>{ m.up j with F:=m.F.set i (n[1]!,⟨v.fr,v.w,n[6]!,v.title⟩) }:=⟨_,rfl⟩
 have hMF : ∀ j,(MM j).F = m.F.set i (n[1]!,⟨v.fr,v.w,n[6]!,v.title⟩):=fun j=>by rw [hMM]
 have hMt : ∀ j a,tnC (MM j) a = tnC (m.up j) a:=fun j a=>by rw [hMM]
 have hMc : ∀ j,(MM j).cnt = m.cnt + j:=fun j=>by rw [hMM]
 have hup : ∀ a b c : Int,a + b = c→(MM a).up b = MM c:=fun a b c h=>by rw [hMM];exact vz m _ a b c h
 obtain ⟨p,hpe⟩ : ∃ p : OP,p = mapP (kF (m.F.set i (n[1]!,⟨v.fr,v.w,n[6]!,v.title⟩))) (tF (m.F.set i (n[1]!,⟨v.fr,v.w,n[6]!,v.title⟩))):=⟨_,rfl⟩
 have hpp : p.pi = true:=by rw [hpe];exact piF _
 have c2 : CallT Tryd.prog 125 [.ptr 0 0,I64 v.fr,I64 (n[2]! % 4),I64 n[3]!,I64 n[4]!,I64 0,I64 0,I64 0] (tnH (MM 2) p (mW m) [R0,R1]) (fun t H'=>t = .tup []∧H' = tnH1 (MM 3) p (mW m) [R0,R1,R2]):=by
  have:=yi (MM 2) p (mW m) v.fr (n[2]! % 4) n[3]! n[4]! 0 0 0 [R0,R1] (by simp) (by rw [hMc];omega) hpp hpW
  rw [← hR2,hup 2 1 3 (by decide)] at this
  exact this
 have c3 : CallT Tryd.prog 125 [.ptr 0 0,I64 v.fr,I64 16,I64 0,I64 0,I64 0,I64 0,I64 n[8]!] (tnH (MM 3) p (mW m) [R0,R1,R2]) (fun t H'=>t = .tup []∧H' = tnH1 (MM 4) p (mW m) [R0,R1,R2,R3]):=by
  have:=yi (MM 3) p (mW m) v.fr 16 0 0 0 0 n[8]! [R0,R1,R2] (by simp) (by rw [hMc];omega) hpp hpW
  rw [← hR3,hup 3 1 4 (by decide)] at this
  exact this
 refine CallT.intro zc Tryd.func90 rfl (by kernel_rfl) (Nat.le_of_ble_eq_true rfl) ?_;refine yu zc [] [_,_,_,_,_,_,_,_,_,_,_,_,_,_,_,_,_,_,_,_] rfl yj yj ?_;refine za rfl ?_;refine zr rfl rfl rfl rfl rfl y9 zu ?_;refine zm rfl rfl yn ?_;refine za rfl ?_;refine zr rfl rfl rfl rfl rfl y9 zu ?_;refine zm rfl rfl yn ?_;refine za rfl ?_;refine zr rfl rfl rfl rfl rfl y9 zu ?_;refine zm rfl rfl yn ?_;refine za rfl ?_;refine zr rfl rfl rfl rfl rfl y9 zu ?_;refine zm rfl rfl yn ?_;refine za rfl ?_;refine zr rfl rfl rfl rfl rfl y9 zu ?_;refine zm rfl rfl yn ?_;iterate 5 refine za rfl ?_
 iterate 2 refine zb ?_
 refine ze zc [] rfl ?_;iterate 6 refine za rfl ?_
 refine yy zc rfl rfl rfl hlk ?_;iterate 3 refine za rfl ?_
 refine yk rfl rfl ?_;refine zp rfl rfl rfl rfl rfl xf rfl ?_;refine za rfl ?_;refine zb ?_;refine z7 ([(0,.ptr 0 0),(9,.ptr 4 0)]) (tnHf m (mF m) (mW m) [] v) [1,4,5,6,7,8,10] rfl (by refine ⟨[some 0,some 1,some 2,some 3,some 4],rfl,yb,ya,?_,?_⟩ <;> (repeat' first | exact trivial | exact yc | exact yd | exact z9 rfl | refine zn ?_ ?_ | refine zk rfl ?_ ?_ | refine zj ?_ ?_ | refine ye rfl ?_ | fail) <;> first | exact yv | (first | exact yg (Cv.om rfl) (Cv.om rfl) (Cv.slc rfl (.inr rfl)) | exact yg (Cv.om rfl) (Cv.om rfl) (Cv.slc rfl (.inl rfl)) | exact CvL.pure (zg _ _) | exact Cv.ptr rfl | exact CvL.pure rfl | exact Cv.fptr ⟨rfl,(by simp)⟩ (CvL.pure rfl))) ?_
 refine zo ?_;refine ze zc [] rfl ?_;iterate 2 refine za rfl ?_
 refine zb ?_;refine yq rfl ?_;refine zt ?_;refine zo ?_;refine ze zc [] rfl ?_;iterate 3 refine za rfl ?_
 refine zb ?_;refine zi rfl (fun hc1=>?_) (fun hc1=>?_)
 ·(try simp only [zf] at hc1)
  refine yu zc [] [_,_,_,_,_,_] rfl yj yj ?_;iterate 6 refine za rfl ?_
  iterate 2 refine zb ?_
  refine zo ?_;refine ze zc [] rfl ?_;iterate 3 refine za rfl ?_
  refine zb ?_;refine zi rfl (fun hc2=>?_) (fun hc2=>?_)
  ·exact absurd (h4.symm.trans hc2) (by decide)
  ·(try simp only [zf] at hc2)
   refine zt ?_;refine zo ?_;refine ze zc [] rfl ?_;iterate 3 refine za rfl ?_
   refine zb ?_;refine zi rfl (fun hc3=>?_) (fun hc3=>?_)
   ·(try simp only [zf] at hc3)
    refine z4 zc [] rfl ?_;refine za rfl ?_;refine zr rfl rfl rfl rfl rfl y9 zu ?_;refine zm rfl rfl yn ?_;refine za rfl ?_;refine zb ?_;refine ze zc [] rfl ?_;iterate 3 refine za rfl ?_
    refine' zx (d:=68) [_,_,_] rfl ?_ rfl ?_
    rotate_left
    ·refine zw rfl rfl (fun hb10_2=>?_) (fun hb10_2=>?_)
     ·have ghb10_2:=hb10_2
      try simp only [zf,Bool.not_true,Bool.not_false] at ghb10_2
      refine za rfl ?_;refine zd rfl rfl hb10_2 ?_;refine za rfl ?_;refine zh rfl (fun _=>rfl) ?_;exact zb ⟨rfl,rfl⟩
     ·refine zl rfl rfl hb10_2 ?_;exact zh rfl (fun h=>absurd (h.symm.trans hb10_2) (by decide)) (zb ⟨rfl,rfl⟩)
    refine za rfl ?_;refine' zx (d:=72) [_,_,_] rfl ?_ rfl ?_
    rotate_left
    ·refine zw rfl rfl (fun hb10_6=>?_) (fun hb10_6=>?_)
     ·have ghb10_6:=hb10_6
      try simp only [zf,Bool.not_true,Bool.not_false] at ghb10_6
      refine za rfl ?_;refine zd rfl rfl hb10_6 ?_;refine za rfl ?_;refine zh rfl (fun _=>rfl) ?_;exact zb ⟨rfl,rfl⟩
     ·refine zl rfl rfl hb10_6 ?_;exact zh rfl (fun h=>absurd (h.symm.trans hb10_6) (by decide)) (zb ⟨rfl,rfl⟩)
    refine za rfl ?_;refine' zx (d:=76) [_,_,_] rfl ?_ rfl ?_
    rotate_left
    ·refine zw rfl rfl (fun hb10_10=>?_) (fun hb10_10=>?_)
     ·have ghb10_10:=hb10_10
      try simp only [zf,Bool.not_true,Bool.not_false] at ghb10_10
      refine za rfl ?_;refine zd rfl rfl hb10_10 ?_;refine za rfl ?_;refine zh rfl (fun _=>rfl) ?_;exact zb ⟨rfl,rfl⟩
     ·refine zl rfl rfl hb10_10 ?_;exact zh rfl (fun h=>absurd (h.symm.trans hb10_10) (by decide)) (zb ⟨rfl,rfl⟩)
    refine zb ?_;refine zi rfl (fun hc4=>?_) (fun hc4=>?_)
    ·(try simp only [zf] at hc4)
     refine ze zc [] rfl ?_;iterate 4 refine za rfl ?_
     refine zq rfl rfl (CallT.frame (c0) [0,1,2,3] rfl z3 z3 ?_)
     rintro _ _ ⟨rfl,rfl⟩;refine frK zy zy ?_;refine zb ?_;refine z7 ([(0,.ptr 0 0),(9,.ptr 5 0)]) (tnH1f (m.up 1) (mF m) (mW m) [R0] v) [4,5,6,7,8,11,12] rfl (by refine ⟨[some 0,some 1,some 2,some 3,some 5,some 4],rfl,yb,ya,?_,?_⟩ <;> (repeat' first | exact trivial | exact yc | exact yd | exact z9 rfl | refine zn ?_ ?_ | refine zk rfl ?_ ?_ | refine zj ?_ ?_ | refine ye rfl ?_ | fail) <;> first | exact yv | (first | exact yg (Cv.om rfl) (Cv.om rfl) (Cv.slc rfl (.inr rfl)) | exact yg (Cv.om rfl) (Cv.om rfl) (Cv.slc rfl (.inl rfl)) | exact CvL.pure (zg _ _) | exact Cv.ptr rfl | exact CvL.pure rfl | exact Cv.fptr ⟨rfl,(by simp)⟩ (CvL.pure rfl))) ?_
     refine ze zc [] rfl ?_;iterate 4 refine za rfl ?_
     refine xg rfl rfl zu ?_;refine za rfl ?_;refine xg rfl rfl zu ?_;refine zq rfl rfl (CallT.frame (c1) [0,1,2,4] rfl z3 z3 ?_)
     rintro _ _ ⟨rfl,rfl⟩;refine frK zy zy ?_;refine zb ?_;refine z7 ([(0,.ptr 0 0),(9,.ptr 5 0)]) (tnH1f (m.up 2) (mF m) (mW m) [R0,R1] v) [4,5,6,7,8,11,12] rfl (by refine ⟨[some 0,some 1,some 2,some 3,some 6,some 5],rfl,yb,ya,?_,?_⟩ <;> (repeat' first | exact trivial | exact yc | exact yd | exact z9 rfl | refine zn ?_ ?_ | refine zk rfl ?_ ?_ | refine zj ?_ ?_ | refine ye rfl ?_ | fail) <;> first | exact yv | (first | exact yg (Cv.om rfl) (Cv.om rfl) (Cv.slc rfl (.inr rfl)) | exact yg (Cv.om rfl) (Cv.om rfl) (Cv.slc rfl (.inl rfl)) | exact CvL.pure (zg _ _) | exact Cv.ptr rfl | exact CvL.pure rfl | exact Cv.fptr ⟨rfl,(by simp)⟩ (CvL.pure rfl))) ?_
     refine ze zc [] rfl ?_;iterate 3 refine za rfl ?_
     refine zp rfl rfl rfl rfl rfl xf rfl ?_;refine za rfl ?_;refine zp rfl rfl rfl rfl rfl xf rfl ?_;refine zb ?_;refine z7 ([(0,.ptr 0 0),(9,.ptr 5 0)]) (tnH1f (m.up 2) (mF m) (mW m) [R0,R1] ⟨v.fr,v.w,n[6]!,v.title⟩) [4,5,6,7,8] rfl (by refine ⟨[some 0,some 1,some 2,some 3,some 4,some 5],rfl,yb,ya,?_,?_⟩ <;> (repeat' first | exact trivial | exact yc | exact yd | exact z9 rfl | refine zn ?_ ?_ | refine zk rfl ?_ ?_ | refine zj ?_ ?_ | refine ye rfl ?_ | fail) <;> first | exact yv | (first | exact yg (Cv.om rfl) (Cv.om rfl) (Cv.slc rfl (.inr rfl)) | exact yg (Cv.om rfl) (Cv.om rfl) (Cv.slc rfl (.inl rfl)) | exact CvL.pure (zg _ _) | exact Cv.ptr rfl | exact CvL.pure rfl | exact Cv.fptr ⟨rfl,(by simp)⟩ (CvL.pure rfl))) ?_
     refine wc zc [] [_,_,_,_,_,_,_] rfl yj yj ?_;iterate 6 refine za rfl ?_
     refine za (t:=frT ⟨v.fr,v.w,n[6]!,v.title⟩) rfl ?_;refine zb ?_;refine x9 zc rfl rfl rfl rfl rfl rfl rfl rfl (by exact likeF _ _) (keyAt he) ?_;rw [show mapP (kF m.F) ((tF m.F).set i (frT ⟨v.fr,v.w,n[6]!,v.title⟩)) = p from (setF he).trans hpe.symm]
     refine zb ?_;refine z7 ([(0,.ptr 0 0),(9,.iptr (frC ⟨v.fr,v.w,n[6]!,v.title⟩) 0)]) (tnH1 (MM 2) p (mW m) [R0,R1]) [5,6,7,8] rfl (by refine ⟨[some 0,some 1,some 2,some 3,some 4],rfl,yb,ya,?_,?_⟩ <;> (repeat' first | exact trivial | exact yc | exact yd | exact z9 rfl | refine zn ?_ ?_ | refine zk rfl ?_ ?_ | refine zj ?_ ?_ | refine ye rfl ?_ | fail) <;> first | exact yv | (first | (rw [hMt];exact yg (Cv.om rfl) (Cv.om rfl) (Cv.slc rfl (.inl rfl))) | first | exact yg (Cv.om rfl) (Cv.om rfl) (Cv.slc rfl (.inr rfl)) | exact yg (Cv.om rfl) (Cv.om rfl) (Cv.slc rfl (.inl rfl)) | exact CvL.pure (zg _ _) | exact Cv.ptr rfl | exact CvL.pure rfl | exact Cv.fptr ⟨rfl,(by simp)⟩ (CvL.pure rfl))) ?_
     refine zo ?_;refine ze zc [] rfl ?_;iterate 3 refine za rfl ?_
     refine zb ?_;refine zi rfl (fun hc5=>?_) (fun hc5=>?_)
     ·(try simp only [zf] at hc5)
      refine z4 zc [] rfl ?_;iterate 4 refine za rfl ?_
      refine za (t:=I64 (n[2]! % 4)) (by show some (T.v (.int .i64 (bitV .and .i64 n[2]! 3)),(none : Option (Nat × List T))) = _;rw [h3v]) ?_;iterate 2 refine za rfl ?_
      refine zq rfl rfl (CallT.frame (c2) [0,1,2,4] rfl z3 z3 ?_)
      rintro _ _ ⟨rfl,rfl⟩;refine frK zy zy ?_;refine zb ?_;refine z7 ([(0,.ptr 0 0)]) (tnH1 (MM 3) p (mW m) [R0,R1,R2]) [5,8,9] rfl (by refine ⟨[some 0,some 1,some 2,some 3,some 5],rfl,yb,ya,?_,?_⟩ <;> (repeat' first | exact trivial | exact yc | exact yd | exact z9 rfl | refine zn ?_ ?_ | refine zk rfl ?_ ?_ | refine zj ?_ ?_ | refine ye rfl ?_ | fail) <;> first | exact yv | (first | (rw [hMt,hMt];exact yg (Cv.om rfl) (Cv.om rfl) (Cv.slc rfl (.inr rfl))) | (rw [hMt,hMt];exact yg (Cv.om rfl) (Cv.om rfl) (Cv.slc rfl (.inl rfl))) | first | exact yg (Cv.om rfl) (Cv.om rfl) (Cv.slc rfl (.inr rfl)) | exact yg (Cv.om rfl) (Cv.om rfl) (Cv.slc rfl (.inl rfl)) | exact CvL.pure (zg _ _) | exact Cv.ptr rfl | exact CvL.pure rfl | exact Cv.fptr ⟨rfl,(by simp)⟩ (CvL.pure rfl))) ?_
      refine ze zc [] rfl ?_;iterate 3 refine za rfl ?_
      refine zb ?_;refine zi rfl (fun hc6=>?_) (fun hc6=>?_)
      ·(try simp only [zf] at hc6)
       refine z4 zc [] rfl ?_;iterate 4 refine za rfl ?_
       refine zq rfl rfl (CallT.frame (c3) [0,1,2,4] rfl z3 z3 ?_)
       rintro _ _ ⟨rfl,rfl⟩;refine frK zy zy ?_;refine zb ?_;refine ⟨trivial,_,rfl,rfl,?_⟩;rw [hpe,hMM];rfl
      ·exact absurd (h16.symm.trans hc6) (by decide)
     ·exact absurd (h3.symm.trans hc5) (by decide)
    ·(try simp only [zf] at hc4);have e5 : n[Int.toNat 5]! = n[5]!:=rfl;have e6 : n[Int.toNat 6]! = n[6]!:=rfl;exfalso;omega
   ·exact absurd (h8.symm.trans hc3) (by decide)
 ·exact absurd (h12.symm.trans hc1) (by decide)
end

section
open Go.RowKit
set_option maxRecDepth 10000
set_option maxHeartbeats 2000000
theorem zek (m : Mg) (n : List Int) (top : Int) (ok : m.Ok top) (htop : top≤1000000) (hn : 9≤n.length) (i : Nat) (v : Fr) (he : m.F[i]? = some (n[1]!,v)) (hp : posK m.F n[1]! = some i) (hm : 0≤n[2]!∧n[2]!≤2147483647) (e4 : bit n[2]! 4 = true) (e8 : bit n[2]! 8 = true) (eL : (bit n[2]! 1 || bit n[2]! 2) = false) (e16 : bit n[2]! 16 = false) (eB : confBig v n[2]! n[5]! n[6]! = false) :
  CallT Tryd.prog 90 [.ptr 0 0,cIf n] (tnH m (mF m) (mW m) []) (fun t H'=>t = .tup []∧H' = ranH (m.conf n[1]! n[2]! n[3]! n[4]! n[5]! n[6]! n[7]! n[8]!).1 (m.conf n[1]! n[2]! n[3]! n[4]! n[5]! n[6]! n[7]! n[8]!).2 []):=by
 have hc:=ok.cnt
 have hpF:=piF m.F
 have hpW:=piW m.W
 have hlk:=lookF ok.fk n[1]! true
 have hmo:=he
 have h12 : (bitV .and .i64 n[2]! 12 != 0) = true:=by rw [and12 hm,e4,e8];rfl
 have h4 : (bitV .and .i64 n[2]! 4 != 0) = true:=by rw [and4 hm,e4]
 have h8 : (bitV .and .i64 n[2]! 8 != 0) = true:=by rw [and8 hm,e8]
 have h16 : (bitV .and .i64 n[2]! 16 != 0) = false:=by rw [and16 hm,e16]
 have h3 : (bitV .and .i64 n[2]! 3 != 0) = false:=by rw [and3 hm,eL]
 have h3v:=and3v hm
 have hr : m.conf n[1]! n[2]! n[3]! n[4]! n[5]! n[6]! n[7]! n[8]! = (m,[]):=by
  unfold Mg.conf;rw [hp];simp only [getM he,confA,eB,eL,e16,confW,confH,e4,e8,if_true,if_false,Bool.false_eq_true,List.append_nil,List.nil_append,List.cons_append,List.length_cons,List.length_nil]
  exact Prod.ext (by show ({ m with cnt:=m.cnt + ((0 : Nat) : Int) } : Mg) = m;rw [show m.cnt + ((0 : Nat) : Int) = m.cnt from by omega]) rfl
 unfold confBig confW confH at eB
 rw [e4,e8] at eB
 simp only [Bool.or_true,Bool.or_false,Bool.true_or,Bool.false_or,Bool.true_and,if_true,if_false,Bool.false_eq_true,Bool.and_eq_true,decide_eq_true_eq,Bool.and_eq_false_iff,decide_eq_false_iff_not] at eB
 rw [hr]
 rw [xb hp he] at hlk
 refine CallT.intro zc Tryd.func90 rfl (by kernel_rfl) (Nat.le_of_ble_eq_true rfl) ?_;refine yu zc [] [_,_,_,_,_,_,_,_,_,_,_,_,_,_,_,_,_,_,_,_] rfl yj yj ?_;refine za rfl ?_;refine zr rfl rfl rfl rfl rfl y9 zu ?_;refine zm rfl rfl yn ?_;refine za rfl ?_;refine zr rfl rfl rfl rfl rfl y9 zu ?_;refine zm rfl rfl yn ?_;refine za rfl ?_;refine zr rfl rfl rfl rfl rfl y9 zu ?_;refine zm rfl rfl yn ?_;refine za rfl ?_;refine zr rfl rfl rfl rfl rfl y9 zu ?_;refine zm rfl rfl yn ?_;refine za rfl ?_;refine zr rfl rfl rfl rfl rfl y9 zu ?_;refine zm rfl rfl yn ?_;iterate 5 refine za rfl ?_
 iterate 2 refine zb ?_
 refine ze zc [] rfl ?_;iterate 6 refine za rfl ?_
 refine yy zc rfl rfl rfl hlk ?_;iterate 3 refine za rfl ?_
 refine yk rfl rfl ?_;refine zp rfl rfl rfl rfl rfl xf rfl ?_;refine za rfl ?_;refine zb ?_;refine z7 ([(0,.ptr 0 0),(9,.iptr (frC v) 0)]) (tnH m (mF m) (mW m) []) [1,4,5,6,7,8,10] rfl (by refine ⟨[some 0,some 1,some 2,some 3],rfl,yb,ya,?_,?_⟩ <;> (repeat' first | exact trivial | exact yc | exact yd | exact z9 rfl | refine zn ?_ ?_ | refine zk rfl ?_ ?_ | refine zj ?_ ?_ | refine ye rfl ?_ | fail) <;> first | exact yv | (first | exact yg (Cv.om rfl) (Cv.om rfl) (Cv.slc rfl (.inr rfl)) | exact yg (Cv.om rfl) (Cv.om rfl) (Cv.slc rfl (.inl rfl)) | exact CvL.pure (zg _ _) | exact Cv.ptr rfl | exact CvL.pure rfl | exact Cv.fptr ⟨rfl,(by simp)⟩ (CvL.pure rfl))) ?_
 refine zo ?_;refine ze zc [] rfl ?_;iterate 2 refine za rfl ?_
 refine zb ?_;refine yq rfl ?_;refine zt ?_;refine zo ?_;refine ze zc [] rfl ?_;iterate 3 refine za rfl ?_
 refine zb ?_;refine zi rfl (fun hc1=>?_) (fun hc1=>?_)
 ·(try simp only [zf] at hc1)
  refine yu zc [] [_,_,_,_,_,_] rfl yj yj ?_;iterate 6 refine za rfl ?_
  iterate 2 refine zb ?_
  refine zo ?_;refine ze zc [] rfl ?_;iterate 3 refine za rfl ?_
  refine zb ?_;refine zi rfl (fun hc2=>?_) (fun hc2=>?_)
  ·(try simp only [zf] at hc2)
   refine z4 zc [] rfl ?_;refine za rfl ?_;refine zr rfl rfl rfl rfl rfl y9 zu ?_;refine zm rfl rfl yn ?_;refine za rfl ?_;refine zb ?_;refine zo ?_;refine ze zc [] rfl ?_;iterate 3 refine za rfl ?_
   refine zb ?_;refine zi rfl (fun hc3=>?_) (fun hc3=>?_)
   ·(try simp only [zf] at hc3)
    refine z4 zc [] rfl ?_;refine za rfl ?_;refine zr rfl rfl rfl rfl rfl y9 zu ?_;refine zm rfl rfl yn ?_;refine za rfl ?_;refine zb ?_;refine ze zc [] rfl ?_;iterate 3 refine za rfl ?_
    refine' zx (d:=68) [_,_,_] rfl ?_ rfl ?_
    rotate_left
    ·refine zw rfl rfl (fun hb10_2=>?_) (fun hb10_2=>?_)
     ·have ghb10_2:=hb10_2
      try simp only [zf,Bool.not_true,Bool.not_false] at ghb10_2
      refine za rfl ?_;refine zd rfl rfl hb10_2 ?_;refine za rfl ?_;refine zh rfl (fun _=>rfl) ?_;exact zb ⟨rfl,rfl⟩
     ·refine zl rfl rfl hb10_2 ?_;exact zh rfl (fun h=>absurd (h.symm.trans hb10_2) (by decide)) (zb ⟨rfl,rfl⟩)
    refine za rfl ?_;refine' zx (d:=72) [_,_,_] rfl ?_ rfl ?_
    rotate_left
    ·refine zw rfl rfl (fun hb10_6=>?_) (fun hb10_6=>?_)
     ·have ghb10_6:=hb10_6
      try simp only [zf,Bool.not_true,Bool.not_false] at ghb10_6
      refine za rfl ?_;refine zd rfl rfl hb10_6 ?_;refine za rfl ?_;refine zh rfl (fun _=>rfl) ?_;exact zb ⟨rfl,rfl⟩
     ·refine zl rfl rfl hb10_6 ?_;exact zh rfl (fun h=>absurd (h.symm.trans hb10_6) (by decide)) (zb ⟨rfl,rfl⟩)
    refine za rfl ?_;refine' zx (d:=76) [_,_,_] rfl ?_ rfl ?_
    rotate_left
    ·refine zw rfl rfl (fun hb10_10=>?_) (fun hb10_10=>?_)
     ·have ghb10_10:=hb10_10
      try simp only [zf,Bool.not_true,Bool.not_false] at ghb10_10
      refine za rfl ?_;refine zd rfl rfl hb10_10 ?_;refine za rfl ?_;refine zh rfl (fun _=>rfl) ?_;exact zb ⟨rfl,rfl⟩
     ·refine zl rfl rfl hb10_10 ?_;exact zh rfl (fun h=>absurd (h.symm.trans hb10_10) (by decide)) (zb ⟨rfl,rfl⟩)
    refine zb ?_;refine zi rfl (fun hc4=>?_) (fun hc4=>?_)
    ·(try simp only [zf] at hc4);have e5 : n[Int.toNat 5]! = n[5]!:=rfl;have e6 : n[Int.toNat 6]! = n[6]!:=rfl;exfalso;omega
    ·(try simp only [zf] at hc4)
     refine zt ?_;refine zo ?_;refine ze zc [] rfl ?_;iterate 3 refine za rfl ?_
     refine zb ?_;refine zi rfl (fun hc5=>?_) (fun hc5=>?_)
     ·exact absurd (h3.symm.trans hc5) (by decide)
     ·(try simp only [zf] at hc5)
      refine zt ?_;refine ze zc [] rfl ?_;iterate 3 refine za rfl ?_
      refine zb ?_;refine zi rfl (fun hc6=>?_) (fun hc6=>?_)
      ·exact absurd (h16.symm.trans hc6) (by decide)
      ·(try simp only [zf] at hc6)
       refine zt ?_;exact ⟨trivial,_,rfl,rfl,rfl⟩
   ·exact absurd (h8.symm.trans hc3) (by decide)
  ·exact absurd (h4.symm.trans hc2) (by decide)
 ·exact absurd (h12.symm.trans hc1) (by decide)
theorem zej (m : Mg) (n : List Int) (top : Int) (ok : m.Ok top) (htop : top≤1000000) (hn : 9≤n.length) (i : Nat) (v : Fr) (he : m.F[i]? = some (n[1]!,v)) (hp : posK m.F n[1]! = some i) (hm : 0≤n[2]!∧n[2]!≤2147483647) (e4 : bit n[2]! 4 = true) (e8 : bit n[2]! 8 = true) (eL : (bit n[2]! 1 || bit n[2]! 2) = false) (e16 : bit n[2]! 16 = true) (eB : confBig v n[2]! n[5]! n[6]! = false) :
  CallT Tryd.prog 90 [.ptr 0 0,cIf n] (tnH m (mF m) (mW m) []) (fun t H'=>t = .tup []∧H' = ranH (m.conf n[1]! n[2]! n[3]! n[4]! n[5]! n[6]! n[7]! n[8]!).1 (m.conf n[1]! n[2]! n[3]! n[4]! n[5]! n[6]! n[7]! n[8]!).2 []):=by
 have hc:=ok.cnt
 have hpF:=piF m.F
 have hpW:=piW m.W
 have hlk:=lookF ok.fk n[1]! true
 have hmo:=he
 obtain ⟨R0,hR0⟩ : ∃ R,R = rq 5 [v.fr,16,0,0,0,0,0,n[8]!]:=⟨_,rfl⟩
 have h12 : (bitV .and .i64 n[2]! 12 != 0) = true:=by rw [and12 hm,e4,e8];rfl
 have h4 : (bitV .and .i64 n[2]! 4 != 0) = true:=by rw [and4 hm,e4]
 have h8 : (bitV .and .i64 n[2]! 8 != 0) = true:=by rw [and8 hm,e8]
 have h16 : (bitV .and .i64 n[2]! 16 != 0) = true:=by rw [and16 hm,e16]
 have h3 : (bitV .and .i64 n[2]! 3 != 0) = false:=by rw [and3 hm,eL]
 have h3v:=and3v hm
 have hr : m.conf n[1]! n[2]! n[3]! n[4]! n[5]! n[6]! n[7]! n[8]! = (m.up 1,[R0]):=by
  unfold Mg.conf;rw [hp];simp only [getM he,confA,eB,eL,e16,confW,confH,e4,e8,if_true,if_false,Bool.false_eq_true,List.append_nil,List.nil_append,List.cons_append,List.length_cons,List.length_nil,hR0]
  try rfl
 unfold confBig confW confH at eB
 rw [e4,e8] at eB
 simp only [Bool.or_true,Bool.or_false,Bool.true_or,Bool.false_or,Bool.true_and,if_true,if_false,Bool.false_eq_true,Bool.and_eq_true,decide_eq_true_eq,Bool.and_eq_false_iff,decide_eq_false_iff_not] at eB
 rw [hr]
 rw [xb hp he] at hlk
 have c0 : CallT Tryd.prog 125 [.ptr 0 0,I64 v.fr,I64 16,I64 0,I64 0,I64 0,I64 0,I64 n[8]!] (tnH m (mF m) (mW m) []) (fun t H'=>t = .tup []∧H' = tnH1 (m.up 1) (mF m) (mW m) [R0]):=by
  have:=yi m (mF m) (mW m) v.fr 16 0 0 0 0 n[8]! [] (by simp) (by skip;omega) hpF hpW
  rw [← hR0] at this
  exact this
 refine CallT.intro zc Tryd.func90 rfl (by kernel_rfl) (Nat.le_of_ble_eq_true rfl) ?_;refine yu zc [] [_,_,_,_,_,_,_,_,_,_,_,_,_,_,_,_,_,_,_,_] rfl yj yj ?_;refine za rfl ?_;refine zr rfl rfl rfl rfl rfl y9 zu ?_;refine zm rfl rfl yn ?_;refine za rfl ?_;refine zr rfl rfl rfl rfl rfl y9 zu ?_;refine zm rfl rfl yn ?_;refine za rfl ?_;refine zr rfl rfl rfl rfl rfl y9 zu ?_;refine zm rfl rfl yn ?_;refine za rfl ?_;refine zr rfl rfl rfl rfl rfl y9 zu ?_;refine zm rfl rfl yn ?_;refine za rfl ?_;refine zr rfl rfl rfl rfl rfl y9 zu ?_;refine zm rfl rfl yn ?_;iterate 5 refine za rfl ?_
 iterate 2 refine zb ?_
 refine ze zc [] rfl ?_;iterate 6 refine za rfl ?_
 refine yy zc rfl rfl rfl hlk ?_;iterate 3 refine za rfl ?_
 refine yk rfl rfl ?_;refine zp rfl rfl rfl rfl rfl xf rfl ?_;refine za rfl ?_;refine zb ?_;refine z7 ([(0,.ptr 0 0),(9,.iptr (frC v) 0)]) (tnH m (mF m) (mW m) []) [1,4,5,6,7,8,10] rfl (by refine ⟨[some 0,some 1,some 2,some 3],rfl,yb,ya,?_,?_⟩ <;> (repeat' first | exact trivial | exact yc | exact yd | exact z9 rfl | refine zn ?_ ?_ | refine zk rfl ?_ ?_ | refine zj ?_ ?_ | refine ye rfl ?_ | fail) <;> first | exact yv | (first | exact yg (Cv.om rfl) (Cv.om rfl) (Cv.slc rfl (.inr rfl)) | exact yg (Cv.om rfl) (Cv.om rfl) (Cv.slc rfl (.inl rfl)) | exact CvL.pure (zg _ _) | exact Cv.ptr rfl | exact CvL.pure rfl | exact Cv.fptr ⟨rfl,(by simp)⟩ (CvL.pure rfl))) ?_
 refine zo ?_;refine ze zc [] rfl ?_;iterate 2 refine za rfl ?_
 refine zb ?_;refine yq rfl ?_;refine zt ?_;refine zo ?_;refine ze zc [] rfl ?_;iterate 3 refine za rfl ?_
 refine zb ?_;refine zi rfl (fun hc1=>?_) (fun hc1=>?_)
 ·(try simp only [zf] at hc1)
  refine yu zc [] [_,_,_,_,_,_] rfl yj yj ?_;iterate 6 refine za rfl ?_
  iterate 2 refine zb ?_
  refine zo ?_;refine ze zc [] rfl ?_;iterate 3 refine za rfl ?_
  refine zb ?_;refine zi rfl (fun hc2=>?_) (fun hc2=>?_)
  ·(try simp only [zf] at hc2)
   refine z4 zc [] rfl ?_;refine za rfl ?_;refine zr rfl rfl rfl rfl rfl y9 zu ?_;refine zm rfl rfl yn ?_;refine za rfl ?_;refine zb ?_;refine zo ?_;refine ze zc [] rfl ?_;iterate 3 refine za rfl ?_
   refine zb ?_;refine zi rfl (fun hc3=>?_) (fun hc3=>?_)
   ·(try simp only [zf] at hc3)
    refine z4 zc [] rfl ?_;refine za rfl ?_;refine zr rfl rfl rfl rfl rfl y9 zu ?_;refine zm rfl rfl yn ?_;refine za rfl ?_;refine zb ?_;refine ze zc [] rfl ?_;iterate 3 refine za rfl ?_
    refine' zx (d:=68) [_,_,_] rfl ?_ rfl ?_
    rotate_left
    ·refine zw rfl rfl (fun hb10_2=>?_) (fun hb10_2=>?_)
     ·have ghb10_2:=hb10_2
      try simp only [zf,Bool.not_true,Bool.not_false] at ghb10_2
      refine za rfl ?_;refine zd rfl rfl hb10_2 ?_;refine za rfl ?_;refine zh rfl (fun _=>rfl) ?_;exact zb ⟨rfl,rfl⟩
     ·refine zl rfl rfl hb10_2 ?_;exact zh rfl (fun h=>absurd (h.symm.trans hb10_2) (by decide)) (zb ⟨rfl,rfl⟩)
    refine za rfl ?_;refine' zx (d:=72) [_,_,_] rfl ?_ rfl ?_
    rotate_left
    ·refine zw rfl rfl (fun hb10_6=>?_) (fun hb10_6=>?_)
     ·have ghb10_6:=hb10_6
      try simp only [zf,Bool.not_true,Bool.not_false] at ghb10_6
      refine za rfl ?_;refine zd rfl rfl hb10_6 ?_;refine za rfl ?_;refine zh rfl (fun _=>rfl) ?_;exact zb ⟨rfl,rfl⟩
     ·refine zl rfl rfl hb10_6 ?_;exact zh rfl (fun h=>absurd (h.symm.trans hb10_6) (by decide)) (zb ⟨rfl,rfl⟩)
    refine za rfl ?_;refine' zx (d:=76) [_,_,_] rfl ?_ rfl ?_
    rotate_left
    ·refine zw rfl rfl (fun hb10_10=>?_) (fun hb10_10=>?_)
     ·have ghb10_10:=hb10_10
      try simp only [zf,Bool.not_true,Bool.not_false] at ghb10_10
      refine za rfl ?_;refine zd rfl rfl hb10_10 ?_;refine za rfl ?_;refine zh rfl (fun _=>rfl) ?_;exact zb ⟨rfl,rfl⟩
     ·refine zl rfl rfl hb10_10 ?_;exact zh rfl (fun h=>absurd (h.symm.trans hb10_10) (by decide)) (zb ⟨rfl,rfl⟩)
    refine zb ?_;refine zi rfl (fun hc4=>?_) (fun hc4=>?_)
    ·(try simp only [zf] at hc4);have e5 : n[Int.toNat 5]! = n[5]!:=rfl;have e6 : n[Int.toNat 6]! = n[6]!:=rfl;exfalso;omega
    ·(try simp only [zf] at hc4)
     refine zt ?_;refine zo ?_;refine ze zc [] rfl ?_;iterate 3 refine za rfl ?_
     refine zb ?_;refine zi rfl (fun hc5=>?_) (fun hc5=>?_)
     ·exact absurd (h3.symm.trans hc5) (by decide)
     ·(try simp only [zf] at hc5)
      refine zt ?_;refine ze zc [] rfl ?_;iterate 3 refine za rfl ?_
      refine zb ?_;refine zi rfl (fun hc6=>?_) (fun hc6=>?_)
      ·(try simp only [zf] at hc6)
       refine z4 zc [] rfl ?_;iterate 4 refine za rfl ?_
       refine zq rfl rfl (CallT.frame (c0) [0,1,2,3] rfl z3 z3 ?_)
       rintro _ _ ⟨rfl,rfl⟩;refine frK zy zy ?_;refine zb ?_;exact ⟨trivial,_,rfl,rfl,rfl⟩
      ·exact absurd (h16.symm.trans hc6) (by decide)
   ·exact absurd (h8.symm.trans hc3) (by decide)
  ·exact absurd (h4.symm.trans hc2) (by decide)
 ·exact absurd (h12.symm.trans hc1) (by decide)
theorem zei (m : Mg) (n : List Int) (top : Int) (ok : m.Ok top) (htop : top≤1000000) (hn : 9≤n.length) (i : Nat) (v : Fr) (he : m.F[i]? = some (n[1]!,v)) (hp : posK m.F n[1]! = some i) (hm : 0≤n[2]!∧n[2]!≤2147483647) (e4 : bit n[2]! 4 = true) (e8 : bit n[2]! 8 = true) (eL : (bit n[2]! 1 || bit n[2]! 2) = true) (e16 : bit n[2]! 16 = false) (eB : confBig v n[2]! n[5]! n[6]! = false) :
  CallT Tryd.prog 90 [.ptr 0 0,cIf n] (tnH m (mF m) (mW m) []) (fun t H'=>t = .tup []∧H' = ranH (m.conf n[1]! n[2]! n[3]! n[4]! n[5]! n[6]! n[7]! n[8]!).1 (m.conf n[1]! n[2]! n[3]! n[4]! n[5]! n[6]! n[7]! n[8]!).2 []):=by
 have hc:=ok.cnt
 have hpF:=piF m.F
 have hpW:=piW m.W
 have hlk:=lookF ok.fk n[1]! true
 have hmo:=he
 obtain ⟨R0,hR0⟩ : ∃ R,R = rq 5 [v.fr,n[2]! % 4,n[3]!,n[4]!,0,0,0,0]:=⟨_,rfl⟩
 have h12 : (bitV .and .i64 n[2]! 12 != 0) = true:=by rw [and12 hm,e4,e8];rfl
 have h4 : (bitV .and .i64 n[2]! 4 != 0) = true:=by rw [and4 hm,e4]
 have h8 : (bitV .and .i64 n[2]! 8 != 0) = true:=by rw [and8 hm,e8]
 have h16 : (bitV .and .i64 n[2]! 16 != 0) = false:=by rw [and16 hm,e16]
 have h3 : (bitV .and .i64 n[2]! 3 != 0) = true:=by rw [and3 hm,eL]
 have h3v:=and3v hm
 have hr : m.conf n[1]! n[2]! n[3]! n[4]! n[5]! n[6]! n[7]! n[8]! = (m.up 1,[R0]):=by
  unfold Mg.conf;rw [hp];simp only [getM he,confA,eB,eL,e16,confW,confH,e4,e8,if_true,if_false,Bool.false_eq_true,List.append_nil,List.nil_append,List.cons_append,List.length_cons,List.length_nil,hR0]
  try rfl
 unfold confBig confW confH at eB
 rw [e4,e8] at eB
 simp only [Bool.or_true,Bool.or_false,Bool.true_or,Bool.false_or,Bool.true_and,if_true,if_false,Bool.false_eq_true,Bool.and_eq_true,decide_eq_true_eq,Bool.and_eq_false_iff,decide_eq_false_iff_not] at eB
 rw [hr]
 rw [xb hp he] at hlk
 have c0 : CallT Tryd.prog 125 [.ptr 0 0,I64 v.fr,I64 (n[2]! % 4),I64 n[3]!,I64 n[4]!,I64 0,I64 0,I64 0] (tnH m (mF m) (mW m) []) (fun t H'=>t = .tup []∧H' = tnH1 (m.up 1) (mF m) (mW m) [R0]):=by
  have:=yi m (mF m) (mW m) v.fr (n[2]! % 4) n[3]! n[4]! 0 0 0 [] (by simp) (by skip;omega) hpF hpW
  rw [← hR0] at this
  exact this
 refine CallT.intro zc Tryd.func90 rfl (by kernel_rfl) (Nat.le_of_ble_eq_true rfl) ?_;refine yu zc [] [_,_,_,_,_,_,_,_,_,_,_,_,_,_,_,_,_,_,_,_] rfl yj yj ?_;refine za rfl ?_;refine zr rfl rfl rfl rfl rfl y9 zu ?_;refine zm rfl rfl yn ?_;refine za rfl ?_;refine zr rfl rfl rfl rfl rfl y9 zu ?_;refine zm rfl rfl yn ?_;refine za rfl ?_;refine zr rfl rfl rfl rfl rfl y9 zu ?_;refine zm rfl rfl yn ?_;refine za rfl ?_;refine zr rfl rfl rfl rfl rfl y9 zu ?_;refine zm rfl rfl yn ?_;refine za rfl ?_;refine zr rfl rfl rfl rfl rfl y9 zu ?_;refine zm rfl rfl yn ?_;iterate 5 refine za rfl ?_
 iterate 2 refine zb ?_
 refine ze zc [] rfl ?_;iterate 6 refine za rfl ?_
 refine yy zc rfl rfl rfl hlk ?_;iterate 3 refine za rfl ?_
 refine yk rfl rfl ?_;refine zp rfl rfl rfl rfl rfl xf rfl ?_;refine za rfl ?_;refine zb ?_;refine z7 ([(0,.ptr 0 0),(9,.iptr (frC v) 0)]) (tnH m (mF m) (mW m) []) [1,4,5,6,7,8,10] rfl (by refine ⟨[some 0,some 1,some 2,some 3],rfl,yb,ya,?_,?_⟩ <;> (repeat' first | exact trivial | exact yc | exact yd | exact z9 rfl | refine zn ?_ ?_ | refine zk rfl ?_ ?_ | refine zj ?_ ?_ | refine ye rfl ?_ | fail) <;> first | exact yv | (first | exact yg (Cv.om rfl) (Cv.om rfl) (Cv.slc rfl (.inr rfl)) | exact yg (Cv.om rfl) (Cv.om rfl) (Cv.slc rfl (.inl rfl)) | exact CvL.pure (zg _ _) | exact Cv.ptr rfl | exact CvL.pure rfl | exact Cv.fptr ⟨rfl,(by simp)⟩ (CvL.pure rfl))) ?_
 refine zo ?_;refine ze zc [] rfl ?_;iterate 2 refine za rfl ?_
 refine zb ?_;refine yq rfl ?_;refine zt ?_;refine zo ?_;refine ze zc [] rfl ?_;iterate 3 refine za rfl ?_
 refine zb ?_;refine zi rfl (fun hc1=>?_) (fun hc1=>?_)
 ·(try simp only [zf] at hc1)
  refine yu zc [] [_,_,_,_,_,_] rfl yj yj ?_;iterate 6 refine za rfl ?_
  iterate 2 refine zb ?_
  refine zo ?_;refine ze zc [] rfl ?_;iterate 3 refine za rfl ?_
  refine zb ?_;refine zi rfl (fun hc2=>?_) (fun hc2=>?_)
  ·(try simp only [zf] at hc2)
   refine z4 zc [] rfl ?_;refine za rfl ?_;refine zr rfl rfl rfl rfl rfl y9 zu ?_;refine zm rfl rfl yn ?_;refine za rfl ?_;refine zb ?_;refine zo ?_;refine ze zc [] rfl ?_;iterate 3 refine za rfl ?_
   refine zb ?_;refine zi rfl (fun hc3=>?_) (fun hc3=>?_)
   ·(try simp only [zf] at hc3)
    refine z4 zc [] rfl ?_;refine za rfl ?_;refine zr rfl rfl rfl rfl rfl y9 zu ?_;refine zm rfl rfl yn ?_;refine za rfl ?_;refine zb ?_;refine ze zc [] rfl ?_;iterate 3 refine za rfl ?_
    refine' zx (d:=68) [_,_,_] rfl ?_ rfl ?_
    rotate_left
    ·refine zw rfl rfl (fun hb10_2=>?_) (fun hb10_2=>?_)
     ·have ghb10_2:=hb10_2
      try simp only [zf,Bool.not_true,Bool.not_false] at ghb10_2
      refine za rfl ?_;refine zd rfl rfl hb10_2 ?_;refine za rfl ?_;refine zh rfl (fun _=>rfl) ?_;exact zb ⟨rfl,rfl⟩
     ·refine zl rfl rfl hb10_2 ?_;exact zh rfl (fun h=>absurd (h.symm.trans hb10_2) (by decide)) (zb ⟨rfl,rfl⟩)
    refine za rfl ?_;refine' zx (d:=72) [_,_,_] rfl ?_ rfl ?_
    rotate_left
    ·refine zw rfl rfl (fun hb10_6=>?_) (fun hb10_6=>?_)
     ·have ghb10_6:=hb10_6
      try simp only [zf,Bool.not_true,Bool.not_false] at ghb10_6
      refine za rfl ?_;refine zd rfl rfl hb10_6 ?_;refine za rfl ?_;refine zh rfl (fun _=>rfl) ?_;exact zb ⟨rfl,rfl⟩
     ·refine zl rfl rfl hb10_6 ?_;exact zh rfl (fun h=>absurd (h.symm.trans hb10_6) (by decide)) (zb ⟨rfl,rfl⟩)
    refine za rfl ?_;refine' zx (d:=76) [_,_,_] rfl ?_ rfl ?_
    rotate_left
    ·refine zw rfl rfl (fun hb10_10=>?_) (fun hb10_10=>?_)
     ·have ghb10_10:=hb10_10
      try simp only [zf,Bool.not_true,Bool.not_false] at ghb10_10
      refine za rfl ?_;refine zd rfl rfl hb10_10 ?_;refine za rfl ?_;refine zh rfl (fun _=>rfl) ?_;exact zb ⟨rfl,rfl⟩
     ·refine zl rfl rfl hb10_10 ?_;exact zh rfl (fun h=>absurd (h.symm.trans hb10_10) (by decide)) (zb ⟨rfl,rfl⟩)
    refine zb ?_;refine zi rfl (fun hc4=>?_) (fun hc4=>?_)
    ·(try simp only [zf] at hc4);have e5 : n[Int.toNat 5]! = n[5]!:=rfl;have e6 : n[Int.toNat 6]! = n[6]!:=rfl;exfalso;omega
    ·(try simp only [zf] at hc4)
     refine zt ?_;refine zo ?_;refine ze zc [] rfl ?_;iterate 3 refine za rfl ?_
     refine zb ?_;refine zi rfl (fun hc5=>?_) (fun hc5=>?_)
     ·(try simp only [zf] at hc5)
      refine z4 zc [] rfl ?_;iterate 4 refine za rfl ?_
      refine za (t:=I64 (n[2]! % 4)) (by show some (T.v (.int .i64 (bitV .and .i64 n[2]! 3)),(none : Option (Nat × List T))) = _;rw [h3v]) ?_;iterate 2 refine za rfl ?_
      refine zq rfl rfl (CallT.frame (c0) [0,1,2,3] rfl z3 z3 ?_)
      rintro _ _ ⟨rfl,rfl⟩;refine frK zy zy ?_;refine zb ?_;refine ze zc [] rfl ?_;iterate 3 refine za rfl ?_
      refine zb ?_;refine zi rfl (fun hc6=>?_) (fun hc6=>?_)
      ·exact absurd (h16.symm.trans hc6) (by decide)
      ·(try simp only [zf] at hc6)
       refine zt ?_;exact ⟨trivial,_,rfl,rfl,rfl⟩
     ·exact absurd (h3.symm.trans hc5) (by decide)
   ·exact absurd (h8.symm.trans hc3) (by decide)
  ·exact absurd (h4.symm.trans hc2) (by decide)
 ·exact absurd (h12.symm.trans hc1) (by decide)
theorem zeh (m : Mg) (n : List Int) (top : Int) (ok : m.Ok top) (htop : top≤1000000) (hn : 9≤n.length) (i : Nat) (v : Fr) (he : m.F[i]? = some (n[1]!,v)) (hp : posK m.F n[1]! = some i) (hm : 0≤n[2]!∧n[2]!≤2147483647) (e4 : bit n[2]! 4 = true) (e8 : bit n[2]! 8 = true) (eL : (bit n[2]! 1 || bit n[2]! 2) = true) (e16 : bit n[2]! 16 = true) (eB : confBig v n[2]! n[5]! n[6]! = false) :
  CallT Tryd.prog 90 [.ptr 0 0,cIf n] (tnH m (mF m) (mW m) []) (fun t H'=>t = .tup []∧H' = ranH (m.conf n[1]! n[2]! n[3]! n[4]! n[5]! n[6]! n[7]! n[8]!).1 (m.conf n[1]! n[2]! n[3]! n[4]! n[5]! n[6]! n[7]! n[8]!).2 []):=by
 have hc:=ok.cnt
 have hpF:=piF m.F
 have hpW:=piW m.W
 have hlk:=lookF ok.fk n[1]! true
 have hmo:=he
 obtain ⟨R0,hR0⟩ : ∃ R,R = rq 5 [v.fr,n[2]! % 4,n[3]!,n[4]!,0,0,0,0]:=⟨_,rfl⟩
 obtain ⟨R1,hR1⟩ : ∃ R,R = rq 5 [v.fr,16,0,0,0,0,0,n[8]!]:=⟨_,rfl⟩
 have h12 : (bitV .and .i64 n[2]! 12 != 0) = true:=by rw [and12 hm,e4,e8];rfl
 have h4 : (bitV .and .i64 n[2]! 4 != 0) = true:=by rw [and4 hm,e4]
 have h8 : (bitV .and .i64 n[2]! 8 != 0) = true:=by rw [and8 hm,e8]
 have h16 : (bitV .and .i64 n[2]! 16 != 0) = true:=by rw [and16 hm,e16]
 have h3 : (bitV .and .i64 n[2]! 3 != 0) = true:=by rw [and3 hm,eL]
 have h3v:=and3v hm
 have hr : m.conf n[1]! n[2]! n[3]! n[4]! n[5]! n[6]! n[7]! n[8]! = (m.up 2,[R0,R1]):=by
  unfold Mg.conf;rw [hp];simp only [getM he,confA,eB,eL,e16,confW,confH,e4,e8,if_true,if_false,Bool.false_eq_true,List.append_nil,List.nil_append,List.cons_append,List.length_cons,List.length_nil,hR0,hR1]
  try rfl
 unfold confBig confW confH at eB
 rw [e4,e8] at eB
 simp only [Bool.or_true,Bool.or_false,Bool.true_or,Bool.false_or,Bool.true_and,if_true,if_false,Bool.false_eq_true,Bool.and_eq_true,decide_eq_true_eq,Bool.and_eq_false_iff,decide_eq_false_iff_not] at eB
 rw [hr]
 rw [xb hp he] at hlk
 have c0 : CallT Tryd.prog 125 [.ptr 0 0,I64 v.fr,I64 (n[2]! % 4),I64 n[3]!,I64 n[4]!,I64 0,I64 0,I64 0] (tnH m (mF m) (mW m) []) (fun t H'=>t = .tup []∧H' = tnH1 (m.up 1) (mF m) (mW m) [R0]):=by
  have:=yi m (mF m) (mW m) v.fr (n[2]! % 4) n[3]! n[4]! 0 0 0 [] (by simp) (by skip;omega) hpF hpW
  rw [← hR0] at this
  exact this
 have c1 : CallT Tryd.prog 125 [.ptr 0 0,I64 v.fr,I64 16,I64 0,I64 0,I64 0,I64 0,I64 n[8]!] (tnH (m.up 1) (mF m) (mW m) [R0]) (fun t H'=>t = .tup []∧H' = tnH1 (m.up 2) (mF m) (mW m) [R0,R1]):=by
  have:=yi (m.up 1) (mF m) (mW m) v.fr 16 0 0 0 0 n[8]! [R0] (by simp) (by show 0≤m.cnt + 1∧m.cnt + 1≤2000000;omega) hpF hpW
  rw [← hR1,we m 1 1 2 (by decide)] at this
  exact this
 refine CallT.intro zc Tryd.func90 rfl (by kernel_rfl) (Nat.le_of_ble_eq_true rfl) ?_;refine yu zc [] [_,_,_,_,_,_,_,_,_,_,_,_,_,_,_,_,_,_,_,_] rfl yj yj ?_;refine za rfl ?_;refine zr rfl rfl rfl rfl rfl y9 zu ?_;refine zm rfl rfl yn ?_;refine za rfl ?_;refine zr rfl rfl rfl rfl rfl y9 zu ?_;refine zm rfl rfl yn ?_;refine za rfl ?_;refine zr rfl rfl rfl rfl rfl y9 zu ?_;refine zm rfl rfl yn ?_;refine za rfl ?_;refine zr rfl rfl rfl rfl rfl y9 zu ?_;refine zm rfl rfl yn ?_;refine za rfl ?_;refine zr rfl rfl rfl rfl rfl y9 zu ?_;refine zm rfl rfl yn ?_;iterate 5 refine za rfl ?_
 iterate 2 refine zb ?_
 refine ze zc [] rfl ?_;iterate 6 refine za rfl ?_
 refine yy zc rfl rfl rfl hlk ?_;iterate 3 refine za rfl ?_
 refine yk rfl rfl ?_;refine zp rfl rfl rfl rfl rfl xf rfl ?_;refine za rfl ?_;refine zb ?_;refine z7 ([(0,.ptr 0 0),(9,.iptr (frC v) 0)]) (tnH m (mF m) (mW m) []) [1,4,5,6,7,8,10] rfl (by refine ⟨[some 0,some 1,some 2,some 3],rfl,yb,ya,?_,?_⟩ <;> (repeat' first | exact trivial | exact yc | exact yd | exact z9 rfl | refine zn ?_ ?_ | refine zk rfl ?_ ?_ | refine zj ?_ ?_ | refine ye rfl ?_ | fail) <;> first | exact yv | (first | exact yg (Cv.om rfl) (Cv.om rfl) (Cv.slc rfl (.inr rfl)) | exact yg (Cv.om rfl) (Cv.om rfl) (Cv.slc rfl (.inl rfl)) | exact CvL.pure (zg _ _) | exact Cv.ptr rfl | exact CvL.pure rfl | exact Cv.fptr ⟨rfl,(by simp)⟩ (CvL.pure rfl))) ?_
 refine zo ?_;refine ze zc [] rfl ?_;iterate 2 refine za rfl ?_
 refine zb ?_;refine yq rfl ?_;refine zt ?_;refine zo ?_;refine ze zc [] rfl ?_;iterate 3 refine za rfl ?_
 refine zb ?_;refine zi rfl (fun hc1=>?_) (fun hc1=>?_)
 ·(try simp only [zf] at hc1)
  refine yu zc [] [_,_,_,_,_,_] rfl yj yj ?_;iterate 6 refine za rfl ?_
  iterate 2 refine zb ?_
  refine zo ?_;refine ze zc [] rfl ?_;iterate 3 refine za rfl ?_
  refine zb ?_;refine zi rfl (fun hc2=>?_) (fun hc2=>?_)
  ·(try simp only [zf] at hc2)
   refine z4 zc [] rfl ?_;refine za rfl ?_;refine zr rfl rfl rfl rfl rfl y9 zu ?_;refine zm rfl rfl yn ?_;refine za rfl ?_;refine zb ?_;refine zo ?_;refine ze zc [] rfl ?_;iterate 3 refine za rfl ?_
   refine zb ?_;refine zi rfl (fun hc3=>?_) (fun hc3=>?_)
   ·(try simp only [zf] at hc3)
    refine z4 zc [] rfl ?_;refine za rfl ?_;refine zr rfl rfl rfl rfl rfl y9 zu ?_;refine zm rfl rfl yn ?_;refine za rfl ?_;refine zb ?_;refine ze zc [] rfl ?_;iterate 3 refine za rfl ?_
    refine' zx (d:=68) [_,_,_] rfl ?_ rfl ?_
    rotate_left
    ·refine zw rfl rfl (fun hb10_2=>?_) (fun hb10_2=>?_)
     ·have ghb10_2:=hb10_2
      try simp only [zf,Bool.not_true,Bool.not_false] at ghb10_2
      refine za rfl ?_;refine zd rfl rfl hb10_2 ?_;refine za rfl ?_;refine zh rfl (fun _=>rfl) ?_;exact zb ⟨rfl,rfl⟩
     ·refine zl rfl rfl hb10_2 ?_;exact zh rfl (fun h=>absurd (h.symm.trans hb10_2) (by decide)) (zb ⟨rfl,rfl⟩)
    refine za rfl ?_;refine' zx (d:=72) [_,_,_] rfl ?_ rfl ?_
    rotate_left
    ·refine zw rfl rfl (fun hb10_6=>?_) (fun hb10_6=>?_)
     ·have ghb10_6:=hb10_6
      try simp only [zf,Bool.not_true,Bool.not_false] at ghb10_6
      refine za rfl ?_;refine zd rfl rfl hb10_6 ?_;refine za rfl ?_;refine zh rfl (fun _=>rfl) ?_;exact zb ⟨rfl,rfl⟩
     ·refine zl rfl rfl hb10_6 ?_;exact zh rfl (fun h=>absurd (h.symm.trans hb10_6) (by decide)) (zb ⟨rfl,rfl⟩)
    refine za rfl ?_;refine' zx (d:=76) [_,_,_] rfl ?_ rfl ?_
    rotate_left
    ·refine zw rfl rfl (fun hb10_10=>?_) (fun hb10_10=>?_)
     ·have ghb10_10:=hb10_10
      try simp only [zf,Bool.not_true,Bool.not_false] at ghb10_10
      refine za rfl ?_;refine zd rfl rfl hb10_10 ?_;refine za rfl ?_;refine zh rfl (fun _=>rfl) ?_;exact zb ⟨rfl,rfl⟩
     ·refine zl rfl rfl hb10_10 ?_;exact zh rfl (fun h=>absurd (h.symm.trans hb10_10) (by decide)) (zb ⟨rfl,rfl⟩)
    refine zb ?_;refine zi rfl (fun hc4=>?_) (fun hc4=>?_)
    ·(try simp only [zf] at hc4);have e5 : n[Int.toNat 5]! = n[5]!:=rfl;have e6 : n[Int.toNat 6]! = n[6]!:=rfl;exfalso;omega
    ·(try simp only [zf] at hc4)
     refine zt ?_;refine zo ?_;refine ze zc [] rfl ?_;iterate 3 refine za rfl ?_
     refine zb ?_;refine zi rfl (fun hc5=>?_) (fun hc5=>?_)
     ·(try simp only [zf] at hc5)
      refine z4 zc [] rfl ?_;iterate 4 refine za rfl ?_
      refine za (t:=I64 (n[2]! % 4)) (by show some (T.v (.int .i64 (bitV .and .i64 n[2]! 3)),(none : Option (Nat × List T))) = _;rw [h3v]) ?_;iterate 2 refine za rfl ?_
      refine zq rfl rfl (CallT.frame (c0) [0,1,2,3] rfl z3 z3 ?_)
      rintro _ _ ⟨rfl,rfl⟩;refine frK zy zy ?_;refine zb ?_;refine ze zc [] rfl ?_;iterate 3 refine za rfl ?_
      refine zb ?_;refine zi rfl (fun hc6=>?_) (fun hc6=>?_)
      ·(try simp only [zf] at hc6)
       refine z4 zc [] rfl ?_;iterate 4 refine za rfl ?_
       refine zq rfl rfl (CallT.frame (c1) [0,1,2,4] rfl z3 z3 ?_)
       rintro _ _ ⟨rfl,rfl⟩;refine frK zy zy ?_;refine zb ?_;exact ⟨trivial,_,rfl,rfl,rfl⟩
      ·exact absurd (h16.symm.trans hc6) (by decide)
     ·exact absurd (h3.symm.trans hc5) (by decide)
   ·exact absurd (h8.symm.trans hc3) (by decide)
  ·exact absurd (h4.symm.trans hc2) (by decide)
 ·exact absurd (h12.symm.trans hc1) (by decide)
theorem zeg (m : Mg) (n : List Int) (top : Int) (ok : m.Ok top) (htop : top≤1000000) (hn : 9≤n.length) (i : Nat) (v : Fr) (he : m.F[i]? = some (n[1]!,v)) (hp : posK m.F n[1]! = some i) (hm : 0≤n[2]!∧n[2]!≤2147483647) (e4 : bit n[2]! 4 = true) (e8 : bit n[2]! 8 = true) (eL : (bit n[2]! 1 || bit n[2]! 2) = false) (e16 : bit n[2]! 16 = false) (eB : confBig v n[2]! n[5]! n[6]! = true) :
  CallT Tryd.prog 90 [.ptr 0 0,cIf n] (tnH m (mF m) (mW m) []) (fun t H'=>t = .tup []∧H' = ranH (m.conf n[1]! n[2]! n[3]! n[4]! n[5]! n[6]! n[7]! n[8]!).1 (m.conf n[1]! n[2]! n[3]! n[4]! n[5]! n[6]! n[7]! n[8]!).2 []):=by
 have hc:=ok.cnt
 have hpF:=piF m.F
 have hpW:=piW m.W
 have hlk:=lookF ok.fk n[1]! true
 have hmo:=he
 obtain ⟨R0,hR0⟩ : ∃ R,R = rq 5 [n[1]!,12,0,0,n[5]!,n[6]!,0,0]:=⟨_,rfl⟩
 obtain ⟨R1,hR1⟩ : ∃ R,R = rq 5 [v.fr,12,0,0,n[5]! + 2,n[6]! + 10,0,0]:=⟨_,rfl⟩
 have h12 : (bitV .and .i64 n[2]! 12 != 0) = true:=by rw [and12 hm,e4,e8];rfl
 have h4 : (bitV .and .i64 n[2]! 4 != 0) = true:=by rw [and4 hm,e4]
 have h8 : (bitV .and .i64 n[2]! 8 != 0) = true:=by rw [and8 hm,e8]
 have h16 : (bitV .and .i64 n[2]! 16 != 0) = false:=by rw [and16 hm,e16]
 have h3 : (bitV .and .i64 n[2]! 3 != 0) = false:=by rw [and3 hm,eL]
 have h3v:=and3v hm
 have hr : m.conf n[1]! n[2]! n[3]! n[4]! n[5]! n[6]! n[7]! n[8]! = ({ m.up 2 with F:=m.F.set i (n[1]!,⟨v.fr,n[5]!,n[6]!,v.title⟩) },[R0,R1]):=by
  unfold Mg.conf;rw [hp];simp only [getM he,confA,eB,eL,e16,confW,confH,e4,e8,if_true,if_false,Bool.false_eq_true,List.append_nil,List.nil_append,List.cons_append,List.length_cons,List.length_nil,hR0,hR1]
  try rfl
 unfold confBig confW confH at eB
 rw [e4,e8] at eB
 simp only [Bool.or_true,Bool.or_false,Bool.true_or,Bool.false_or,Bool.true_and,if_true,if_false,Bool.false_eq_true,Bool.and_eq_true,decide_eq_true_eq,Bool.and_eq_false_iff,decide_eq_false_iff_not] at eB
 rw [hr]
 rw [xb hp he] at hlk
 have c0 : CallT Tryd.prog 125 [.ptr 0 0,I64 n[1]!,I64 12,I64 0,I64 0,I64 n[5]!,I64 n[6]!,I64 0] (tnH m (mF m) (mW m) []) (fun t H'=>t = .tup []∧H' = tnH1 (m.up 1) (mF m) (mW m) [R0]):=by
  have:=yi m (mF m) (mW m) n[1]! 12 0 0 n[5]! n[6]! 0 [] (by simp) (by skip;omega) hpF hpW
  rw [← hR0] at this
  exact this
 have c1 : CallT Tryd.prog 125 [.ptr 0 0,I64 v.fr,I64 12,I64 0,I64 0,I64 (n[5]! + 2),I64 (n[6]! + 10),I64 0] (tnH (m.up 1) (mF m) (mW m) [R0]) (fun t H'=>t = .tup []∧H' = tnH1 (m.up 2) (mF m) (mW m) [R0,R1]):=by
  have:=yi (m.up 1) (mF m) (mW m) v.fr 12 0 0 (n[5]! + 2) (n[6]! + 10) 0 [R0] (by simp) (by show 0≤m.cnt + 1∧m.cnt + 1≤2000000;omega) hpF hpW
  rw [← hR1,we m 1 1 2 (by decide)] at this
  exact this
 obtain ⟨MM,hMM⟩ : ∃ MM : Int→Mg,MM = fun j=>{ m.up j with F:=m.F.set i (n[1]!,⟨v.fr,n[5]!,n[6]!,v.title⟩) }:=⟨_,rfl⟩
 have hMF : ∀ j,(MM j).F = m.F.set i (n[1]!,⟨v.fr,n[5]!,n[6]!,v.title⟩):=fun j=>by rw [hMM]
 have hMt : ∀ j a,tnC (MM j) a = tnC (m.up j) a:=fun j a=>by rw [hMM]
 have hMc : ∀ j,(MM j).cnt = m.cnt + j:=fun j=>by rw [hMM]
 have hup : ∀ a b c : Int,a + b = c→(MM a).up b = MM c:=fun a b c h=>by rw [hMM];exact vz m _ a b c h
 obtain ⟨p,hpe⟩ : ∃ p : OP,p = mapP (kF (m.F.set i (n[1]!,⟨v.fr,n[5]!,n[6]!,v.title⟩))) (tF (m.F.set i (n[1]!,⟨v.fr,n[5]!,n[6]!,v.title⟩))):=⟨_,rfl⟩
 have hpp : p.pi = true:=by rw [hpe];exact piF _
 refine CallT.intro zc Tryd.func90 rfl (by kernel_rfl) (Nat.le_of_ble_eq_true rfl) ?_;refine yu zc [] [_,_,_,_,_,_,_,_,_,_,_,_,_,_,_,_,_,_,_,_] rfl yj yj ?_;refine za rfl ?_;refine zr rfl rfl rfl rfl rfl y9 zu ?_;refine zm rfl rfl yn ?_;refine za rfl ?_;refine zr rfl rfl rfl rfl rfl y9 zu ?_;refine zm rfl rfl yn ?_;refine za rfl ?_;refine zr rfl rfl rfl rfl rfl y9 zu ?_;refine zm rfl rfl yn ?_;refine za rfl ?_;refine zr rfl rfl rfl rfl rfl y9 zu ?_;refine zm rfl rfl yn ?_;refine za rfl ?_;refine zr rfl rfl rfl rfl rfl y9 zu ?_;refine zm rfl rfl yn ?_;iterate 5 refine za rfl ?_
 iterate 2 refine zb ?_
 refine ze zc [] rfl ?_;iterate 6 refine za rfl ?_
 refine yy zc rfl rfl rfl hlk ?_;iterate 3 refine za rfl ?_
 refine yk rfl rfl ?_;refine zp rfl rfl rfl rfl rfl xf rfl ?_;refine za rfl ?_;refine zb ?_;refine z7 ([(0,.ptr 0 0),(9,.ptr 4 0)]) (tnHf m (mF m) (mW m) [] v) [1,4,5,6,7,8,10] rfl (by refine ⟨[some 0,some 1,some 2,some 3,some 4],rfl,yb,ya,?_,?_⟩ <;> (repeat' first | exact trivial | exact yc | exact yd | exact z9 rfl | refine zn ?_ ?_ | refine zk rfl ?_ ?_ | refine zj ?_ ?_ | refine ye rfl ?_ | fail) <;> first | exact yv | (first | exact yg (Cv.om rfl) (Cv.om rfl) (Cv.slc rfl (.inr rfl)) | exact yg (Cv.om rfl) (Cv.om rfl) (Cv.slc rfl (.inl rfl)) | exact CvL.pure (zg _ _) | exact Cv.ptr rfl | exact CvL.pure rfl | exact Cv.fptr ⟨rfl,(by simp)⟩ (CvL.pure rfl))) ?_
 refine zo ?_;refine ze zc [] rfl ?_;iterate 2 refine za rfl ?_
 refine zb ?_;refine yq rfl ?_;refine zt ?_;refine zo ?_;refine ze zc [] rfl ?_;iterate 3 refine za rfl ?_
 refine zb ?_;refine zi rfl (fun hc1=>?_) (fun hc1=>?_)
 ·(try simp only [zf] at hc1)
  refine yu zc [] [_,_,_,_,_,_] rfl yj yj ?_;iterate 6 refine za rfl ?_
  iterate 2 refine zb ?_
  refine zo ?_;refine ze zc [] rfl ?_;iterate 3 refine za rfl ?_
  refine zb ?_;refine zi rfl (fun hc2=>?_) (fun hc2=>?_)
  ·(try simp only [zf] at hc2)
   refine z4 zc [] rfl ?_;refine za rfl ?_;refine zr rfl rfl rfl rfl rfl y9 zu ?_;refine zm rfl rfl yn ?_;refine za rfl ?_;refine zb ?_;refine zo ?_;refine ze zc [] rfl ?_;iterate 3 refine za rfl ?_
   refine zb ?_;refine zi rfl (fun hc3=>?_) (fun hc3=>?_)
   ·(try simp only [zf] at hc3)
    refine z4 zc [] rfl ?_;refine za rfl ?_;refine zr rfl rfl rfl rfl rfl y9 zu ?_;refine zm rfl rfl yn ?_;refine za rfl ?_;refine zb ?_;refine ze zc [] rfl ?_;iterate 3 refine za rfl ?_
    refine' zx (d:=68) [_,_,_] rfl ?_ rfl ?_
    rotate_left
    ·refine zw rfl rfl (fun hb10_2=>?_) (fun hb10_2=>?_)
     ·have ghb10_2:=hb10_2
      try simp only [zf,Bool.not_true,Bool.not_false] at ghb10_2
      refine za rfl ?_;refine zd rfl rfl hb10_2 ?_;refine za rfl ?_;refine zh rfl (fun _=>rfl) ?_;exact zb ⟨rfl,rfl⟩
     ·refine zl rfl rfl hb10_2 ?_;exact zh rfl (fun h=>absurd (h.symm.trans hb10_2) (by decide)) (zb ⟨rfl,rfl⟩)
    refine za rfl ?_;refine' zx (d:=72) [_,_,_] rfl ?_ rfl ?_
    rotate_left
    ·refine zw rfl rfl (fun hb10_6=>?_) (fun hb10_6=>?_)
     ·have ghb10_6:=hb10_6
      try simp only [zf,Bool.not_true,Bool.not_false] at ghb10_6
      refine za rfl ?_;refine zd rfl rfl hb10_6 ?_;refine za rfl ?_;refine zh rfl (fun _=>rfl) ?_;exact zb ⟨rfl,rfl⟩
     ·refine zl rfl rfl hb10_6 ?_;exact zh rfl (fun h=>absurd (h.symm.trans hb10_6) (by decide)) (zb ⟨rfl,rfl⟩)
    refine za rfl ?_;refine' zx (d:=76) [_,_,_] rfl ?_ rfl ?_
    rotate_left
    ·refine zw rfl rfl (fun hb10_10=>?_) (fun hb10_10=>?_)
     ·have ghb10_10:=hb10_10
      try simp only [zf,Bool.not_true,Bool.not_false] at ghb10_10
      refine za rfl ?_;refine zd rfl rfl hb10_10 ?_;refine za rfl ?_;refine zh rfl (fun _=>rfl) ?_;exact zb ⟨rfl,rfl⟩
     ·refine zl rfl rfl hb10_10 ?_;exact zh rfl (fun h=>absurd (h.symm.trans hb10_10) (by decide)) (zb ⟨rfl,rfl⟩)
    refine zb ?_;refine zi rfl (fun hc4=>?_) (fun hc4=>?_)
    ·(try simp only [zf] at hc4)
     refine ze zc [] rfl ?_;iterate 4 refine za rfl ?_
     refine zq rfl rfl (CallT.frame (c0) [0,1,2,3] rfl z3 z3 ?_)
     rintro _ _ ⟨rfl,rfl⟩;refine frK zy zy ?_;refine zb ?_;refine z7 ([(0,.ptr 0 0),(9,.ptr 5 0)]) (tnH1f (m.up 1) (mF m) (mW m) [R0] v) [4,5,6,7,8,11,12] rfl (by refine ⟨[some 0,some 1,some 2,some 3,some 5,some 4],rfl,yb,ya,?_,?_⟩ <;> (repeat' first | exact trivial | exact yc | exact yd | exact z9 rfl | refine zn ?_ ?_ | refine zk rfl ?_ ?_ | refine zj ?_ ?_ | refine ye rfl ?_ | fail) <;> first | exact yv | (first | exact yg (Cv.om rfl) (Cv.om rfl) (Cv.slc rfl (.inr rfl)) | exact yg (Cv.om rfl) (Cv.om rfl) (Cv.slc rfl (.inl rfl)) | exact CvL.pure (zg _ _) | exact Cv.ptr rfl | exact CvL.pure rfl | exact Cv.fptr ⟨rfl,(by simp)⟩ (CvL.pure rfl))) ?_
     refine ze zc [] rfl ?_;iterate 4 refine za rfl ?_
     refine xg rfl rfl zu ?_;refine za rfl ?_;refine xg rfl rfl zu ?_;refine zq rfl rfl (CallT.frame (c1) [0,1,2,4] rfl z3 z3 ?_)
     rintro _ _ ⟨rfl,rfl⟩;refine frK zy zy ?_;refine zb ?_;refine z7 ([(0,.ptr 0 0),(9,.ptr 6 0)]) (tnH2f (m.up 2) (mF m) (mW m) [R0,R1] v) [4,5,6,7,8,11,12] rfl (by refine ⟨[some 0,some 1,some 2,some 3,some 4,some 6,some 5],rfl,yb,ya,?_,?_⟩ <;> (repeat' first | exact trivial | exact yc | exact yd | exact z9 rfl | refine zn ?_ ?_ | refine zk rfl ?_ ?_ | refine zj ?_ ?_ | refine ye rfl ?_ | fail) <;> first | exact yv | (first | exact yg (Cv.om rfl) (Cv.om rfl) (Cv.slc rfl (.inr rfl)) | exact yg (Cv.om rfl) (Cv.om rfl) (Cv.slc rfl (.inl rfl)) | exact CvL.pure (zg _ _) | exact Cv.ptr rfl | exact CvL.pure rfl | exact Cv.fptr ⟨rfl,(by simp)⟩ (CvL.pure rfl))) ?_
     refine ze zc [] rfl ?_;iterate 3 refine za rfl ?_
     refine zp rfl rfl rfl rfl rfl xf rfl ?_;refine za rfl ?_;refine zp rfl rfl rfl rfl rfl xf rfl ?_;refine zb ?_;refine z7 ([(0,.ptr 0 0),(9,.ptr 6 0)]) (tnH2f (m.up 2) (mF m) (mW m) [R0,R1] ⟨v.fr,n[5]!,n[6]!,v.title⟩) [4,5,6,7,8] rfl (by refine ⟨[some 0,some 1,some 2,some 3,some 4,some 5,some 6],rfl,yb,ya,?_,?_⟩ <;> (repeat' first | exact trivial | exact yc | exact yd | exact z9 rfl | refine zn ?_ ?_ | refine zk rfl ?_ ?_ | refine zj ?_ ?_ | refine ye rfl ?_ | fail) <;> first | exact yv | (first | exact yg (Cv.om rfl) (Cv.om rfl) (Cv.slc rfl (.inr rfl)) | exact yg (Cv.om rfl) (Cv.om rfl) (Cv.slc rfl (.inl rfl)) | exact CvL.pure (zg _ _) | exact Cv.ptr rfl | exact CvL.pure rfl | exact Cv.fptr ⟨rfl,(by simp)⟩ (CvL.pure rfl))) ?_
     refine wc zc [] [_,_,_,_,_,_,_] rfl yj yj ?_;iterate 6 refine za rfl ?_
     refine za (t:=frT ⟨v.fr,n[5]!,n[6]!,v.title⟩) rfl ?_;refine zb ?_;refine x9 zc rfl rfl rfl rfl rfl rfl rfl rfl (by exact likeF _ _) (keyAt he) ?_;rw [show mapP (kF m.F) ((tF m.F).set i (frT ⟨v.fr,n[5]!,n[6]!,v.title⟩)) = p from (setF he).trans hpe.symm]
     refine zb ?_;refine z7 ([(0,.ptr 0 0),(9,.iptr (frC ⟨v.fr,n[5]!,n[6]!,v.title⟩) 0)]) (tnH2 (MM 2) p (mW m) [R0,R1]) [5,6,7,8] rfl (by refine ⟨[some 0,some 1,some 2,some 3,some 4,some 5],rfl,yb,ya,?_,?_⟩ <;> (repeat' first | exact trivial | exact yc | exact yd | exact z9 rfl | refine zn ?_ ?_ | refine zk rfl ?_ ?_ | refine zj ?_ ?_ | refine ye rfl ?_ | fail) <;> first | exact yv | (first | (rw [hMt];exact yg (Cv.om rfl) (Cv.om rfl) (Cv.slc rfl (.inl rfl))) | first | exact yg (Cv.om rfl) (Cv.om rfl) (Cv.slc rfl (.inr rfl)) | exact yg (Cv.om rfl) (Cv.om rfl) (Cv.slc rfl (.inl rfl)) | exact CvL.pure (zg _ _) | exact Cv.ptr rfl | exact CvL.pure rfl | exact Cv.fptr ⟨rfl,(by simp)⟩ (CvL.pure rfl))) ?_
     refine zo ?_;refine ze zc [] rfl ?_;iterate 3 refine za rfl ?_
     refine zb ?_;refine zi rfl (fun hc5=>?_) (fun hc5=>?_)
     ·exact absurd (h3.symm.trans hc5) (by decide)
     ·(try simp only [zf] at hc5)
      refine zt ?_;refine ze zc [] rfl ?_;iterate 3 refine za rfl ?_
      refine zb ?_;refine zi rfl (fun hc6=>?_) (fun hc6=>?_)
      ·exact absurd (h16.symm.trans hc6) (by decide)
      ·(try simp only [zf] at hc6)
       refine zt ?_;refine ⟨trivial,_,rfl,rfl,?_⟩;rw [hpe,hMM];rfl
    ·(try simp only [zf] at hc4);have e5 : n[Int.toNat 5]! = n[5]!:=rfl;have e6 : n[Int.toNat 6]! = n[6]!:=rfl;exfalso;omega
   ·exact absurd (h8.symm.trans hc3) (by decide)
  ·exact absurd (h4.symm.trans hc2) (by decide)
 ·exact absurd (h12.symm.trans hc1) (by decide)
theorem zef (m : Mg) (n : List Int) (top : Int) (ok : m.Ok top) (htop : top≤1000000) (hn : 9≤n.length) (i : Nat) (v : Fr) (he : m.F[i]? = some (n[1]!,v)) (hp : posK m.F n[1]! = some i) (hm : 0≤n[2]!∧n[2]!≤2147483647) (e4 : bit n[2]! 4 = true) (e8 : bit n[2]! 8 = true) (eL : (bit n[2]! 1 || bit n[2]! 2) = false) (e16 : bit n[2]! 16 = true) (eB : confBig v n[2]! n[5]! n[6]! = true) :
  CallT Tryd.prog 90 [.ptr 0 0,cIf n] (tnH m (mF m) (mW m) []) (fun t H'=>t = .tup []∧H' = ranH (m.conf n[1]! n[2]! n[3]! n[4]! n[5]! n[6]! n[7]! n[8]!).1 (m.conf n[1]! n[2]! n[3]! n[4]! n[5]! n[6]! n[7]! n[8]!).2 []):=by
 have hc:=ok.cnt
 have hpF:=piF m.F
 have hpW:=piW m.W
 have hlk:=lookF ok.fk n[1]! true
 have hmo:=he
 obtain ⟨R0,hR0⟩ : ∃ R,R = rq 5 [n[1]!,12,0,0,n[5]!,n[6]!,0,0]:=⟨_,rfl⟩
 obtain ⟨R1,hR1⟩ : ∃ R,R = rq 5 [v.fr,12,0,0,n[5]! + 2,n[6]! + 10,0,0]:=⟨_,rfl⟩
 obtain ⟨R2,hR2⟩ : ∃ R,R = rq 5 [v.fr,16,0,0,0,0,0,n[8]!]:=⟨_,rfl⟩
 have h12 : (bitV .and .i64 n[2]! 12 != 0) = true:=by rw [and12 hm,e4,e8];rfl
 have h4 : (bitV .and .i64 n[2]! 4 != 0) = true:=by rw [and4 hm,e4]
 have h8 : (bitV .and .i64 n[2]! 8 != 0) = true:=by rw [and8 hm,e8]
 have h16 : (bitV .and .i64 n[2]! 16 != 0) = true:=by rw [and16 hm,e16]
 have h3 : (bitV .and .i64 n[2]! 3 != 0) = false:=by rw [and3 hm,eL]
 have h3v:=and3v hm
 have hr : m.conf n[1]! n[2]! n[3]! n[4]! n[5]! n[6]! n[7]! n[8]! = ({ m.up 3 with F:=m.F.set i (n[1]!,⟨v.fr,n[5]!,n[6]!,v.title⟩) },[R0,R1,R2]):=by
  unfold Mg.conf;rw [hp];simp only [getM he,confA,eB,eL,e16,confW,confH,e4,e8,if_true,if_false,Bool.false_eq_true,List.append_nil,List.nil_append,List.cons_append,List.length_cons,List.length_nil,hR0,hR1,hR2]
  try rfl
 unfold confBig confW confH at eB
 rw [e4,e8] at eB
 simp only [Bool.or_true,Bool.or_false,Bool.true_or,Bool.false_or,Bool.true_and,if_true,if_false,Bool.false_eq_true,Bool.and_eq_true,decide_eq_true_eq,Bool.and_eq_false_iff,decide_eq_false_iff_not] at eB
 rw [hr]
 rw [xb hp he] at hlk
 have c0 : CallT Tryd.prog 125 [.ptr 0 0,I64 n[1]!,I64 12,I64 0,I64 0,I64 n[5]!,I64 n[6]!,I64 0] (tnH m (mF m) (mW m) []) (fun t H'=>t = .tup []∧H' = tnH1 (m.up 1) (mF m) (mW m) [R0]):=by
  have:=yi m (mF m) (mW m) n[1]! 12 0 0 n[5]! n[6]! 0 [] (by simp) (by skip;omega) hpF hpW
  rw [← hR0] at this
  exact this
 have c1 : CallT Tryd.prog 125 [.ptr 0 0,I64 v.fr,I64 12,I64 0,I64 0,I64 (n[5]! + 2),I64 (n[6]! + 10),I64 0] (tnH (m.up 1) (mF m) (mW m) [R0]) (fun t H'=>t = .tup []∧H' = tnH1 (m.up 2) (mF m) (mW m) [R0,R1]):=by
  have:=yi (m.up 1) (mF m) (mW m) v.fr 12 0 0 (n[5]! + 2) (n[6]! + 10) 0 [R0] (by simp) (by show 0≤m.cnt + 1∧m.cnt + 1≤2000000;omega) hpF hpW
  rw [← hR1,we m 1 1 2 (by decide)] at this
  exact this
 obtain ⟨MM,hMM⟩ : ∃ MM : Int→Mg,MM = fun j=>{ m.up j with F:=m.F.set i (n[1]!,⟨v.fr,n[5]!,n[6]!,v.title⟩) }:=⟨_,rfl⟩
 have hMF : ∀ j,(MM j).F = m.F.set i (n[1]!,⟨v.fr,n[5]!,n[6]!,v.title⟩):=fun j=>by rw [hMM]
 have hMt : ∀ j a,tnC (MM j) a = tnC (m.up j) a:=fun j a=>by rw [hMM]
 have hMc : ∀ j,(MM j).cnt = m.cnt + j:=fun j=>by rw [hMM]
 have hup : ∀ a b c : Int,a + b = c→(MM a).up b = MM c:=fun a b c h=>by rw [hMM];exact vz m _ a b c h
 obtain ⟨p,hpe⟩ : ∃ p : OP,p = mapP (kF (m.F.set i (n[1]!,⟨v.fr,n[5]!,n[6]!,v.title⟩))) (tF (m.F.set i (n[1]!,⟨v.fr,n[5]!,n[6]!,v.title⟩))):=⟨_,rfl⟩
 have hpp : p.pi = true:=by rw [hpe];exact piF _
 have c2 : CallT Tryd.prog 125 [.ptr 0 0,I64 v.fr,I64 16,I64 0,I64 0,I64 0,I64 0,I64 n[8]!] (tnH (MM 2) p (mW m) [R0,R1]) (fun t H'=>t = .tup []∧H' = tnH1 (MM 3) p (mW m) [R0,R1,R2]):=by
  have:=yi (MM 2) p (mW m) v.fr 16 0 0 0 0 n[8]! [R0,R1] (by simp) (by rw [hMc];omega) hpp hpW
  rw [← hR2,hup 2 1 3 (by decide)] at this
  exact this
 refine CallT.intro zc Tryd.func90 rfl (by kernel_rfl) (Nat.le_of_ble_eq_true rfl) ?_;refine yu zc [] [_,_,_,_,_,_,_,_,_,_,_,_,_,_,_,_,_,_,_,_] rfl yj yj ?_;refine za rfl ?_;refine zr rfl rfl rfl rfl rfl y9 zu ?_;refine zm rfl rfl yn ?_;refine za rfl ?_;refine zr rfl rfl rfl rfl rfl y9 zu ?_;refine zm rfl rfl yn ?_;refine za rfl ?_;refine zr rfl rfl rfl rfl rfl y9 zu ?_;refine zm rfl rfl yn ?_;refine za rfl ?_;refine zr rfl rfl rfl rfl rfl y9 zu ?_;refine zm rfl rfl yn ?_;refine za rfl ?_;refine zr rfl rfl rfl rfl rfl y9 zu ?_;refine zm rfl rfl yn ?_;iterate 5 refine za rfl ?_
 iterate 2 refine zb ?_
 refine ze zc [] rfl ?_;iterate 6 refine za rfl ?_
 refine yy zc rfl rfl rfl hlk ?_;iterate 3 refine za rfl ?_
 refine yk rfl rfl ?_;refine zp rfl rfl rfl rfl rfl xf rfl ?_;refine za rfl ?_;refine zb ?_;refine z7 ([(0,.ptr 0 0),(9,.ptr 4 0)]) (tnHf m (mF m) (mW m) [] v) [1,4,5,6,7,8,10] rfl (by refine ⟨[some 0,some 1,some 2,some 3,some 4],rfl,yb,ya,?_,?_⟩ <;> (repeat' first | exact trivial | exact yc | exact yd | exact z9 rfl | refine zn ?_ ?_ | refine zk rfl ?_ ?_ | refine zj ?_ ?_ | refine ye rfl ?_ | fail) <;> first | exact yv | (first | exact yg (Cv.om rfl) (Cv.om rfl) (Cv.slc rfl (.inr rfl)) | exact yg (Cv.om rfl) (Cv.om rfl) (Cv.slc rfl (.inl rfl)) | exact CvL.pure (zg _ _) | exact Cv.ptr rfl | exact CvL.pure rfl | exact Cv.fptr ⟨rfl,(by simp)⟩ (CvL.pure rfl))) ?_
 refine zo ?_;refine ze zc [] rfl ?_;iterate 2 refine za rfl ?_
 refine zb ?_;refine yq rfl ?_;refine zt ?_;refine zo ?_;refine ze zc [] rfl ?_;iterate 3 refine za rfl ?_
 refine zb ?_;refine zi rfl (fun hc1=>?_) (fun hc1=>?_)
 ·(try simp only [zf] at hc1)
  refine yu zc [] [_,_,_,_,_,_] rfl yj yj ?_;iterate 6 refine za rfl ?_
  iterate 2 refine zb ?_
  refine zo ?_;refine ze zc [] rfl ?_;iterate 3 refine za rfl ?_
  refine zb ?_;refine zi rfl (fun hc2=>?_) (fun hc2=>?_)
  ·(try simp only [zf] at hc2)
   refine z4 zc [] rfl ?_;refine za rfl ?_;refine zr rfl rfl rfl rfl rfl y9 zu ?_;refine zm rfl rfl yn ?_;refine za rfl ?_;refine zb ?_;refine zo ?_;refine ze zc [] rfl ?_;iterate 3 refine za rfl ?_
   refine zb ?_;refine zi rfl (fun hc3=>?_) (fun hc3=>?_)
   ·(try simp only [zf] at hc3)
    refine z4 zc [] rfl ?_;refine za rfl ?_;refine zr rfl rfl rfl rfl rfl y9 zu ?_;refine zm rfl rfl yn ?_;refine za rfl ?_;refine zb ?_;refine ze zc [] rfl ?_;iterate 3 refine za rfl ?_
    refine' zx (d:=68) [_,_,_] rfl ?_ rfl ?_
    rotate_left
    ·refine zw rfl rfl (fun hb10_2=>?_) (fun hb10_2=>?_)
     ·have ghb10_2:=hb10_2
      try simp only [zf,Bool.not_true,Bool.not_false] at ghb10_2
      refine za rfl ?_;refine zd rfl rfl hb10_2 ?_;refine za rfl ?_;refine zh rfl (fun _=>rfl) ?_;exact zb ⟨rfl,rfl⟩
     ·refine zl rfl rfl hb10_2 ?_;exact zh rfl (fun h=>absurd (h.symm.trans hb10_2) (by decide)) (zb ⟨rfl,rfl⟩)
    refine za rfl ?_;refine' zx (d:=72) [_,_,_] rfl ?_ rfl ?_
    rotate_left
    ·refine zw rfl rfl (fun hb10_6=>?_) (fun hb10_6=>?_)
     ·have ghb10_6:=hb10_6
      try simp only [zf,Bool.not_true,Bool.not_false] at ghb10_6
      refine za rfl ?_;refine zd rfl rfl hb10_6 ?_;refine za rfl ?_;refine zh rfl (fun _=>rfl) ?_;exact zb ⟨rfl,rfl⟩
     ·refine zl rfl rfl hb10_6 ?_;exact zh rfl (fun h=>absurd (h.symm.trans hb10_6) (by decide)) (zb ⟨rfl,rfl⟩)
    refine za rfl ?_;refine' zx (d:=76) [_,_,_] rfl ?_ rfl ?_
    rotate_left
    ·refine zw rfl rfl (fun hb10_10=>?_) (fun hb10_10=>?_)
     ·have ghb10_10:=hb10_10
      try simp only [zf,Bool.not_true,Bool.not_false] at ghb10_10
      refine za rfl ?_;refine zd rfl rfl hb10_10 ?_;refine za rfl ?_;refine zh rfl (fun _=>rfl) ?_;exact zb ⟨rfl,rfl⟩
     ·refine zl rfl rfl hb10_10 ?_;exact zh rfl (fun h=>absurd (h.symm.trans hb10_10) (by decide)) (zb ⟨rfl,rfl⟩)
    refine zb ?_;refine zi rfl (fun hc4=>?_) (fun hc4=>?_)
    ·(try simp only [zf] at hc4)
     refine ze zc [] rfl ?_;iterate 4 refine za rfl ?_
     refine zq rfl rfl (CallT.frame (c0) [0,1,2,3] rfl z3 z3 ?_)
     rintro _ _ ⟨rfl,rfl⟩;refine frK zy zy ?_;refine zb ?_;refine z7 ([(0,.ptr 0 0),(9,.ptr 5 0)]) (tnH1f (m.up 1) (mF m) (mW m) [R0] v) [4,5,6,7,8,11,12] rfl (by refine ⟨[some 0,some 1,some 2,some 3,some 5,some 4],rfl,yb,ya,?_,?_⟩ <;> (repeat' first | exact trivial | exact yc | exact yd | exact z9 rfl | refine zn ?_ ?_ | refine zk rfl ?_ ?_ | refine zj ?_ ?_ | refine ye rfl ?_ | fail) <;> first | exact yv | (first | exact yg (Cv.om rfl) (Cv.om rfl) (Cv.slc rfl (.inr rfl)) | exact yg (Cv.om rfl) (Cv.om rfl) (Cv.slc rfl (.inl rfl)) | exact CvL.pure (zg _ _) | exact Cv.ptr rfl | exact CvL.pure rfl | exact Cv.fptr ⟨rfl,(by simp)⟩ (CvL.pure rfl))) ?_
     refine ze zc [] rfl ?_;iterate 4 refine za rfl ?_
     refine xg rfl rfl zu ?_;refine za rfl ?_;refine xg rfl rfl zu ?_;refine zq rfl rfl (CallT.frame (c1) [0,1,2,4] rfl z3 z3 ?_)
     rintro _ _ ⟨rfl,rfl⟩;refine frK zy zy ?_;refine zb ?_;refine z7 ([(0,.ptr 0 0),(9,.ptr 5 0)]) (tnH1f (m.up 2) (mF m) (mW m) [R0,R1] v) [4,5,6,7,8,11,12] rfl (by refine ⟨[some 0,some 1,some 2,some 3,some 6,some 5],rfl,yb,ya,?_,?_⟩ <;> (repeat' first | exact trivial | exact yc | exact yd | exact z9 rfl | refine zn ?_ ?_ | refine zk rfl ?_ ?_ | refine zj ?_ ?_ | refine ye rfl ?_ | fail) <;> first | exact yv | (first | exact yg (Cv.om rfl) (Cv.om rfl) (Cv.slc rfl (.inr rfl)) | exact yg (Cv.om rfl) (Cv.om rfl) (Cv.slc rfl (.inl rfl)) | exact CvL.pure (zg _ _) | exact Cv.ptr rfl | exact CvL.pure rfl | exact Cv.fptr ⟨rfl,(by simp)⟩ (CvL.pure rfl))) ?_
     refine ze zc [] rfl ?_;iterate 3 refine za rfl ?_
     refine zp rfl rfl rfl rfl rfl xf rfl ?_;refine za rfl ?_;refine zp rfl rfl rfl rfl rfl xf rfl ?_;refine zb ?_;refine z7 ([(0,.ptr 0 0),(9,.ptr 5 0)]) (tnH1f (m.up 2) (mF m) (mW m) [R0,R1] ⟨v.fr,n[5]!,n[6]!,v.title⟩) [4,5,6,7,8] rfl (by refine ⟨[some 0,some 1,some 2,some 3,some 4,some 5],rfl,yb,ya,?_,?_⟩ <;> (repeat' first | exact trivial | exact yc | exact yd | exact z9 rfl | refine zn ?_ ?_ | refine zk rfl ?_ ?_ | refine zj ?_ ?_ | refine ye rfl ?_ | fail) <;> first | exact yv | (first | exact yg (Cv.om rfl) (Cv.om rfl) (Cv.slc rfl (.inr rfl)) | exact yg (Cv.om rfl) (Cv.om rfl) (Cv.slc rfl (.inl rfl)) | exact CvL.pure (zg _ _) | exact Cv.ptr rfl | exact CvL.pure rfl | exact Cv.fptr ⟨rfl,(by simp)⟩ (CvL.pure rfl))) ?_
     refine wc zc [] [_,_,_,_,_,_,_] rfl yj yj ?_;iterate 6 refine za rfl ?_
     refine za (t:=frT ⟨v.fr,n[5]!,n[6]!,v.title⟩) rfl ?_;refine zb ?_;refine x9 zc rfl rfl rfl rfl rfl rfl rfl rfl (by exact likeF _ _) (keyAt he) ?_;rw [show mapP (kF m.F) ((tF m.F).set i (frT ⟨v.fr,n[5]!,n[6]!,v.title⟩)) = p from (setF he).trans hpe.symm]
     refine zb ?_;refine z7 ([(0,.ptr 0 0),(9,.iptr (frC ⟨v.fr,n[5]!,n[6]!,v.title⟩) 0)]) (tnH1 (MM 2) p (mW m) [R0,R1]) [5,6,7,8] rfl (by refine ⟨[some 0,some 1,some 2,some 3,some 4],rfl,yb,ya,?_,?_⟩ <;> (repeat' first | exact trivial | exact yc | exact yd | exact z9 rfl | refine zn ?_ ?_ | refine zk rfl ?_ ?_ | refine zj ?_ ?_ | refine ye rfl ?_ | fail) <;> first | exact yv | (first | (rw [hMt];exact yg (Cv.om rfl) (Cv.om rfl) (Cv.slc rfl (.inl rfl))) | first | exact yg (Cv.om rfl) (Cv.om rfl) (Cv.slc rfl (.inr rfl)) | exact yg (Cv.om rfl) (Cv.om rfl) (Cv.slc rfl (.inl rfl)) | exact CvL.pure (zg _ _) | exact Cv.ptr rfl | exact CvL.pure rfl | exact Cv.fptr ⟨rfl,(by simp)⟩ (CvL.pure rfl))) ?_
     refine zo ?_;refine ze zc [] rfl ?_;iterate 3 refine za rfl ?_
     refine zb ?_;refine zi rfl (fun hc5=>?_) (fun hc5=>?_)
     ·exact absurd (h3.symm.trans hc5) (by decide)
     ·(try simp only [zf] at hc5)
      refine zt ?_;refine ze zc [] rfl ?_;iterate 3 refine za rfl ?_
      refine zb ?_;refine zi rfl (fun hc6=>?_) (fun hc6=>?_)
      ·(try simp only [zf] at hc6)
       refine z4 zc [] rfl ?_;iterate 4 refine za rfl ?_
       refine zq rfl rfl (CallT.frame (c2) [0,1,2,4] rfl z3 z3 ?_)
       rintro _ _ ⟨rfl,rfl⟩;refine frK zy zy ?_;refine zb ?_;refine ⟨trivial,_,rfl,rfl,?_⟩;rw [hpe,hMM];rfl
      ·exact absurd (h16.symm.trans hc6) (by decide)
    ·(try simp only [zf] at hc4);have e5 : n[Int.toNat 5]! = n[5]!:=rfl;have e6 : n[Int.toNat 6]! = n[6]!:=rfl;exfalso;omega
   ·exact absurd (h8.symm.trans hc3) (by decide)
  ·exact absurd (h4.symm.trans hc2) (by decide)
 ·exact absurd (h12.symm.trans hc1) (by decide)
theorem zee (m : Mg) (n : List Int) (top : Int) (ok : m.Ok top) (htop : top≤1000000) (hn : 9≤n.length) (i : Nat) (v : Fr) (he : m.F[i]? = some (n[1]!,v)) (hp : posK m.F n[1]! = some i) (hm : 0≤n[2]!∧n[2]!≤2147483647) (e4 : bit n[2]! 4 = true) (e8 : bit n[2]! 8 = true) (eL : (bit n[2]! 1 || bit n[2]! 2) = true) (e16 : bit n[2]! 16 = false) (eB : confBig v n[2]! n[5]! n[6]! = true) :
  CallT Tryd.prog 90 [.ptr 0 0,cIf n] (tnH m (mF m) (mW m) []) (fun t H'=>t = .tup []∧H' = ranH (m.conf n[1]! n[2]! n[3]! n[4]! n[5]! n[6]! n[7]! n[8]!).1 (m.conf n[1]! n[2]! n[3]! n[4]! n[5]! n[6]! n[7]! n[8]!).2 []):=by
 have hc:=ok.cnt
 have hpF:=piF m.F
 have hpW:=piW m.W
 have hlk:=lookF ok.fk n[1]! true
 have hmo:=he
 obtain ⟨R0,hR0⟩ : ∃ R,R = rq 5 [n[1]!,12,0,0,n[5]!,n[6]!,0,0]:=⟨_,rfl⟩
 obtain ⟨R1,hR1⟩ : ∃ R,R = rq 5 [v.fr,12,0,0,n[5]! + 2,n[6]! + 10,0,0]:=⟨_,rfl⟩
 obtain ⟨R2,hR2⟩ : ∃ R,R = rq 5 [v.fr,n[2]! % 4,n[3]!,n[4]!,0,0,0,0]:=⟨_,rfl⟩
 have h12 : (bitV .and .i64 n[2]! 12 != 0) = true:=by rw [and12 hm,e4,e8];rfl
 have h4 : (bitV .and .i64 n[2]! 4 != 0) = true:=by rw [and4 hm,e4]
 have h8 : (bitV .and .i64 n[2]! 8 != 0) = true:=by rw [and8 hm,e8]
 have h16 : (bitV .and .i64 n[2]! 16 != 0) = false:=by rw [and16 hm,e16]
 have h3 : (bitV .and .i64 n[2]! 3 != 0) = true:=by rw [and3 hm,eL]
 have h3v:=and3v hm
 have hr : m.conf n[1]! n[2]! n[3]! n[4]! n[5]! n[6]! n[7]! n[8]! = ({ m.up 3 with F:=m.F.set i (n[1]!,⟨v.fr,n[5]!,n[6]!,v.title⟩) },[R0,R1,R2]):=by
  unfold Mg.conf;rw [hp];simp only [getM he,confA,eB,eL,e16,confW,confH,e4,e8,if_true,if_false,Bool.false_eq_true,List.append_nil,List.nil_append,List.cons_append,List.length_cons,List.length_nil,hR0,hR1,hR2]
  try rfl
 unfold confBig confW confH at eB
 rw [e4,e8] at eB
 simp only [Bool.or_true,Bool.or_false,Bool.true_or,Bool.false_or,Bool.true_and,if_true,if_false,Bool.false_eq_true,Bool.and_eq_true,decide_eq_true_eq,Bool.and_eq_false_iff,decide_eq_false_iff_not] at eB
 rw [hr]
 rw [xb hp he] at hlk
 have c0 : CallT Tryd.prog 125 [.ptr 0 0,I64 n[1]!,I64 12,I64 0,I64 0,I64 n[5]!,I64 n[6]!,I64 0] (tnH m (mF m) (mW m) []) (fun t H'=>t = .tup []∧H' = tnH1 (m.up 1) (mF m) (mW m) [R0]):=by
  have:=yi m (mF m) (mW m) n[1]! 12 0 0 n[5]! n[6]! 0 [] (by simp) (by skip;omega) hpF hpW
  rw [← hR0] at this
  exact this
 have c1 : CallT Tryd.prog 125 [.ptr 0 0,I64 v.fr,I64 12,I64 0,I64 0,I64 (n[5]! + 2),I64 (n[6]! + 10),I64 0] (tnH (m.up 1) (mF m) (mW m) [R0]) (fun t H'=>t = .tup []∧H' = tnH1 (m.up 2) (mF m) (mW m) [R0,R1]):=by
  have:=yi (m.up 1) (mF m) (mW m) v.fr 12 0 0 (n[5]! + 2) (n[6]! + 10) 0 [R0] (by simp) (by show 0≤m.cnt + 1∧m.cnt + 1≤2000000;omega) hpF hpW
  rw [← hR1,we m 1 1 2 (by decide)] at this
  exact this
 obtain ⟨MM,hMM⟩ : ∃ MM : Int→Mg,MM = fun j=>{ m.up j with F:=m.F.set i (n[1]!,⟨v.fr,n[5]!,n[6]!,v.title⟩) }:=⟨_,rfl⟩
 have hMF : ∀ j,(MM j).F = m.F.set i (n[1]!,⟨v.fr,n[5]!,n[6]!,v.title⟩):=fun j=>by rw [hMM]
 have hMt : ∀ j a,tnC (MM j) a = tnC (m.up j) a:=fun j a=>by rw [hMM]
 have hMc : ∀ j,(MM j).cnt = m.cnt + j:=fun j=>by rw [hMM]
 have hup : ∀ a b c : Int,a + b = c→(MM a).up b = MM c:=fun a b c h=>by rw [hMM];exact vz m _ a b c h
 obtain ⟨p,hpe⟩ : ∃ p : OP,p = mapP (kF (m.F.set i (n[1]!,⟨v.fr,n[5]!,n[6]!,v.title⟩))) (tF (m.F.set i (n[1]!,⟨v.fr,n[5]!,n[6]!,v.title⟩))):=⟨_,rfl⟩
 have hpp : p.pi = true:=by rw [hpe];exact piF _
 have c2 : CallT Tryd.prog 125 [.ptr 0 0,I64 v.fr,I64 (n[2]! % 4),I64 n[3]!,I64 n[4]!,I64 0,I64 0,I64 0] (tnH (MM 2) p (mW m) [R0,R1]) (fun t H'=>t = .tup []∧H' = tnH1 (MM 3) p (mW m) [R0,R1,R2]):=by
  have:=yi (MM 2) p (mW m) v.fr (n[2]! % 4) n[3]! n[4]! 0 0 0 [R0,R1] (by simp) (by rw [hMc];omega) hpp hpW
  rw [← hR2,hup 2 1 3 (by decide)] at this
  exact this
 refine CallT.intro zc Tryd.func90 rfl (by kernel_rfl) (Nat.le_of_ble_eq_true rfl) ?_;refine yu zc [] [_,_,_,_,_,_,_,_,_,_,_,_,_,_,_,_,_,_,_,_] rfl yj yj ?_;refine za rfl ?_;refine zr rfl rfl rfl rfl rfl y9 zu ?_;refine zm rfl rfl yn ?_;refine za rfl ?_;refine zr rfl rfl rfl rfl rfl y9 zu ?_;refine zm rfl rfl yn ?_;refine za rfl ?_;refine zr rfl rfl rfl rfl rfl y9 zu ?_;refine zm rfl rfl yn ?_;refine za rfl ?_;refine zr rfl rfl rfl rfl rfl y9 zu ?_;refine zm rfl rfl yn ?_;refine za rfl ?_;refine zr rfl rfl rfl rfl rfl y9 zu ?_;refine zm rfl rfl yn ?_;iterate 5 refine za rfl ?_
 iterate 2 refine zb ?_
 refine ze zc [] rfl ?_;iterate 6 refine za rfl ?_
 refine yy zc rfl rfl rfl hlk ?_;iterate 3 refine za rfl ?_
 refine yk rfl rfl ?_;refine zp rfl rfl rfl rfl rfl xf rfl ?_;refine za rfl ?_;refine zb ?_;refine z7 ([(0,.ptr 0 0),(9,.ptr 4 0)]) (tnHf m (mF m) (mW m) [] v) [1,4,5,6,7,8,10] rfl (by refine ⟨[some 0,some 1,some 2,some 3,some 4],rfl,yb,ya,?_,?_⟩ <;> (repeat' first | exact trivial | exact yc | exact yd | exact z9 rfl | refine zn ?_ ?_ | refine zk rfl ?_ ?_ | refine zj ?_ ?_ | refine ye rfl ?_ | fail) <;> first | exact yv | (first | exact yg (Cv.om rfl) (Cv.om rfl) (Cv.slc rfl (.inr rfl)) | exact yg (Cv.om rfl) (Cv.om rfl) (Cv.slc rfl (.inl rfl)) | exact CvL.pure (zg _ _) | exact Cv.ptr rfl | exact CvL.pure rfl | exact Cv.fptr ⟨rfl,(by simp)⟩ (CvL.pure rfl))) ?_
 refine zo ?_;refine ze zc [] rfl ?_;iterate 2 refine za rfl ?_
 refine zb ?_;refine yq rfl ?_;refine zt ?_;refine zo ?_;refine ze zc [] rfl ?_;iterate 3 refine za rfl ?_
 refine zb ?_;refine zi rfl (fun hc1=>?_) (fun hc1=>?_)
 ·(try simp only [zf] at hc1)
  refine yu zc [] [_,_,_,_,_,_] rfl yj yj ?_;iterate 6 refine za rfl ?_
  iterate 2 refine zb ?_
  refine zo ?_;refine ze zc [] rfl ?_;iterate 3 refine za rfl ?_
  refine zb ?_;refine zi rfl (fun hc2=>?_) (fun hc2=>?_)
  ·(try simp only [zf] at hc2)
   refine z4 zc [] rfl ?_;refine za rfl ?_;refine zr rfl rfl rfl rfl rfl y9 zu ?_;refine zm rfl rfl yn ?_;refine za rfl ?_;refine zb ?_;refine zo ?_;refine ze zc [] rfl ?_;iterate 3 refine za rfl ?_
   refine zb ?_;refine zi rfl (fun hc3=>?_) (fun hc3=>?_)
   ·(try simp only [zf] at hc3)
    refine z4 zc [] rfl ?_;refine za rfl ?_;refine zr rfl rfl rfl rfl rfl y9 zu ?_;refine zm rfl rfl yn ?_;refine za rfl ?_;refine zb ?_;refine ze zc [] rfl ?_;iterate 3 refine za rfl ?_
    refine' zx (d:=68) [_,_,_] rfl ?_ rfl ?_
    rotate_left
    ·refine zw rfl rfl (fun hb10_2=>?_) (fun hb10_2=>?_)
     ·have ghb10_2:=hb10_2
      try simp only [zf,Bool.not_true,Bool.not_false] at ghb10_2
      refine za rfl ?_;refine zd rfl rfl hb10_2 ?_;refine za rfl ?_;refine zh rfl (fun _=>rfl) ?_;exact zb ⟨rfl,rfl⟩
     ·refine zl rfl rfl hb10_2 ?_;exact zh rfl (fun h=>absurd (h.symm.trans hb10_2) (by decide)) (zb ⟨rfl,rfl⟩)
    refine za rfl ?_;refine' zx (d:=72) [_,_,_] rfl ?_ rfl ?_
    rotate_left
    ·refine zw rfl rfl (fun hb10_6=>?_) (fun hb10_6=>?_)
     ·have ghb10_6:=hb10_6
      try simp only [zf,Bool.not_true,Bool.not_false] at ghb10_6
      refine za rfl ?_;refine zd rfl rfl hb10_6 ?_;refine za rfl ?_;refine zh rfl (fun _=>rfl) ?_;exact zb ⟨rfl,rfl⟩
     ·refine zl rfl rfl hb10_6 ?_;exact zh rfl (fun h=>absurd (h.symm.trans hb10_6) (by decide)) (zb ⟨rfl,rfl⟩)
    refine za rfl ?_;refine' zx (d:=76) [_,_,_] rfl ?_ rfl ?_
    rotate_left
    ·refine zw rfl rfl (fun hb10_10=>?_) (fun hb10_10=>?_)
     ·have ghb10_10:=hb10_10
      try simp only [zf,Bool.not_true,Bool.not_false] at ghb10_10
      refine za rfl ?_;refine zd rfl rfl hb10_10 ?_;refine za rfl ?_;refine zh rfl (fun _=>rfl) ?_;exact zb ⟨rfl,rfl⟩
     ·refine zl rfl rfl hb10_10 ?_;exact zh rfl (fun h=>absurd (h.symm.trans hb10_10) (by decide)) (zb ⟨rfl,rfl⟩)
    refine zb ?_;refine zi rfl (fun hc4=>?_) (fun hc4=>?_)
    ·(try simp only [zf] at hc4)
     refine ze zc [] rfl ?_;iterate 4 refine za rfl ?_
     refine zq rfl rfl (CallT.frame (c0) [0,1,2,3] rfl z3 z3 ?_)
     rintro _ _ ⟨rfl,rfl⟩;refine frK zy zy ?_;refine zb ?_;refine z7 ([(0,.ptr 0 0),(9,.ptr 5 0)]) (tnH1f (m.up 1) (mF m) (mW m) [R0] v) [4,5,6,7,8,11,12] rfl (by refine ⟨[some 0,some 1,some 2,some 3,some 5,some 4],rfl,yb,ya,?_,?_⟩ <;> (repeat' first | exact trivial | exact yc | exact yd | exact z9 rfl | refine zn ?_ ?_ | refine zk rfl ?_ ?_ | refine zj ?_ ?_ | refine ye rfl ?_ | fail) <;> first | exact yv | (first | exact yg (Cv.om rfl) (Cv.om rfl) (Cv.slc rfl (.inr rfl)) | exact yg (Cv.om rfl) (Cv.om rfl) (Cv.slc rfl (.inl rfl)) | exact CvL.pure (zg _ _) | exact Cv.ptr rfl | exact CvL.pure rfl | exact Cv.fptr ⟨rfl,(by simp)⟩ (CvL.pure rfl))) ?_
     refine ze zc [] rfl ?_;iterate 4 refine za rfl ?_
     refine xg rfl rfl zu ?_;refine za rfl ?_;refine xg rfl rfl zu ?_;refine zq rfl rfl (CallT.frame (c1) [0,1,2,4] rfl z3 z3 ?_)
     rintro _ _ ⟨rfl,rfl⟩;refine frK zy zy ?_;refine zb ?_;refine z7 ([(0,.ptr 0 0),(9,.ptr 5 0)]) (tnH1f (m.up 2) (mF m) (mW m) [R0,R1] v) [4,5,6,7,8,11,12] rfl (by refine ⟨[some 0,some 1,some 2,some 3,some 6,some 5],rfl,yb,ya,?_,?_⟩ <;> (repeat' first | exact trivial | exact yc | exact yd | exact z9 rfl | refine zn ?_ ?_ | refine zk rfl ?_ ?_ | refine zj ?_ ?_ | refine ye rfl ?_ | fail) <;> first | exact yv | (first | exact yg (Cv.om rfl) (Cv.om rfl) (Cv.slc rfl (.inr rfl)) | exact yg (Cv.om rfl) (Cv.om rfl) (Cv.slc rfl (.inl rfl)) | exact CvL.pure (zg _ _) | exact Cv.ptr rfl | exact CvL.pure rfl | exact Cv.fptr ⟨rfl,(by simp)⟩ (CvL.pure rfl))) ?_
     refine ze zc [] rfl ?_;iterate 3 refine za rfl ?_
     refine zp rfl rfl rfl rfl rfl xf rfl ?_;refine za rfl ?_;refine zp rfl rfl rfl rfl rfl xf rfl ?_;refine zb ?_;refine z7 ([(0,.ptr 0 0),(9,.ptr 5 0)]) (tnH1f (m.up 2) (mF m) (mW m) [R0,R1] ⟨v.fr,n[5]!,n[6]!,v.title⟩) [4,5,6,7,8] rfl (by refine ⟨[some 0,some 1,some 2,some 3,some 4,some 5],rfl,yb,ya,?_,?_⟩ <;> (repeat' first | exact trivial | exact yc | exact yd | exact z9 rfl | refine zn ?_ ?_ | refine zk rfl ?_ ?_ | refine zj ?_ ?_ | refine ye rfl ?_ | fail) <;> first | exact yv | (first | exact yg (Cv.om rfl) (Cv.om rfl) (Cv.slc rfl (.inr rfl)) | exact yg (Cv.om rfl) (Cv.om rfl) (Cv.slc rfl (.inl rfl)) | exact CvL.pure (zg _ _) | exact Cv.ptr rfl | exact CvL.pure rfl | exact Cv.fptr ⟨rfl,(by simp)⟩ (CvL.pure rfl))) ?_
     refine wc zc [] [_,_,_,_,_,_,_] rfl yj yj ?_;iterate 6 refine za rfl ?_
     refine za (t:=frT ⟨v.fr,n[5]!,n[6]!,v.title⟩) rfl ?_;refine zb ?_;refine x9 zc rfl rfl rfl rfl rfl rfl rfl rfl (by exact likeF _ _) (keyAt he) ?_;rw [show mapP (kF m.F) ((tF m.F).set i (frT ⟨v.fr,n[5]!,n[6]!,v.title⟩)) = p from (setF he).trans hpe.symm]
     refine zb ?_;refine z7 ([(0,.ptr 0 0),(9,.iptr (frC ⟨v.fr,n[5]!,n[6]!,v.title⟩) 0)]) (tnH1 (MM 2) p (mW m) [R0,R1]) [5,6,7,8] rfl (by refine ⟨[some 0,some 1,some 2,some 3,some 4],rfl,yb,ya,?_,?_⟩ <;> (repeat' first | exact trivial | exact yc | exact yd | exact z9 rfl | refine zn ?_ ?_ | refine zk rfl ?_ ?_ | refine zj ?_ ?_ | refine ye rfl ?_ | fail) <;> first | exact yv | (first | (rw [hMt];exact yg (Cv.om rfl) (Cv.om rfl) (Cv.slc rfl (.inl rfl))) | first | exact yg (Cv.om rfl) (Cv.om rfl) (Cv.slc rfl (.inr rfl)) | exact yg (Cv.om rfl) (Cv.om rfl) (Cv.slc rfl (.inl rfl)) | exact CvL.pure (zg _ _) | exact Cv.ptr rfl | exact CvL.pure rfl | exact Cv.fptr ⟨rfl,(by simp)⟩ (CvL.pure rfl))) ?_
     refine zo ?_;refine ze zc [] rfl ?_;iterate 3 refine za rfl ?_
     refine zb ?_;refine zi rfl (fun hc5=>?_) (fun hc5=>?_)
     ·(try simp only [zf] at hc5)
      refine z4 zc [] rfl ?_;iterate 4 refine za rfl ?_
      refine za (t:=I64 (n[2]! % 4)) (by show some (T.v (.int .i64 (bitV .and .i64 n[2]! 3)),(none : Option (Nat × List T))) = _;rw [h3v]) ?_;iterate 2 refine za rfl ?_
      refine zq rfl rfl (CallT.frame (c2) [0,1,2,4] rfl z3 z3 ?_)
      rintro _ _ ⟨rfl,rfl⟩;refine frK zy zy ?_;refine zb ?_;refine ze zc [] rfl ?_;iterate 3 refine za rfl ?_
      refine zb ?_;refine zi rfl (fun hc6=>?_) (fun hc6=>?_)
      ·exact absurd (h16.symm.trans hc6) (by decide)
      ·(try simp only [zf] at hc6)
       refine zt ?_;refine ⟨trivial,_,rfl,rfl,?_⟩;rw [hpe,hMM];rfl
     ·exact absurd (h3.symm.trans hc5) (by decide)
    ·(try simp only [zf] at hc4);have e5 : n[Int.toNat 5]! = n[5]!:=rfl;have e6 : n[Int.toNat 6]! = n[6]!:=rfl;exfalso;omega
   ·exact absurd (h8.symm.trans hc3) (by decide)
  ·exact absurd (h4.symm.trans hc2) (by decide)
 ·exact absurd (h12.symm.trans hc1) (by decide)
theorem zed (m : Mg) (n : List Int) (top : Int) (ok : m.Ok top) (htop : top≤1000000) (hn : 9≤n.length) (i : Nat) (v : Fr) (he : m.F[i]? = some (n[1]!,v)) (hp : posK m.F n[1]! = some i) (hm : 0≤n[2]!∧n[2]!≤2147483647) (e4 : bit n[2]! 4 = true) (e8 : bit n[2]! 8 = true) (eL : (bit n[2]! 1 || bit n[2]! 2) = true) (e16 : bit n[2]! 16 = true) (eB : confBig v n[2]! n[5]! n[6]! = true) :
  CallT Tryd.prog 90 [.ptr 0 0,cIf n] (tnH m (mF m) (mW m) []) (fun t H'=>t = .tup []∧H' = ranH (m.conf n[1]! n[2]! n[3]! n[4]! n[5]! n[6]! n[7]! n[8]!).1 (m.conf n[1]! n[2]! n[3]! n[4]! n[5]! n[6]! n[7]! n[8]!).2 []):=by
 have hc:=ok.cnt
 have hpF:=piF m.F
 have hpW:=piW m.W
 have hlk:=lookF ok.fk n[1]! true
 have hmo:=he
 obtain ⟨R0,hR0⟩ : ∃ R,R = rq 5 [n[1]!,12,0,0,n[5]!,n[6]!,0,0]:=⟨_,rfl⟩
 obtain ⟨R1,hR1⟩ : ∃ R,R = rq 5 [v.fr,12,0,0,n[5]! + 2,n[6]! + 10,0,0]:=⟨_,rfl⟩
 obtain ⟨R2,hR2⟩ : ∃ R,R = rq 5 [v.fr,n[2]! % 4,n[3]!,n[4]!,0,0,0,0]:=⟨_,rfl⟩
 obtain ⟨R3,hR3⟩ : ∃ R,R = rq 5 [v.fr,16,0,0,0,0,0,n[8]!]:=⟨_,rfl⟩
 have h12 : (bitV .and .i64 n[2]! 12 != 0) = true:=by rw [and12 hm,e4,e8];rfl
 have h4 : (bitV .and .i64 n[2]! 4 != 0) = true:=by rw [and4 hm,e4]
 have h8 : (bitV .and .i64 n[2]! 8 != 0) = true:=by rw [and8 hm,e8]
 have h16 : (bitV .and .i64 n[2]! 16 != 0) = true:=by rw [and16 hm,e16]
 have h3 : (bitV .and .i64 n[2]! 3 != 0) = true:=by rw [and3 hm,eL]
 have h3v:=and3v hm
 have hr : m.conf n[1]! n[2]! n[3]! n[4]! n[5]! n[6]! n[7]! n[8]! = ({ m.up 4 with F:=m.F.set i (n[1]!,⟨v.fr,n[5]!,n[6]!,v.title⟩) },[R0,R1,R2,R3]):=by
  unfold Mg.conf;rw [hp];simp only [getM he,confA,eB,eL,e16,confW,confH,e4,e8,if_true,if_false,Bool.false_eq_true,List.append_nil,List.nil_append,List.cons_append,List.length_cons,List.length_nil,hR0,hR1,hR2,hR3]
  try rfl
 unfold confBig confW confH at eB
 rw [e4,e8] at eB
 simp only [Bool.or_true,Bool.or_false,Bool.true_or,Bool.false_or,Bool.true_and,if_true,if_false,Bool.false_eq_true,Bool.and_eq_true,decide_eq_true_eq,Bool.and_eq_false_iff,decide_eq_false_iff_not] at eB
 rw [hr]
 rw [xb hp he] at hlk
 have c0 : CallT Tryd.prog 125 [.ptr 0 0,I64 n[1]!,I64 12,I64 0,I64 0,I64 n[5]!,I64 n[6]!,I64 0] (tnH m (mF m) (mW m) []) (fun t H'=>t = .tup []∧H' = tnH1 (m.up 1) (mF m) (mW m) [R0]):=by
  have:=yi m (mF m) (mW m) n[1]! 12 0 0 n[5]! n[6]! 0 [] (by simp) (by skip;omega) hpF hpW
  rw [← hR0] at this
  exact this
 have c1 : CallT Tryd.prog 125 [.ptr 0 0,I64 v.fr,I64 12,I64 0,I64 0,I64 (n[5]! + 2),I64 (n[6]! + 10),I64 0] (tnH (m.up 1) (mF m) (mW m) [R0]) (fun t H'=>t = .tup []∧H' = tnH1 (m.up 2) (mF m) (mW m) [R0,R1]):=by
  have:=yi (m.up 1) (mF m) (mW m) v.fr 12 0 0 (n[5]! + 2) (n[6]! + 10) 0 [R0] (by simp) (by show 0≤m.cnt + 1∧m.cnt + 1≤2000000;omega) hpF hpW
  rw [← hR1,we m 1 1 2 (by decide)] at this
  exact this
 obtain ⟨MM,hMM⟩ : ∃ MM : Int→Mg,MM = fun j=>{ m.up j with F:=m.F.set i (n[1]!,⟨v.fr,n[5]!,n[6]!,v.title⟩) }:=⟨_,rfl⟩
 have hMF : ∀ j,(MM j).F = m.F.set i (n[1]!,⟨v.fr,n[5]!,n[6]!,v.title⟩):=fun j=>by rw [hMM]
 have hMt : ∀ j a,tnC (MM j) a = tnC (m.up j) a:=fun j a=>by rw [hMM]
 have hMc : ∀ j,(MM j).cnt = m.cnt + j:=fun j=>by rw [hMM]
 have hup : ∀ a b c : Int,a + b = c→(MM a).up b = MM c:=fun a b c h=>by rw [hMM];exact vz m _ a b c h
 obtain ⟨p,hpe⟩ : ∃ p : OP,p = mapP (kF (m.F.set i (n[1]!,⟨v.fr,n[5]!,n[6]!,v.title⟩))) (tF (m.F.set i (n[1]!,⟨v.fr,n[5]!,n[6]!,v.title⟩))):=⟨_,rfl⟩
 have hpp : p.pi = true:=by rw [hpe];exact piF _
 have c2 : CallT Tryd.prog 125 [.ptr 0 0,I64 v.fr,I64 (n[2]! % 4),I64 n[3]!,I64 n[4]!,I64 0,I64 0,I64 0] (tnH (MM 2) p (mW m) [R0,R1]) (fun t H'=>t = .tup []∧H' = tnH1 (MM 3) p (mW m) [R0,R1,R2]):=by
  have:=yi (MM 2) p (mW m) v.fr (n[2]! % 4) n[3]! n[4]! 0 0 0 [R0,R1] (by simp) (by rw [hMc];omega) hpp hpW
  rw [← hR2,hup 2 1 3 (by decide)] at this
  exact this
 have c3 : CallT Tryd.prog 125 [.ptr 0 0,I64 v.fr,I64 16,I64 0,I64 0,I64 0,I64 0,I64 n[8]!] (tnH (MM 3) p (mW m) [R0,R1,R2]) (fun t H'=>t = .tup []∧H' = tnH1 (MM 4) p (mW m) [R0,R1,R2,R3]):=by
  have:=yi (MM 3) p (mW m) v.fr 16 0 0 0 0 n[8]! [R0,R1,R2] (by simp) (by rw [hMc];omega) hpp hpW
  rw [← hR3,hup 3 1 4 (by decide)] at this
  exact this
 refine CallT.intro zc Tryd.func90 rfl (by kernel_rfl) (Nat.le_of_ble_eq_true rfl) ?_;refine yu zc [] [_,_,_,_,_,_,_,_,_,_,_,_,_,_,_,_,_,_,_,_] rfl yj yj ?_;refine za rfl ?_;refine zr rfl rfl rfl rfl rfl y9 zu ?_;refine zm rfl rfl yn ?_;refine za rfl ?_;refine zr rfl rfl rfl rfl rfl y9 zu ?_;refine zm rfl rfl yn ?_;refine za rfl ?_;refine zr rfl rfl rfl rfl rfl y9 zu ?_;refine zm rfl rfl yn ?_;refine za rfl ?_;refine zr rfl rfl rfl rfl rfl y9 zu ?_;refine zm rfl rfl yn ?_;refine za rfl ?_;refine zr rfl rfl rfl rfl rfl y9 zu ?_;refine zm rfl rfl yn ?_;iterate 5 refine za rfl ?_
 iterate 2 refine zb ?_
 refine ze zc [] rfl ?_;iterate 6 refine za rfl ?_
 refine yy zc rfl rfl rfl hlk ?_;iterate 3 refine za rfl ?_
 refine yk rfl rfl ?_;refine zp rfl rfl rfl rfl rfl xf rfl ?_;refine za rfl ?_;refine zb ?_;refine z7 ([(0,.ptr 0 0),(9,.ptr 4 0)]) (tnHf m (mF m) (mW m) [] v) [1,4,5,6,7,8,10] rfl (by refine ⟨[some 0,some 1,some 2,some 3,some 4],rfl,yb,ya,?_,?_⟩ <;> (repeat' first | exact trivial | exact yc | exact yd | exact z9 rfl | refine zn ?_ ?_ | refine zk rfl ?_ ?_ | refine zj ?_ ?_ | refine ye rfl ?_ | fail) <;> first | exact yv | (first | exact yg (Cv.om rfl) (Cv.om rfl) (Cv.slc rfl (.inr rfl)) | exact yg (Cv.om rfl) (Cv.om rfl) (Cv.slc rfl (.inl rfl)) | exact CvL.pure (zg _ _) | exact Cv.ptr rfl | exact CvL.pure rfl | exact Cv.fptr ⟨rfl,(by simp)⟩ (CvL.pure rfl))) ?_
 refine zo ?_;refine ze zc [] rfl ?_;iterate 2 refine za rfl ?_
 refine zb ?_;refine yq rfl ?_;refine zt ?_;refine zo ?_;refine ze zc [] rfl ?_;iterate 3 refine za rfl ?_
 refine zb ?_;refine zi rfl (fun hc1=>?_) (fun hc1=>?_)
 ·(try simp only [zf] at hc1)
  refine yu zc [] [_,_,_,_,_,_] rfl yj yj ?_;iterate 6 refine za rfl ?_
  iterate 2 refine zb ?_
  refine zo ?_;refine ze zc [] rfl ?_;iterate 3 refine za rfl ?_
  refine zb ?_;refine zi rfl (fun hc2=>?_) (fun hc2=>?_)
  ·(try simp only [zf] at hc2)
   refine z4 zc [] rfl ?_;refine za rfl ?_;refine zr rfl rfl rfl rfl rfl y9 zu ?_;refine zm rfl rfl yn ?_;refine za rfl ?_;refine zb ?_;refine zo ?_;refine ze zc [] rfl ?_;iterate 3 refine za rfl ?_
   refine zb ?_;refine zi rfl (fun hc3=>?_) (fun hc3=>?_)
   ·(try simp only [zf] at hc3)
    refine z4 zc [] rfl ?_;refine za rfl ?_;refine zr rfl rfl rfl rfl rfl y9 zu ?_;refine zm rfl rfl yn ?_;refine za rfl ?_;refine zb ?_;refine ze zc [] rfl ?_;iterate 3 refine za rfl ?_
    refine' zx (d:=68) [_,_,_] rfl ?_ rfl ?_
    rotate_left
    ·refine zw rfl rfl (fun hb10_2=>?_) (fun hb10_2=>?_)
     ·have ghb10_2:=hb10_2
      try simp only [zf,Bool.not_true,Bool.not_false] at ghb10_2
      refine za rfl ?_;refine zd rfl rfl hb10_2 ?_;refine za rfl ?_;refine zh rfl (fun _=>rfl) ?_;exact zb ⟨rfl,rfl⟩
     ·refine zl rfl rfl hb10_2 ?_;exact zh rfl (fun h=>absurd (h.symm.trans hb10_2) (by decide)) (zb ⟨rfl,rfl⟩)
    refine za rfl ?_;refine' zx (d:=72) [_,_,_] rfl ?_ rfl ?_
    rotate_left
    ·refine zw rfl rfl (fun hb10_6=>?_) (fun hb10_6=>?_)
     ·have ghb10_6:=hb10_6
      try simp only [zf,Bool.not_true,Bool.not_false] at ghb10_6
      refine za rfl ?_;refine zd rfl rfl hb10_6 ?_;refine za rfl ?_;refine zh rfl (fun _=>rfl) ?_;exact zb ⟨rfl,rfl⟩
     ·refine zl rfl rfl hb10_6 ?_;exact zh rfl (fun h=>absurd (h.symm.trans hb10_6) (by decide)) (zb ⟨rfl,rfl⟩)
    refine za rfl ?_;refine' zx (d:=76) [_,_,_] rfl ?_ rfl ?_
    rotate_left
    ·refine zw rfl rfl (fun hb10_10=>?_) (fun hb10_10=>?_)
     ·have ghb10_10:=hb10_10
      try simp only [zf,Bool.not_true,Bool.not_false] at ghb10_10
      refine za rfl ?_;refine zd rfl rfl hb10_10 ?_;refine za rfl ?_;refine zh rfl (fun _=>rfl) ?_;exact zb ⟨rfl,rfl⟩
     ·refine zl rfl rfl hb10_10 ?_;exact zh rfl (fun h=>absurd (h.symm.trans hb10_10) (by decide)) (zb ⟨rfl,rfl⟩)
    refine zb ?_;refine zi rfl (fun hc4=>?_) (fun hc4=>?_)
    ·(try simp only [zf] at hc4)
     refine ze zc [] rfl ?_;iterate 4 refine za rfl ?_
     refine zq rfl rfl (CallT.frame (c0) [0,1,2,3] rfl z3 z3 ?_)
     rintro _ _ ⟨rfl,rfl⟩;refine frK zy zy ?_;refine zb ?_;refine z7 ([(0,.ptr 0 0),(9,.ptr 5 0)]) (tnH1f (m.up 1) (mF m) (mW m) [R0] v) [4,5,6,7,8,11,12] rfl (by refine ⟨[some 0,some 1,some 2,some 3,some 5,some 4],rfl,yb,ya,?_,?_⟩ <;> (repeat' first | exact trivial | exact yc | exact yd | exact z9 rfl | refine zn ?_ ?_ | refine zk rfl ?_ ?_ | refine zj ?_ ?_ | refine ye rfl ?_ | fail) <;> first | exact yv | (first | exact yg (Cv.om rfl) (Cv.om rfl) (Cv.slc rfl (.inr rfl)) | exact yg (Cv.om rfl) (Cv.om rfl) (Cv.slc rfl (.inl rfl)) | exact CvL.pure (zg _ _) | exact Cv.ptr rfl | exact CvL.pure rfl | exact Cv.fptr ⟨rfl,(by simp)⟩ (CvL.pure rfl))) ?_
     refine ze zc [] rfl ?_;iterate 4 refine za rfl ?_
     refine xg rfl rfl zu ?_;refine za rfl ?_;refine xg rfl rfl zu ?_;refine zq rfl rfl (CallT.frame (c1) [0,1,2,4] rfl z3 z3 ?_)
     rintro _ _ ⟨rfl,rfl⟩;refine frK zy zy ?_;refine zb ?_;refine z7 ([(0,.ptr 0 0),(9,.ptr 5 0)]) (tnH1f (m.up 2) (mF m) (mW m) [R0,R1] v) [4,5,6,7,8,11,12] rfl (by refine ⟨[some 0,some 1,some 2,some 3,some 6,some 5],rfl,yb,ya,?_,?_⟩ <;> (repeat' first | exact trivial | exact yc | exact yd | exact z9 rfl | refine zn ?_ ?_ | refine zk rfl ?_ ?_ | refine zj ?_ ?_ | refine ye rfl ?_ | fail) <;> first | exact yv | (first | exact yg (Cv.om rfl) (Cv.om rfl) (Cv.slc rfl (.inr rfl)) | exact yg (Cv.om rfl) (Cv.om rfl) (Cv.slc rfl (.inl rfl)) | exact CvL.pure (zg _ _) | exact Cv.ptr rfl | exact CvL.pure rfl | exact Cv.fptr ⟨rfl,(by simp)⟩ (CvL.pure rfl))) ?_
     refine ze zc [] rfl ?_;iterate 3 refine za rfl ?_
     refine zp rfl rfl rfl rfl rfl xf rfl ?_;refine za rfl ?_;refine zp rfl rfl rfl rfl rfl xf rfl ?_;refine zb ?_;refine z7 ([(0,.ptr 0 0),(9,.ptr 5 0)]) (tnH1f (m.up 2) (mF m) (mW m) [R0,R1] ⟨v.fr,n[5]!,n[6]!,v.title⟩) [4,5,6,7,8] rfl (by refine ⟨[some 0,some 1,some 2,some 3,some 4,some 5],rfl,yb,ya,?_,?_⟩ <;> (repeat' first | exact trivial | exact yc | exact yd | exact z9 rfl | refine zn ?_ ?_ | refine zk rfl ?_ ?_ | refine zj ?_ ?_ | refine ye rfl ?_ | fail) <;> first | exact yv | (first | exact yg (Cv.om rfl) (Cv.om rfl) (Cv.slc rfl (.inr rfl)) | exact yg (Cv.om rfl) (Cv.om rfl) (Cv.slc rfl (.inl rfl)) | exact CvL.pure (zg _ _) | exact Cv.ptr rfl | exact CvL.pure rfl | exact Cv.fptr ⟨rfl,(by simp)⟩ (CvL.pure rfl))) ?_
     refine wc zc [] [_,_,_,_,_,_,_] rfl yj yj ?_;iterate 6 refine za rfl ?_
     refine za (t:=frT ⟨v.fr,n[5]!,n[6]!,v.title⟩) rfl ?_;refine zb ?_;refine x9 zc rfl rfl rfl rfl rfl rfl rfl rfl (by exact likeF _ _) (keyAt he) ?_;rw [show mapP (kF m.F) ((tF m.F).set i (frT ⟨v.fr,n[5]!,n[6]!,v.title⟩)) = p from (setF he).trans hpe.symm]
     refine zb ?_;refine z7 ([(0,.ptr 0 0),(9,.iptr (frC ⟨v.fr,n[5]!,n[6]!,v.title⟩) 0)]) (tnH1 (MM 2) p (mW m) [R0,R1]) [5,6,7,8] rfl (by refine ⟨[some 0,some 1,some 2,some 3,some 4],rfl,yb,ya,?_,?_⟩ <;> (repeat' first | exact trivial | exact yc | exact yd | exact z9 rfl | refine zn ?_ ?_ | refine zk rfl ?_ ?_ | refine zj ?_ ?_ | refine ye rfl ?_ | fail) <;> first | exact yv | (first | (rw [hMt];exact yg (Cv.om rfl) (Cv.om rfl) (Cv.slc rfl (.inl rfl))) | first | exact yg (Cv.om rfl) (Cv.om rfl) (Cv.slc rfl (.inr rfl)) | exact yg (Cv.om rfl) (Cv.om rfl) (Cv.slc rfl (.inl rfl)) | exact CvL.pure (zg _ _) | exact Cv.ptr rfl | exact CvL.pure rfl | exact Cv.fptr ⟨rfl,(by simp)⟩ (CvL.pure rfl))) ?_
     refine zo ?_;refine ze zc [] rfl ?_;iterate 3 refine za rfl ?_
     refine zb ?_;refine zi rfl (fun hc5=>?_) (fun hc5=>?_)
     ·(try simp only [zf] at hc5)
      refine z4 zc [] rfl ?_;iterate 4 refine za rfl ?_
      refine za (t:=I64 (n[2]! % 4)) (by show some (T.v (.int .i64 (bitV .and .i64 n[2]! 3)),(none : Option (Nat × List T))) = _;rw [h3v]) ?_;iterate 2 refine za rfl ?_
      refine zq rfl rfl (CallT.frame (c2) [0,1,2,4] rfl z3 z3 ?_)
      rintro _ _ ⟨rfl,rfl⟩;refine frK zy zy ?_;refine zb ?_;refine z7 ([(0,.ptr 0 0)]) (tnH1 (MM 3) p (mW m) [R0,R1,R2]) [5,8,9] rfl (by refine ⟨[some 0,some 1,some 2,some 3,some 5],rfl,yb,ya,?_,?_⟩ <;> (repeat' first | exact trivial | exact yc | exact yd | exact z9 rfl | refine zn ?_ ?_ | refine zk rfl ?_ ?_ | refine zj ?_ ?_ | refine ye rfl ?_ | fail) <;> first | exact yv | (first | (rw [hMt,hMt];exact yg (Cv.om rfl) (Cv.om rfl) (Cv.slc rfl (.inr rfl))) | (rw [hMt,hMt];exact yg (Cv.om rfl) (Cv.om rfl) (Cv.slc rfl (.inl rfl))) | first | exact yg (Cv.om rfl) (Cv.om rfl) (Cv.slc rfl (.inr rfl)) | exact yg (Cv.om rfl) (Cv.om rfl) (Cv.slc rfl (.inl rfl)) | exact CvL.pure (zg _ _) | exact Cv.ptr rfl | exact CvL.pure rfl | exact Cv.fptr ⟨rfl,(by simp)⟩ (CvL.pure rfl))) ?_
      refine ze zc [] rfl ?_;iterate 3 refine za rfl ?_
      refine zb ?_;refine zi rfl (fun hc6=>?_) (fun hc6=>?_)
      ·(try simp only [zf] at hc6)
       refine z4 zc [] rfl ?_;iterate 4 refine za rfl ?_
       refine zq rfl rfl (CallT.frame (c3) [0,1,2,4] rfl z3 z3 ?_)
       rintro _ _ ⟨rfl,rfl⟩;refine frK zy zy ?_;refine zb ?_;refine ⟨trivial,_,rfl,rfl,?_⟩;rw [hpe,hMM];rfl
      ·exact absurd (h16.symm.trans hc6) (by decide)
     ·exact absurd (h3.symm.trans hc5) (by decide)
    ·(try simp only [zf] at hc4);have e5 : n[Int.toNat 5]! = n[5]!:=rfl;have e6 : n[Int.toNat 6]! = n[6]!:=rfl;exfalso;omega
   ·exact absurd (h8.symm.trans hc3) (by decide)
  ·exact absurd (h4.symm.trans hc2) (by decide)
 ·exact absurd (h12.symm.trans hc1) (by decide)
theorem conf_t (m : Mg) (n : List Int) (top : Int) (ok : m.Ok top) (htop : top≤1000000) (hn : 9≤n.length) (hm : 0≤n[2]!∧n[2]!≤2147483647) :
  CallT Tryd.prog 90 [.ptr 0 0,cIf n] (tnH m (mF m) (mW m) []) (fun t H'=>t = .tup []∧H' = ranH (m.conf n[1]! n[2]! n[3]! n[4]! n[5]! n[6]! n[7]! n[8]!).1 (m.conf n[1]! n[2]! n[3]! n[4]! n[5]! n[6]! n[7]! n[8]!).2 []):=by
 cases hp : posK m.F n[1]! with
 | none=>exact conf_no m n top ok htop hn hp
 | some i=>
  obtain ⟨v,he⟩:=vn hp
  cases e4 : bit n[2]! 4 <;> cases e8 : bit n[2]! 8 <;> cases eB : confBig v n[2]! n[5]! n[6]! <;> cases eL : (bit n[2]! 1 || bit n[2]! 2) <;> cases e16 : bit n[2]! 16
  ·exact ze4 m n top ok htop hn i v he hp hm e4 e8 eL e16 eB
  ·exact ze3 m n top ok htop hn i v he hp hm e4 e8 eL e16 eB
  ·exact ze2 m n top ok htop hn i v he hp hm e4 e8 eL e16 eB
  ·exact ze1 m n top ok htop hn i v he hp hm e4 e8 eL e16 eB
  ·exact absurd eB (by unfold confBig;rw [e4,e8];simp)
  ·exact absurd eB (by unfold confBig;rw [e4,e8];simp)
  ·exact absurd eB (by unfold confBig;rw [e4,e8];simp)
  ·exact absurd eB (by unfold confBig;rw [e4,e8];simp)
  ·exact ze0 m n top ok htop hn i v he hp hm e4 e8 eL e16 eB
  ·exact zez m n top ok htop hn i v he hp hm e4 e8 eL e16 eB
  ·exact zey m n top ok htop hn i v he hp hm e4 e8 eL e16 eB
  ·exact zex m n top ok htop hn i v he hp hm e4 e8 eL e16 eB
  ·exact zew m n top ok htop hn i v he hp hm e4 e8 eL e16 eB
  ·exact zev m n top ok htop hn i v he hp hm e4 e8 eL e16 eB
  ·exact zeu m n top ok htop hn i v he hp hm e4 e8 eL e16 eB
  ·exact zet m n top ok htop hn i v he hp hm e4 e8 eL e16 eB
  ·exact zes m n top ok htop hn i v he hp hm e4 e8 eL e16 eB
  ·exact zer m n top ok htop hn i v he hp hm e4 e8 eL e16 eB
  ·exact zeq m n top ok htop hn i v he hp hm e4 e8 eL e16 eB
  ·exact zep m n top ok htop hn i v he hp hm e4 e8 eL e16 eB
  ·exact zeo m n top ok htop hn i v he hp hm e4 e8 eL e16 eB
  ·exact zen m n top ok htop hn i v he hp hm e4 e8 eL e16 eB
  ·exact zem m n top ok htop hn i v he hp hm e4 e8 eL e16 eB
  ·exact zel m n top ok htop hn i v he hp hm e4 e8 eL e16 eB
  ·exact zek m n top ok htop hn i v he hp hm e4 e8 eL e16 eB
  ·exact zej m n top ok htop hn i v he hp hm e4 e8 eL e16 eB
  ·exact zei m n top ok htop hn i v he hp hm e4 e8 eL e16 eB
  ·exact zeh m n top ok htop hn i v he hp hm e4 e8 eL e16 eB
  ·exact zeg m n top ok htop hn i v he hp hm e4 e8 eL e16 eB
  ·exact zef m n top ok htop hn i v he hp hm e4 e8 eL e16 eB
  ·exact zee m n top ok htop hn i v he hp hm e4 e8 eL e16 eB
  ·exact zed m n top ok htop hn i v he hp hm e4 e8 eL e16 eB
end

section
open Go.RowKit
set_option maxRecDepth 10000
set_option maxHeartbeats 2000000
theorem zjb (m : Mg) (o : Ot) (top : Int) (ok : m.Ok top) (htop : top≤1000000) (few : o.Few) (hl : o.l.length≤100000) :
  CallP Tryd.prog 31 [mgT m,otT o] (.tup [mgT (m.step o).1,rqN (m.step o).2]):=by
 refine qg m o top ok htop few hl fun M g okM hfM k2 c1 hlk hle=>?_
 have fin : ∀ F : FuncId,(some (T.clo F [] []) : Option T) = some (.clo g [] [])→F = g:=fun F h=>by injection h with h;injection h
 by_cases c2 : o.code = 19
 ·obtain rfl:=fin 90 (by rw [c2] at hlk;exact hlk)
  rw [c2] at hle ⊢
  have hle : 9≤o.n.length:=hle
  exact conf_t M o.n top okM htop hle (few.first k2 (by omega) (by omega))
 by_cases c3 : o.code = 16
 ·obtain rfl:=fin 91 (by rw [c3] at hlk;exact hlk)
  rw [c3] at hle ⊢
  exact zjp M o.n top okM htop hle
 by_cases c4 : o.code = 14
 ·obtain rfl:=fin 92 (by rw [c4] at hlk;exact hlk)
  rw [c4] at hle ⊢
  exact zhd M o.n top okM htop hle
 by_cases c5 : o.code = 20
 ·obtain rfl:=fin 93 (by rw [c5] at hlk;exact hlk)
  rw [c5] at hle ⊢
  have hle : 6≤o.n.length:=hle
  exact zd0 M o.n top okM htop (by omega)
 by_cases c6 : o.code = 10
 ·obtain rfl:=fin 94 (by rw [c6] at hlk;exact hlk)
  rw [c6] at hle ⊢
  exact zir M o.n top okM htop hle
 by_cases c7 : o.code = 3
 ·obtain rfl:=fin 95 (by rw [c7] at hlk;exact hlk)
  rw [c7] at hle ⊢
  exact zj9 M o.n top okM htop hle
 by_cases c8 : o.code = 4
 ·obtain rfl:=fin 96 (by rw [c8] at hlk;exact hlk)
  rw [c8]
  exact zfz M o.n
 by_cases c9 : o.code = 5
 ·obtain rfl:=fin 97 (by rw [c9] at hlk;exact hlk)
  rw [c9] at hle ⊢
  have hle : 9≤o.n.length:=hle
  exact move_t M o.n top okM htop hle (few.at (by omega)) (few.at (by omega))
 rw [zg7 _ c1 c2 c3 c4 c5 c6 c7 c8 c9] at hlk
 injection hlk with hlk
 cases hlk
end

section
open Go.RowKit
set_option maxRecDepth 10000
set_option maxHeartbeats 2000000
theorem zdd (m : Mg) (top : Int) (ok : m.Ok top) (hf : m.fresh = false) (hlen : m.F.length≤60000) :
  CallT Tryd.prog 32 [mgT m] [] (fun t H'=>∃ (ids : List Int) (p : OP),ids.Perm (m.F.map Prod.fst)∧p.pi = true∧t = .slc 1 0 ids.length 1 none∧H' = [.o p,.c (encL cD ids)]):=by
 have hp3:=xn m
 have hp4:=xm m
 have hpF:=pF m.F
 have hpi0 : (iterP none (kF m.F) (tF m.F)).pi = true:=by show (T.pureL (tF m.F) && true) = true;rw [pF];rfl
 have hid:=ok.ids.1
 refine CallT.intro zc Tryd.func32 rfl (by kernel_rfl) (Nat.le_of_ble_eq_true rfl) ?_;refine ze zc [1] rfl ?_;refine yx rfl rfl ?_;refine za rfl ?_;refine zb ?_;refine ze zc [] rfl ?_;refine za rfl ?_;refine zb ?_;refine zo ?_;refine ze zc [] rfl ?_;refine za rfl ?_;refine za (t:=.mp (kF m.F) (tF m.F)) (by show some (mpF m,(none : Option (Nat × List T))) = _;rw [zgh hf]) ?_;refine tg zc rfl rfl rfl (.inl rfl) ?_;refine zb ?_;refine yf ?_;refine vy (σ1:=List (Int × Fr)) (σ2:=List (Int × Fr)) (σ3:=Option (Value × T)) (fun R _ _=>R.length) (fun R D c=>(D ++ R).Perm m.F∧(iterP c (kF R) (tF R)).pi = true) (fun _ D _=>[(7,.ptr 0 0),(3,.slc 1 0 (D.map Prod.fst).length 1 none)]) (fun R D c=>[.o (iterP c (kF R) (tF R)),.c (encL cD (D.map Prod.fst))]) [] rfl (m.F) ([]) (none) ?_ ?_ ?_
 ·refine ⟨[some 0,none],rfl,yb,ya,?_,?_⟩ <;> (repeat' first | exact trivial | exact yc | exact yd | exact z9 rfl | refine zn ?_ ?_ | refine zk rfl ?_ ?_ | refine zj ?_ ?_ | refine ye rfl ?_ | fail) <;> first | exact yv | (skip)
 ·exact ⟨.refl _,hpi0⟩
 rintro R D c ⟨hp,hpi⟩;refine ze zc [] rfl ?_;refine sk rfl rfl (fun hz3=>?_) (fun i3 k3 t3 hk3 ht3=>?_)
 ·have hRn : R = []:=(by simpa using hz3);have hDl : D.length = m.F.length:=(by subst hRn;rw [List.append_nil] at hp;exact hp.length_eq)
  refine za rfl ?_;refine zb ?_;refine zo ?_;refine yq rfl ?_;refine y7 ?_;refine ze zc [] rfl ?_;refine za rfl ?_;refine zq rfl rfl (CallT.frame (zh6 (D.map Prod.fst) (D.map Prod.fst).length rfl (by rw [List.length_map];omega)) [1] rfl z3 z3 ?_)
  rintro _ _ ⟨rfl,ids,hq,rfl⟩;refine frK zy zy ?_;refine zb ?_;refine ze zc [] rfl ?_;iterate 2 refine za rfl ?_
  refine zb ?_;refine yr ?_;exact ⟨trivial,_,rfl,ids,_,hq.trans (by subst hRn;rw [List.append_nil] at hp;exact hp.map _),hpi,by rw [hq.length_eq],rfl⟩
 ·obtain ⟨e,he,rfl⟩:=zgu hk3;obtain rfl:=zjt he ht3;rw [show (kF R).eraseIdx i3 = kF (R.eraseIdx i3) from (xp _ _ _).symm,show (tF R).eraseIdx i3 = tF (R.eraseIdx i3) from (xp _ _ _).symm]
  have hlen2 : (R.eraseIdx i3).length < R.length:=(by have:=(List.getElem?_eq_some_iff.1 he).1;rw [List.length_eraseIdx_of_lt this];omega)
  have hpi1 : (iterP (some (Value.int .i64 e.1,frT e.2)) (kF (R.eraseIdx i3)) (tF (R.eraseIdx i3))).pi = true:=(by show (T.pureL (tF _) && true) = true;rw [pF];rfl)
  have hie:=hid e (hp.subset (List.mem_append_right _ (v4 he)))
  have hDl : (D ++ R).length = m.F.length:=hp.length_eq
  have hDl2 : D.length≤60000:=(by rw [List.length_append] at hDl;omega)
  refine za rfl ?_;refine zb ?_;refine zo ?_;refine xv rfl ?_;refine zt ?_;refine yf ?_;refine ze zc [] rfl ?_;refine ri rfl rfl ?_;iterate 2 refine za rfl ?_
  refine zb ?_;refine z4 zc [15] rfl ?_;iterate 2 refine za rfl ?_
  refine za (t:=D32 e.1) (by show some (T.v (.int .u32 (IntKind.u32.wrap e.1)),(none : Option (Nat × List T))) = _;rw [zcv zu]) ?_;refine yx rfl rfl ?_;refine u4 (ys:=[D32 e.1]) (n2:=1) rfl rfl rfl rfl rfl rfl rfl rfl (by rw [xa,ziy];omega) (by rw [List.length_map];show (D.length + 1) * 4≤_;omega) (by rw [List.length_map];omega) rfl rfl ?_;refine za rfl ?_;refine zb ?_;refine ⟨R.eraseIdx i3,D ++ [e],some (Value.int .i64 e.1,frT e.2),by (try dsimp only);omega,?_,(by refine ⟨[some 0,some 2],rfl,yb,ya,?_,?_⟩ <;> (repeat' first | exact trivial | exact yc | exact yd | exact z9 rfl | refine zn ?_ ?_ | refine zk rfl ?_ ?_ | refine zj ?_ ?_ | refine ye rfl ?_ | fail) <;> first | exact yv | (first | exact Cv.slcE rfl (by simp) (.inl rfl) | exact CvL.eq (by rw [List.map_append,wy,List.drop_zero,List.take_of_length_le (by rw [xa,ziy];omega)];rfl) (zg _ _)))⟩
  exact ⟨qt he hp,hpi1⟩
end

section
open Go.RowKit
set_option maxRecDepth 10000
set_option maxHeartbeats 2000000
instance : Inhabited Ot:=⟨⟨0,0,0,[],[],[]⟩⟩
def cOt : Cd Ot:=⟨6,otC,fun _=>rfl,x8,fun _=>rfl,by decide⟩
abbrev otsT (l : List Ot) : T:=.islc (encL cOt l) l.length none
def otN (o : Ot) : Nat:=1 + o.n.length + o.l.length + o.b.length
def otsN : List Ot→Nat
 | []=>0
 | o :: l=>otN o + otsN l
theorem zc4 (a b : List Ot) : otsN (a ++ b) = otsN a + otsN b:=by
 induction a with
 | nil=>simp [otsN]
 | cons o a ih=>simp only [List.cons_append,otsN,ih];omega
theorem zf8 (l : List Ot) (k : Nat) : otsN (l.take k)≤otsN l:=by
 have:=zc4 (l.take k) (l.drop k)
 rw [List.take_append_drop] at this
 omega
theorem zav {l : List Ot} {o : Ot} (h : o∈l) : otN o≤otsN l:=by
 induction l with
 | nil=>cases h
 | cons x l ih=>
  rcases List.mem_cons.1 h with rfl | h
  ·simp only [otsN];omega
  ·have:=ih h;simp only [otsN];omega
theorem zaw (l : List Ot) : l.length≤otsN l:=by
 induction l with
 | nil=>simp [otsN]
 | cons x l ih=>simp only [otsN,otN,List.length_cons];omega
def posB2 (o : Ot) : Bool:=(o.n.take (min 3 o.n.length)).all fun k=>!(o.kind == 2 && decide (k < 0))
def rngB (o : Ot) : Bool:=(o.n ++ o.l).all fun k=>!(decide (k < -2147483648) || decide (k > 2147483647))
def fewO (o : Ot) : Bool:=posB2 o && rngB o
def fewL (l : List Ot) : Bool:=l.all fewO && decide ((otsN l : Int)≤2000)
theorem zdh {o : Ot} (h : fewO o = true) : o.Few:=by
 unfold fewO posB2 rngB at h
 simp only [Bool.and_eq_true,List.all_eq_true,Bool.not_eq_true',Bool.and_eq_false_iff,Bool.or_eq_false_iff,decide_eq_false_iff_not,beq_eq_false_iff_ne] at h
 refine ⟨fun v hv=>?_,fun v hv=>?_,fun k v hv=>?_⟩
 ·have:=h.2 v (List.mem_append_left _ hv);unfold r32;omega
 ·have:=h.2 v (List.mem_append_right _ hv);unfold r32;omega
 ·have hm : v∈o.n.take (min 3 o.n.length):=by
   rcases Nat.le_total 3 o.n.length with h3 | h3
   ·rwa [Nat.min_eq_left h3]
   ·rw [Nat.min_eq_right h3];rw [List.take_of_length_le h3] at hv;rwa [List.take_of_length_le (Nat.le_refl _)]
  have:=h.1 v hm
  omega
theorem zdr {α : Type} [Inhabited α] {l : List α} {p : α→Bool} {i : Nat} (hi : i < l.length) (h : p l[i]! = false) : l.all p = false:=by
 rw [List.all_eq_false]
 exact ⟨l[i]!,List.mem_iff_getElem?.2 ⟨i,getE hi⟩,by rw [h];simp⟩
theorem zcr {α : Type} [Inhabited α] {l : List α} {p : α→Bool} (h : ∀ j : Nat,j < l.length→p l[j]! = true) : l.all p = true:=by
 rw [List.all_eq_true]
 intro x hx
 obtain ⟨j,hj,rfl⟩:=List.mem_iff_getElem.1 hx
 have:=h j hj
 rwa [getElem!_pos l j hj] at this
theorem pos_t {k a : Int} (h : k = 2∧a < 0) : (!(k == 2 && decide (a < 0))) = false:=by simp [h.1,h.2]
theorem pos_f {k a : Int} (h : k = 2→0≤a) : (!(k == 2 && decide (a < 0))) = true:=by
 by_cases q : k = 2
 ·have:=h q
  simp [q];omega
 ·simp [q]
theorem rng_t {a : Int} (h : a < -2147483648∨2147483647 < a) : (!(decide (a < -2147483648) || decide (a > 2147483647))) = false:=by simp;omega
theorem rng_f {a : Int} (h : -2147483648≤a∧a≤2147483647) : (!(decide (a < -2147483648) || decide (a > 2147483647))) = true:=by simp;omega
theorem cat_eq (a b : List Int) : List.take ((0 + a.length) * 1) (List.drop 0 (List.take (0 * 1) (List.drop 0 []) ++ encL cI a)) ++ encL cI b = encL cI (a ++ b):=by
 rw [wy,Nat.zero_add,Nat.mul_one,List.drop_zero,List.drop_zero,List.take_nil,List.nil_append,List.take_of_length_le (by rw [xa,zbc];omega)]
theorem few_p (l : List Ot) (hl : otsN l≤4000000) : CallP Tryd.prog 29 [otsT l] (BL (fewL l)):=by
 have hln:=zaw l
 refine CallP.intro2 yw yw ?_;refine CallT.intro zc Tryd.func29 rfl (by kernel_rfl) (Nat.le_of_ble_eq_true rfl) ?_;refine ze zc [] rfl ?_;refine za rfl ?_;refine zb ?_;refine ze zc [] rfl ?_;refine za rfl ?_;refine zb ?_;refine zo ?_;refine ze zc [] rfl ?_;iterate 3 refine za rfl ?_
 refine zb ?_;refine yf ?_;refine xo (σ:=Nat) (fun k=>l.length - k) (fun k=>k≤l.length∧∀ j : Nat,j < k→fewO l[j]! = true) (fun k=>[(12,I64 k),(3,I64 (otsN (l.take k))),(10,otsT l)]) (fun _=>[]) [11] rfl (0) ?_ ?_ ?_
 ·refine ⟨[],rfl,yb,ya,?_,?_⟩ <;> (repeat' first | exact trivial | exact yc | exact yd | exact z9 rfl | refine zn ?_ ?_ | refine zk rfl ?_ ?_ | refine zj ?_ ?_ | refine ye rfl ?_ | fail) <;> first | exact yv | (skip)
 ·exact ⟨by omega,fun j hj=>absurd hj (Nat.not_lt_zero _)⟩
 rintro k ⟨hk,hinv⟩;refine ze zc [] rfl ?_;refine za rfl ?_;refine zb ?_;refine zo ?_;refine zi rfl (fun hc0=>?_) (fun hc0=>?_)
 ·(try simp only [zf] at hc0);have hkl : k < l.length:=(by omega);have hmem : l[k]!∈l:=List.mem_iff_getElem?.2 ⟨k,getE hkl⟩;have hon:=zav hmem;have hpo:=x8 l[k]!;have htk : otsN (l.take (k + 1)) = otsN (l.take k) + otN l[k]!:=(by rw [List.take_add_one,List.getElem?_eq_getElem hkl,zc4,getElem!_pos l k hkl];simp [otsN]);have htl:=zf8 l (k + 1)
  generalize ho : l[k]! = o at *
  have hoN : otN o = 1 + o.n.length + o.l.length + o.b.length:=rfl
  refine zt ?_;refine zo ?_;refine yf ?_;refine ze zc [] rfl ?_;refine zr rfl rfl rfl rfl rfl rfl zu ?_;refine zm rfl rfl yn ?_;refine yk rfl rfl ?_;refine zp rfl rfl rfl rfl rfl xf rfl ?_;refine zb ?_;refine z7 ([(5,.iptr (otC o) 0)]) ([]) [3,10,11,12] rfl (by refine ⟨[],rfl,yb,ya,?_,?_⟩ <;> (repeat' first | exact trivial | exact yc | exact yd | exact z9 rfl | refine zn ?_ ?_ | refine zk rfl ?_ ?_ | refine zj ?_ ?_ | refine ye rfl ?_ | fail) <;> first | exact yv | (exact Cv.fptr ⟨rfl,(by simp)⟩ (CvL.eq (by rw [← ho];rfl) hpo))) ?_
  refine ze zc [] rfl ?_;iterate 4 refine za rfl ?_
  refine ym (a:=1) rfl rfl zu ?_;iterate 3 refine za rfl ?_
  refine ym rfl rfl zu ?_;iterate 2 refine za rfl ?_
  refine za (t:=I64 (o.b.length : Nat)) rfl ?_;refine ym rfl rfl zu ?_;refine ym rfl rfl zu ?_;refine za rfl ?_;refine zb ?_;refine zo ?_;refine ze zc [] rfl ?_;iterate 5 refine za rfl ?_
  refine zbd rfl rfl ?_;rw [show min (3 : Int) (o.n.length : Int) = ((min 3 o.n.length : Nat) : Int) from by omega]
  refine zdt rfl rfl rfl rfl rfl (by first | rfl | exact (Int.toNat_of_nonneg zu).symm) zu ?_;iterate 2 refine za rfl ?_
  refine zb ?_;refine yf ?_;refine xo (σ:=Nat) (fun i=>min 3 o.n.length - i) (fun i=>i≤min 3 o.n.length∧∀ j : Nat,j < i→(!(o.kind == 2 && decide ((o.n.take (min 3 o.n.length))[j]! < 0))) = true) (fun i=>[(38,I64 i)]) (fun _=>[]) [3,5,10,11,12,36,37] rfl (0) ?_ ?_ ?_
  ·refine ⟨[],rfl,yb,ya,?_,?_⟩ <;> (repeat' first | exact trivial | exact yc | exact yd | exact z9 rfl | refine zn ?_ ?_ | refine zk rfl ?_ ?_ | refine zj ?_ ?_ | refine ye rfl ?_ | fail) <;> first | exact yv | (skip)
  ·exact ⟨by omega,fun j hj=>absurd hj (Nat.not_lt_zero _)⟩
  rintro i ⟨hi,hinv1⟩;refine ze zc [] rfl ?_;refine za rfl ?_;refine zb ?_;refine zo ?_;refine zi rfl (fun hc1=>?_) (fun hc1=>?_)
  ·(try simp only [zf] at hc1);have hil : i < min 3 o.n.length:=(by omega);have hgt : (o.n.take (min 3 o.n.length))[i]! = o.n[i]!:=(by rw [getElem!_pos _ i (by rw [List.length_take];omega),getElem!_pos o.n i (by omega),List.getElem_take])
   refine zt ?_;refine zo ?_;refine yf ?_;refine ze zc [] rfl ?_;refine zr rfl rfl rfl rfl rfl rfl zu ?_;refine zm rfl rfl yn ?_;refine za rfl ?_;refine zb ?_;refine ze zc [] rfl ?_;iterate 4 refine za rfl ?_
   refine' zx (d:=48) [_,_,_] rfl ?_ rfl ?_
   rotate_left
   ·refine zw rfl rfl (fun hb9_3=>?_) (fun hb9_3=>?_)
    ·have ghb9_3:=hb9_3
     try simp only [zf,Bool.not_true,Bool.not_false] at ghb9_3
     refine za rfl ?_;refine zd rfl rfl hb9_3 ?_;refine za rfl ?_;refine zh rfl (fun _=>rfl) ?_;exact zb ⟨rfl,rfl⟩
    ·refine zl rfl rfl hb9_3 ?_;exact zh rfl (fun h=>absurd (h.symm.trans hb9_3) (by decide)) (zb ⟨rfl,rfl⟩)
   refine zb ?_;refine zi rfl (fun hc2=>?_) (fun hc2=>?_)
   ·(try simp only [zf] at hc2)
    refine ze zc [] rfl ?_;refine za rfl ?_;refine zb ?_;refine yr ?_;exact ⟨trivial,_,rfl,Cv.eq (congrArg BL (by symm;unfold fewL;rw [zdr hkl (by rw [ho];unfold fewO posB2;rw [zdr (i:=i) (by rw [List.length_take];omega) (by rw [hgt];exact pos_t hc2)];rfl)];rfl)) rfl⟩
   ·(try simp only [zf] at hc2)
    refine zt ?_;refine z4 zc [] rfl ?_;refine ym (b:=1) rfl rfl zu ?_;refine za rfl ?_;refine zb ?_;refine ⟨i + 1,by (try dsimp only);omega,?_,(by refine ⟨[],rfl,yb,ya,?_,?_⟩ <;> (repeat' first | exact trivial | exact yc | exact yd | exact z9 rfl | refine zn ?_ ?_ | refine zk rfl ?_ ?_ | refine zj ?_ ?_ | refine ye rfl ?_ | fail) <;> first | exact yv | (exact Cv.pure rfl))⟩
    exact ⟨by omega,fun j hj=>by rcases (show j < i∨j = i by omega) with q | rfl;exact hinv1 j q;rw [hgt];exact pos_f hc2⟩
  ·(try simp only [zf] at hc1)
   refine y7 ?_;refine ug zc [] [_,_,_,_,_,_,_,_,_] ([]) [true,false,false,true,false,false,true,false,false] rfl yj yj yj (by repeat' first | exact xe | refine xc ?_ | refine y8 ?_) ?_;refine qd rfl rfl (by repeat' first | exact xe | refine xc ?_ | refine y8 ?_) ?_;refine yp rfl ?_;refine yp rfl ?_;refine pt rfl rfl rfl rfl rfl rfl (zjz cI (l:=o.n) rfl rfl rfl rfl) rfl (by first | rfl | exact Nat.le_refl _ | simp) (Nat.le_trans (Nat.mul_le_mul_right _ (show 0 + o.n.length≤4000000 by omega)) (by decide)) zu (by rw [xa];first | rfl | simp) (za9 cI _) xe ?_;refine yp rfl ?_;refine yp rfl ?_;refine pt rfl rfl rfl rfl rfl rfl (zjz cI (l:=o.l) rfl rfl rfl rfl) rfl (by simp [xa,zbc]) (Nat.le_trans (Nat.mul_le_mul_right _ (show 0 + o.n.length + o.l.length≤4000000 by omega)) (by decide)) zu (by rw [xa];first | rfl | simp) (za9 cI _) xe ?_;refine yp rfl ?_;refine yp rfl ?_;refine tt ?_;refine zb ?_;refine z7 ([(56,.islc (encL cI (o.n ++ o.l)) (o.n ++ o.l).length none),(57,I64 (o.n ++ o.l).length)]) ([]) [3,10,11,12,58] rfl (by refine ⟨[],rfl,yb,ya,?_,?_⟩ <;> (repeat' first | exact trivial | exact yc | exact yd | exact z9 rfl | refine zn ?_ ?_ | refine zk rfl ?_ ?_ | refine zj ?_ ?_ | refine ye rfl ?_ | fail) <;> first | exact yv | (first | exact Cv.eq (congrArg I64 (by simp)) rfl | (show Cv _ (.slc _ 0 (0 + o.n.length + o.l.length) 1 none) _;rw [show 0 + o.n.length + o.l.length = (o.n ++ o.l).length from by simp];exact Cv.fslc0 ⟨rfl,(by simp)⟩ (CvL.eq (cat_eq o.n o.l) (zg _ _))))) ?_
   refine yf ?_;refine xo (σ:=Nat) (fun i=>(o.n ++ o.l).length - i) (fun i=>i≤(o.n ++ o.l).length∧∀ j : Nat,j < i→(!(decide ((o.n ++ o.l)[j]! < -2147483648) || decide ((o.n ++ o.l)[j]! > 2147483647))) = true) (fun i=>[(58,I64 i)]) (fun _=>[]) [3,10,11,12,56,57] rfl (0) ?_ ?_ ?_
   ·refine ⟨[],rfl,yb,ya,?_,?_⟩ <;> (repeat' first | exact trivial | exact yc | exact yd | exact z9 rfl | refine zn ?_ ?_ | refine zk rfl ?_ ?_ | refine zj ?_ ?_ | refine ye rfl ?_ | fail) <;> first | exact yv | (skip)
   ·exact ⟨by omega,fun j hj=>absurd hj (Nat.not_lt_zero _)⟩
   rintro i2 ⟨hi2,hinv2⟩;refine ze zc [] rfl ?_;refine za rfl ?_;refine zb ?_;refine zo ?_;refine zi rfl (fun hc3=>?_) (fun hc3=>?_)
   ·(try simp only [zf] at hc3);have hil2 : i2 < (o.n ++ o.l).length:=(by omega);have hll : (o.n ++ o.l).length = o.n.length + o.l.length:=List.length_append
    refine zt ?_;refine zo ?_;refine yf ?_;refine ze zc [] rfl ?_;refine zr rfl rfl rfl rfl rfl rfl zu ?_;refine zm rfl rfl yn ?_;refine za rfl ?_;refine zb ?_;refine ze zc [] rfl ?_;iterate 3 refine za rfl ?_
    refine' zx (d:=67) [_,_,_] rfl ?_ rfl ?_
    rotate_left
    ·refine zw rfl rfl (fun hb15_2=>?_) (fun hb15_2=>?_)
     ·have ghb15_2:=hb15_2
      try simp only [zf,Bool.not_true,Bool.not_false] at ghb15_2
      refine za rfl ?_;refine zd rfl rfl hb15_2 ?_;refine za rfl ?_;refine yz rfl (fun _=>rfl) ?_;exact zb ⟨rfl,rfl⟩
     ·refine zl rfl rfl hb15_2 ?_;exact yz rfl (fun h=>absurd (h.symm.trans hb15_2) (by decide)) (zb ⟨rfl,rfl⟩)
    refine zb ?_;refine zi rfl (fun hc4=>?_) (fun hc4=>?_)
    ·(try simp only [zf] at hc4)
     refine ze zc [] rfl ?_;refine za rfl ?_;refine zb ?_;refine yr ?_;exact ⟨trivial,_,rfl,Cv.eq (congrArg BL (by symm;unfold fewL;rw [zdr hkl (by rw [ho];unfold fewO rngB;rw [zdr hil2 (rng_t hc4),Bool.and_false])];rfl)) rfl⟩
    ·(try simp only [zf] at hc4)
     refine zt ?_;refine z4 zc [] rfl ?_;refine ym (b:=1) rfl rfl zu ?_;refine za rfl ?_;refine zb ?_;refine ⟨i2 + 1,by (try dsimp only);omega,?_,(by refine ⟨[],rfl,yb,ya,?_,?_⟩ <;> (repeat' first | exact trivial | exact yc | exact yd | exact z9 rfl | refine zn ?_ ?_ | refine zk rfl ?_ ?_ | refine zj ?_ ?_ | refine ye rfl ?_ | fail) <;> first | exact yv | (exact Cv.pure rfl))⟩
     exact ⟨by omega,fun j hj=>by rcases (show j < i2∨j = i2 by omega) with q | rfl;exact hinv2 j q;exact rng_f hc4⟩
   ·(try simp only [zf] at hc3)
    refine y7 ?_;refine z4 zc [] rfl ?_;refine ym (b:=1) rfl rfl zu ?_;refine za rfl ?_;refine zb ?_;refine ⟨k + 1,by (try dsimp only);omega,?_,(by refine ⟨[],rfl,yb,ya,?_,?_⟩ <;> (repeat' first | exact trivial | exact yc | exact yd | exact z9 rfl | refine zn ?_ ?_ | refine zk rfl ?_ ?_ | refine zj ?_ ?_ | refine ye rfl ?_ | fail) <;> first | exact yv | (first | exact Cv.pure (by simp only [T.pure,zg]) | exact Cv.eq (congrArg I64 (by omega)) rfl))⟩
    exact ⟨by omega,fun j hj=>by rcases (show j < k∨j = k by omega) with q | rfl;exact hinv j q;rw [ho];unfold fewO posB2 rngB;rw [zcr (fun j hj=>hinv1 j (by rw [List.length_take] at hj;omega)),zcr (fun j hj=>hinv2 j (by omega))];rfl⟩
 ·(try simp only [zf] at hc0)
  refine y7 ?_;refine ze zc [] rfl ?_;iterate 3 refine za rfl ?_
  refine zb ?_;refine yr ?_;exact ⟨trivial,_,rfl,Cv.eq (congrArg BL (by unfold fewL;rw [zcr (fun j hj=>hinv j (by omega)),show k = l.length from by omega,List.take_length];rfl)) rfl⟩
end

section
open Go.RowKit
set_option maxRecDepth 10000
set_option maxHeartbeats 2000000
/- what is asked is short -/
def okR (l : List Rq) : Prop:=l.length≤7∧∀ r∈l,r.n.length≤9
theorem wo : okR []:=⟨by simp,fun r h=>by cases h⟩
theorem zd4 (m : Mg) (id : Int) (k : Wt) (row : List Int) : okR (m.manage id k row).2:=by
 unfold Mg.manage
 split
 ·exact wo
 ·split
  ·exact ⟨by simp,fun r h=>by simp only [List.mem_singleton] at h;subst h;simp [rq]⟩
  ·refine ⟨by simp,fun r h=>?_⟩
   simp only [List.mem_cons,List.not_mem_nil,or_false] at h
   rcases h with rfl | rfl | rfl | rfl | rfl | rfl | rfl <;> simp [rq,Mg.draw]
theorem zd3 (m : Mg) (s : Int) (row : List Int) : okR (m.titled s row).2:=by
 unfold Mg.titled
 split
 ·exact zd4 _ _ _ _
 ·exact wo
theorem sd {r : Rq} (h : r.n.length≤9) : okR [r]:=⟨by simp,fun x hx=>by simp only [List.mem_singleton] at hx;subst hx;exact h⟩
theorem zga {r s : Rq} (h : r.n.length≤9) (k : s.n.length≤9) : okR [r,s]:=⟨by simp,fun x hx=>by
 simp only [List.mem_cons,List.not_mem_nil,or_false] at hx
 rcases hx with rfl | rfl
 ·exact h
 ·exact k⟩
theorem zgb (f : Fr) (id mask x y w h mode : Int) : okR (confA f id mask x y w h mode):=by
 refine ⟨Nat.le_trans (zbz f id mask x y w h mode) (by decide),fun r hr=>?_⟩
 unfold confA at hr
 simp only [List.mem_append] at hr
 rcases hr with (hr | hr) | hr <;> split at hr <;> simp only [List.mem_cons,List.not_mem_nil,or_false] at hr
 ·rcases hr with rfl | rfl <;> simp [rq]
 ·subst hr;simp [rq]
 ·subst hr;simp [rq]
theorem okR_ev (m : Mg) (c : Int) (n : List Int) : okR (m.ev c n).2:=by
 unfold Mg.ev
 split
 ·unfold Mg.mapReq
  split
  ·exact zga (by simp [rq]) (by simp [rq])
  ·split
   ·exact wo
   ·exact zga (by simp [rq]) (by simp [rq])
 split
 ·unfold Mg.conf
  split
  ·exact sd (by simp [rq])
  ·exact zgb _ _ _ _ _ _ _ _
 split
 ·unfold Mg.unmap
  split
  ·exact sd (by simp [rq])
  ·exact wo
 split
 ·unfold Mg.destroy
  split
  ·exact sd (by simp [rq])
  ·exact wo
 split
 ·unfold Mg.reparent
  split
  ·split
   ·exact wo
   ·exact sd (by simp [rq])
  ·exact wo
 split
 ·unfold Mg.expose
  split
  ·split
   ·exact sd (by simp [Mg.draw])
   ·exact wo
  ·exact wo
 split
 ·unfold Mg.press
  split
  ·exact sd (by simp [rq])
  ·exact wo
 split
 ·exact wo
 split
 ·unfold Mg.move
  split
  ·exact sd (by simp [rq])
  ·exact wo
 ·exact wo
theorem zc8 (m : Mg) (o : Ot) : okR (m.step o).2:=by
 unfold Mg.step
 dsimp only
 split
 ·exact wo
 split
 ·split
  ·exact wo
  ·split
   ·exact zd3 _ _ _
   ·exact wo
 split
 ·split
  ·exact okR_ev _ _ _
  ·exact wo
 ·exact wo
theorem zgz (m : Mg) (o : Ot) : (m.step o).1.fresh = false:=by
 unfold Mg.step
 dsimp only
 split
 ·exact zah _ _
 split
 ·split
  ·exact zdf _ _ _ _
  ·split
   ·exact zbv _ _ _
   ·rfl
 split
 ·split
  ·exact fr_ev _ _ _
  ·rfl
 ·rfl
end

section
open Go.ChangeShapes Go.WideShapes Go.ChangeAt Go.RowKit Go.WideElems
mutual
def tB : T→Nat
 | .v (.string s)=>s.size + 1
 | .islc cs _ _=>tBL cs + 1
 | _=>1
def tBL : List T→Nat
 | []=>0
 | t :: l=>tB t + tBL l
end
theorem zar : ∀ a b : List T,tBL (a ++ b) = tBL a + tBL b
 | [],b=>by simp [tBL]
 | t :: a,b=>by simp only [List.cons_append,tBL,zar a b];omega
mutual
def wD {H : Type} : DataW H→Nat
 | .lit (.string bytes)=>bytes.length + 1
 | .slice elems _=>wDL elems + 1
 | .agg parts=>wDL parts + 1
 | _=>1
def wDL {H : Type} : List (DataW H)→Nat
 | []=>0
 | d :: l=>wD d + wDL l
end
section
variable {H : Type} {enc : TypeId × Value→H} {P : Program} {W : World} {sp : Nat→Bool} {held : Bool} {β : Nat→Option (Option (Nat × Nat))}
mutual
theorem zay : ∀ (s : Sh) {t : TypeId} {fuel : Nat} {cs : List Value} {x : DataW H × List MemPlace},s.fits P t = true→DataW.trod enc P W 0 sp held fuel t cs = some x→cs.length = P.cellsOf t→∃ ts,RepL (inW β W) ts cs∧s.wt ts∧tBL ts≤wD x.1
 | .int k,t,fuel,cs,x,hs,h,hl=>by
  unfold Sh.fits at hs
  split at hs
  ·rename_i k' hu
   obtain rfl : k' = k:=of_decide_eq_true hs
   obtain ⟨n,rfl,rfl,hw⟩:=DataW.trod_int hu h
   exact ⟨[.v (.int k' n)],⟨_,_,rfl,rfl,rfl⟩,⟨n,rfl,hw⟩,by simp [tBL,tB,wD]⟩
  ·cases hs
 | .bool,t,fuel,cs,x,hs,h,hl=>by
  unfold Sh.fits at hs
  split at hs
  ·rename_i hu
   obtain ⟨b,rfl,rfl⟩:=DataW.trod_bool hu h
   exact ⟨[.v (.bool b)],⟨_,_,rfl,rfl,rfl⟩,⟨b,rfl⟩,by simp [tBL,tB,wD]⟩
  ·cases hs
 | .str,t,fuel,cs,x,hs,h,hl=>by
  unfold Sh.fits at hs
  split at hs
  ·rename_i hu
   obtain ⟨s,rfl,rfl,hw⟩:=DataW.trod_string hu h
   exact ⟨[.v (.string s)],⟨_,_,rfl,rfl,rfl⟩,⟨s,rfl,hw⟩,by simp [tBL,tB,wD]⟩
  ·cases hs
 | .st l,t,fuel,cs,x,hs,h,hl=>by
  unfold Sh.fits at hs
  split at hs
  ·rename_i fs hu
   obtain ⟨xs,n,-,rfl,hc,hx,hf⟩:=DataW.trod_struct hu h
   obtain ⟨ts,h1,h2,h3⟩:=zbq l (fs:=fs.toList) (o:=0) (n:=P.cellsOf t) (cs:=cs) (m:=n) (xs:=xs) hs hc (by simpa using hx) (fun i f hi=>hf i f (by simpa using hi))
   rw [List.drop_zero] at h1
   exact ⟨ts,h1,h2,by simp only [wD];omega⟩
  ·cases hs
 | .sl e,t,fuel,cs,x,hs,h,hl=>by
  unfold Sh.fits at hs
  split at hs
  ·rename_i u hu
   simp only [Bool.and_eq_true,decide_eq_true_eq] at hs
   obtain ⟨hs,-⟩:=hs
   rcases DataW.trod_slice hu h with ⟨rfl,rfl⟩ | ⟨a,len,cap,elems,rest,m,-,rfl,rfl,-,hle,hcap,hlen,hel,-,-⟩
   ·exact ⟨[.islc [] 0 none],⟨_,_,rfl,⟨none,0,rfl,Nat.le_refl _,Nat.zero_le _,fun q hq=>(by cases hq),.inl ⟨rfl,rfl⟩⟩,rfl⟩,⟨[],0,rfl,Nat.zero_le _,rfl⟩,by simp [tBL,tB,wD]⟩
   ·by_cases hn : len = 0
    ·subst hn
     exact ⟨[.islc [] 0 none],⟨_,_,rfl,⟨some a,cap,rfl,Nat.zero_le _,hcap,fun q hq=>(by cases hq),.inl ⟨rfl,rfl⟩⟩,rfl⟩,⟨[],0,rfl,Nat.zero_le _,rfl⟩,by simp [tBL,tB,wD]⟩
    ·have h0:=hel 0 (by omega)
     have hsome : ∀ i (hi : i < len),∃ cs',W.cells? 0 (a.add (i * P.cellsOf u)) (P.cellsOf u) = some cs'∧DataW.trod enc P W 0 sp held m u cs' = some (elems[i]'(by omega)):=fun i hi=>by
      have hq:=hel i hi
      rw [List.getElem?_eq_getElem (by omega),Option.bind_eq_some_iff] at hq
      obtain ⟨cs',h1,h2⟩:=hq
      exact ⟨cs',h1,h2⟩
     obtain ⟨ab,ao,asx⟩:=a
     obtain ⟨cs0,c1,-⟩:=hsome 0 (by omega)
     obtain ⟨-,c2,c3⟩:=World.cells?_some c1
     have c4:=c3 0 hs.2
     rw [List.getElem?_eq_getElem (by omega)] at c4
     have hspot : asx = none:=by simpa [Addr.add] using World.cell?_spot c4
     subst hspot
     rw [zb6,zb6] at c4
     obtain ⟨arr,e1,f1,hB⟩:=zam c4
     have build : ∀ n i,i + n≤len→∃ xs,nth e.wt n xs∧RepA (inW β W) xs arr (ao + i * P.cellsOf u)∧tBL xs≤wDL ((elems.map (·.1)).drop i):=by
      intro n
      induction n with
      | zero=>exact fun i _=>⟨[],rfl,trivial,by simp [tBL]⟩
      | succ n ih=>
       intro i hi
       obtain ⟨xs,k1,k2,k3⟩:=ih (i + 1) (by omega)
       obtain ⟨cs',g1,g2⟩:=hsome i (by omega)
       obtain ⟨-,g3,g4⟩:=World.cells?_some g1
       obtain ⟨ts,r1,r2,r3⟩:=zay e hs.1 g2 g3
       have hlen' : ts.length = P.cellsOf u:=by rw [← r1.length,g3]
       refine ⟨ts ++ xs,⟨ts,xs,rfl,r2,k1⟩,RepA.app (ub fun j tj hj=>?_) (by rw [hlen',Nat.add_assoc,← Nat.succ_mul];exact k2),?_⟩
       ·obtain ⟨uj,q1,q2⟩:=r1.get j tj hj
        have hjl : j < P.cellsOf u:=by rw [← g3];exact (List.getElem?_eq_some_iff.1 q1).1
        refine ⟨uj,?_,q2⟩
        rw [← q1,← g4 j hjl,zb6,zb6,zdm hB]
       ·rw [zar,List.drop_eq_getElem_cons (by rw [List.length_map];omega),List.getElem_map]
        simp only [wDL]
        omega
     obtain ⟨xs,k1,k2,k3⟩:=build len 0 (by omega)
     rw [Nat.zero_mul,Nat.add_zero] at k2
     rw [List.drop_zero] at k3
     refine ⟨[.islc xs len none],⟨_,_,rfl,⟨_,cap,rfl,hle,hcap,fun q hq=>(by cases hq),.inr ⟨ab,ao,arr,rfl,⟨fun hx=>hx,e1,f1,hB⟩,k2⟩⟩,rfl⟩,⟨xs,len,rfl,by omega,k1⟩,?_⟩
     simp only [tBL,tB,wD]
     omega
  ·cases hs
theorem zbq : ∀ (l : List Sh) {fs : List Field} {o n m : Nat} {cs : List Value} {xs : List (DataW H × List MemPlace)},Sh.fitsL P l fs o n = true→cs.length = n→xs.length = fs.length→(∀ (i : Nat) (f : Field),fs[i]? = some f→DataW.trod enc P W 0 sp held m f.type ((cs.drop f.offset).take (P.cellsOf f.type)) = xs[i]?)→∃ ts,RepL (inW β W) ts (cs.drop o)∧Sh.wtL l ts∧tBL ts≤wDL (xs.map (·.1))
 | [],[],o,n,m,cs,xs,hs,hl,hx,h=>by
  have e : o = n:=by unfold Sh.fitsL at hs;simpa using hs
  exact ⟨[],by show cs.drop o = [];rw [List.drop_eq_nil_iff];omega,rfl,by simp [tBL]⟩
 | [],f :: fs,o,n,m,cs,xs,hs,hl,hx,h=>by unfold Sh.fitsL at hs;cases hs
 | s :: l,[],o,n,m,cs,xs,hs,hl,hx,h=>by unfold Sh.fitsL at hs;cases hs
 | s :: l,f :: fs,o,n,m,cs,[],hs,hl,hx,h=>by simp at hx
 | s :: l,f :: fs,o,n,m,cs,x :: xs,hs,hl,hx,h=>by
  unfold Sh.fitsL at hs
  simp only [Bool.and_eq_true,beq_iff_eq] at hs
  obtain ⟨⟨h1,h2⟩,h3⟩:=hs
  have hle:=za7 (H:=H) (enc:=enc) (W:=W) (sp:=sp) (held:=held) (β:=β) l h3
  obtain ⟨a,a1,a2,a3⟩:=zay s h2 (h 0 f rfl) (by rw [List.length_take,List.length_drop];omega)
  obtain ⟨b,b1,b2,b3⟩:=zbq l h3 hl (by simpa using hx) (fun i g hg=>h (i + 1) g (by simpa using hg))
  refine ⟨a ++ b,?_,⟨a,b,rfl,a2,b2⟩,?_⟩
  ·have e : cs.drop o = (cs.drop f.offset).take (P.cellsOf f.type) ++ cs.drop (o + P.cellsOf f.type):=by
    rw [h1,← List.drop_drop,List.take_append_drop]
   rw [e]
   exact RepL.append a1 b1
  ·rw [zar]
   simp only [List.map_cons,wDL]
   omega
end
theorem open_sliceB {b0 : Nat} (e : Sh) {t : TypeId} {v : Value} {d : DataW H} {p : List MemPlace} (hs : (Sh.sl e).fits P t = true) (hv : Value.okWide P W .any b0 t v) (h : DataW.Trod enc P W 0 sp held t v d p) :
  ∃ ts,Rep (inW β W) ((Sh.sl e).tree ts) v∧(Sh.sl e).wt ts∧tBL ts≤wD d:=by
 obtain ⟨fuel,hf⟩:=h
 have hs':=hs
 unfold Sh.fits at hs
 split at hs
 ·rename_i u hu
  obtain ⟨a,len,cap,rfl⟩:=okWide_slice hu hv
  have hl1 : P.cellsOf t = 1:=by
   simp only [Bool.and_eq_true,decide_eq_true_eq] at hs
   exact hs.2
  obtain ⟨ts,r1,r2,r3⟩:=zay (β:=β) (.sl e) hs' hf (by rw [hl1];rfl)
  obtain ⟨xs,n,rfl,h1,h2⟩:=r2
  obtain ⟨w,r,e1,e2,e3⟩:=r1
  have e1' : [Value.slice a len cap] = w :: r:=e1
  injection e1' with e4 e5
  subst e4
  exact ⟨[.islc xs n none],e2,⟨xs,n,rfl,h1,h2⟩,r3⟩
 ·cases hs
end
end

section
open Go.ChangeShapes Go.WideShapes Go.ChangeAt Go.RowKit Go.WideElems
abbrev shOut : Sh:=.st [shI,shI,shI,.sl shI,.str,.sl shI]
theorem zfa {ts : List T} (h : (Sh.sl shI).wt ts) : ∃ l : List Int,ts = [cIf l]∧l.length≤maxLen∧∀ v∈l,i64 v:=wt_sl cI (fun a ha=>by obtain ⟨n,rfl,hn⟩:=zct ha;exact ⟨n,rfl,hn⟩) h
theorem wt_out {ts : List T} (h : shOut.wt ts) : ∃ o : Ot,ts = cOt.cells o∧True:=by
 obtain ⟨a1,b1,rfl,h1,a2,b2,rfl,h2,a3,b3,rfl,h3,a4,b4,rfl,h4,a5,b5,rfl,h5,a6,b6,rfl,h6,rfl⟩:=h
 obtain ⟨x1,rfl,k1⟩:=zct h1
 obtain ⟨x2,rfl,k2⟩:=zct h2
 obtain ⟨x3,rfl,k3⟩:=zct h3
 obtain ⟨x4,rfl,k4⟩:=zfa h4
 obtain ⟨x5,rfl,k5⟩:=wt_str h5
 obtain ⟨x6,rfl,k6⟩:=zfa h6
 exact ⟨⟨x1,x2,x3,x4,x5,x6⟩,rfl,trivial⟩
theorem zcw (l : List Int) : tBL (encL cI l) = l.length:=by
 induction l with
 | nil=>rfl
 | cons a l ih=>show 1 + tBL (encL cI l) = _;rw [ih,List.length_cons];omega
theorem zju (l : List Ot) : otsN l≤tBL (encL cOt l):=by
 induction l with
 | nil=>exact Nat.zero_le _
 | cons o l ih=>
  show otN o + otsN l≤tBL (otC o ++ encL cOt l)
  rw [zar]
  have h : tBL (otC o) = 1 + (1 + (1 + ((tBL (encL cI o.n) + 1) + ((o.b.toArray.size + 1) + ((tBL (encL cI o.l) + 1) + 0))))):=rfl
  rw [h,zcw,zcw,List.size_toArray]
  unfold otN
  omega
theorem zc7 {t0 : List T} (h0 : (Sh.sl shOut).wt t0) (hb : tBL t0≤1048576) : ∃ l : List Ot,(Sh.sl shOut).tree t0 = otsT l∧otsN l≤4000000:=by
 obtain ⟨l,rfl,-,-⟩:=wt_sl cOt (fun _=>wt_out) h0
 refine ⟨l,rfl,?_⟩
 have h1:=zju l
 have h2 : tBL [T.islc (encL cOt l) l.length none] = (tBL (encL cOt l) + 1) + 0:=rfl
 omega
end

section
open Go.RowKit
set_option maxRecDepth 100000
theorem glo_of {W : World} {l : List (String × DataW Unit)} (hf : l.filter (fun x => x.1 == "strings.asciiSpace") = [("strings.asciiSpace", Lib.tabData .u8 Lib.asciiSpaceTab)]) (h : laidMetH Tryd.prog l W) : Glo (inW (fun _ => none) W) := by
 have h2 := h.filter (fun x => x.1 == "strings.asciiSpace")
 rw [hf,MakeChecks.laidMetH_plain _ _ _ (by kernel_rfl)] at h2
 have ht : Lib.TabIs Tryd.prog W "strings.asciiSpace" .u8 Lib.asciiSpaceTab := Lib.tabIs_of_head (g := 1) (t := 222) (e := 5) (n := 256) (by kernel_rfl) (by kernel_rfl) (by kernel_rfl) (by kernel_rfl) (by kernel_rfl) (by kernel_rfl) h2
 intro g a hg
 have hg' : glT g = some a:=hg
 unfold glT at hg'
 split at hg'
 ·rename_i hgg
  subst hgg
  injection hg' with hg'
  subst hg'
  unfold Lib.TabIs World.var? at ht
  rw [show Tryd.prog.globalNamed "strings.asciiSpace" = some 1 from by kernel_rfl] at ht
  simp only [Option.bind_some] at ht
  refine ⟨fun h=>h,?_⟩
  show ∃ e f,W.heap[1]? = some (.cells spaceA e f)
  split at ht
  ·rename_i cs e f he
   injection ht with ht
   subst ht
   exact ⟨_,_,he⟩
  ·cases ht
 ·cases hg'
end

section
open Go.ChangeShapes Go.WideShapes Go.ChangeAt Go.RowKit Go.WideElems
def rowed (P : Program) (ts : List TypeId) : Bool:=ts.all fun t=>P.readableRec t && decide (t < P.types.size)
theorem so {H : Type} {enc : TypeId × Value→H} {P : Program} (hl : laidOutB P = true) {W W' : World} (hb : Below W.heap.size W W') :
  ∀ {ts : List TypeId} {vs : List Value} {ds : List (DataW H)} {p : List MemPlace},rowed P ts = true→(∀ x∈p,x.block < W.heap.size)→
   DataW.TrodAll enc P W 0 (fun _=>true) true ts vs ds p→DataW.TrodAll enc P W' 0 (fun b=>decide (b < W.heap.size)) true ts vs ds p
 | [],_,_,_,_,_,h=>by
  obtain ⟨rfl,rfl,rfl⟩:=trodAll_nil h
  exact trodAll_mk0
 | t :: ts,_,_,_,hr,hlt,h=>by
  obtain ⟨v,vs1,d,ds1,a,b,rfl,rfl,rfl,h1,h2⟩:=trodAll_cons h
  simp only [rowed,List.all_cons,Bool.and_eq_true,decide_eq_true_eq] at hr
  refine trodAll_cons_mk (Below.trod hl hr.1.1 hr.1.2 h1 hb (fun x hx=>hlt x (by simp [hx]))) ?_;exact so hl hb (by simpa [rowed] using hr.2) (fun x hx=>hlt x (by simp [hx])) h2
theorem post_law {H : Type} {enc : TypeId × Value→H} {P : Program} {f : Func} {s : ChangeSpec} {W W' : World} {args : Array Value} {ds gs : List (DataW H)} {before : List MemPlace} {tb : TypeId}
  (hl : laidOutB P = true) (hps : rowed P f.params.toList = true) (hvs : varsRowed P s.vars = true) (hres : f.resultTypes = #[tb]) (htb : P.underlying tb = some .bool)
  (hW : DataW.Whole enc P f.params.toList s.vars false W args.toList ds gs before)
  (h1 : (s.fn H (ds ++ gs)).results = [.lit (.bool true)]) (h2 : (s.fn H (ds ++ gs)).args = ds) (h3 : (s.fn H (ds ++ gs)).vars = gs)
  (hb : Below W.heap.size W W') : s.post enc P f false true false false W args (.bool true) W':=by
 have hlt:=hW.lt
 have hW':=hW
 obtain ⟨p,q,hA,hV,rfl,hfz,hnd⟩:=hW
 refine ⟨ds,gs,p ++ q,[],p,q,hW',?_,?_,?_,hb.frame _,fun h=>by cases h⟩
 ·rw [h1,hres]
  exact trodAll_cons_mk (shut_bool htb true) trodAll_mk0
 ·rw [h2]
  exact so hl hb hps (fun x hx=>hlt x (by simp [hx])) hA
 ·rw [h3]
  exact Below.trodVars hl hb hvs hV
end

section
open Go.RowKit
set_option maxRecDepth 10000
structure goodR (b a : Int) (rs : List Rq) (a2 : Int) : Prop where
 cnt : a2 = a∨a2 = a + 1
 head : a2 = a + 1→∃ r l,rs = r :: l∧r.code = 1∧(∃ q,r.n = (b + 10 + a) :: 1 :: q∧q.length = 7)∧∀ x∈l,x.code≠1
 none : a2 = a→∀ x∈rs,x.code≠1
 six : ∀ r∈rs,r.code = 6→2≤r.n.length∧b + 10≤r.n[1]!∧r.n[1]! < b + 10 + a2
 draw : ∀ r∈rs,r.code = 36→1≤r.n.length∧b + 10≤r.n[0]!∧r.n[0]! < b + 10 + a2
def plainR (l : List Rq) : Prop:=∀ r∈l,r.code≠1∧r.code≠6∧r.code≠36
theorem xh {b a : Int} {rs : List Rq} (h : plainR rs) : goodR b a rs a:=
 ⟨.inl rfl,fun k=>by omega,fun _ x hx=>(h x hx).1,fun x hx k=>absurd k (h x hx).2.1,fun x hx k=>absurd k (h x hx).2.2⟩
theorem xj : plainR []:=fun _ h=>by cases h
theorem zbo (f : Fr) (id mask x y w h mode : Int) : plainR (confA f id mask x y w h mode):=by
 intro r hr
 unfold confA at hr
 simp only [List.mem_append] at hr
 rcases hr with (hr | hr) | hr <;> split at hr <;> simp only [List.mem_cons,List.not_mem_nil,or_false] at hr
 ·rcases hr with rfl | rfl <;> simp [rq]
 ·subst hr;simp [rq]
 ·subst hr;simp [rq]
theorem zck (m : Mg) (hm : 0≤m.made) (id : Int) (k : Wt) (row : List Int) : (m.manage id k row).1.base = m.base∧goodR m.base m.made (m.manage id k row).2 (m.manage id k row).1.made:=by
 unfold Mg.manage
 split
 ·exact ⟨rfl,xh xj⟩
 ·split
  ·exact ⟨rfl,xh (by simp [plainR,rq])⟩
  ·refine ⟨rfl,.inr rfl,fun _=>⟨_,_,rfl,rfl,⟨_,rfl,rfl⟩,by simp [rq,Mg.draw]⟩,fun h=>?_,fun r h hc=>?_,fun r h hc=>?_⟩
   ·dsimp only at h;omega
   ·simp only [List.mem_cons,List.not_mem_nil,or_false] at h
    rcases h with rfl | rfl | rfl | rfl | rfl | rfl | rfl <;> simp [rq,Mg.draw] at hc ⊢ <;> omega
   ·simp only [List.mem_cons,List.not_mem_nil,or_false] at h
    rcases h with rfl | rfl | rfl | rfl | rfl | rfl | rfl <;> simp [rq,Mg.draw] at hc ⊢ <;> omega
theorem zcj (m : Mg) (hm : 0≤m.made) (s : Int) (row : List Int) : (m.titled s row).1.base = m.base∧goodR m.base m.made (m.titled s row).2 (m.titled s row).1.made:=by
 unfold Mg.titled
 split
 ·rename_i i hi
  exact zck { m with W:=m.W.eraseIdx i } hm _ _ _
 ·exact ⟨rfl,xh xj⟩
theorem good_ev (m : Mg) (hf : ∀ e∈m.F,m.base + 10≤e.2.fr∧e.2.fr < m.base + 10 + m.made) (c : Int) (n : List Int) : (m.ev c n).1.base = m.base∧goodR m.base m.made (m.ev c n).2 (m.ev c n).1.made:=by
 unfold Mg.ev
 split
 ·unfold Mg.mapReq
  split
  ·exact ⟨rfl,xh (by simp [plainR,rq])⟩
  ·split
   ·exact ⟨rfl,xh xj⟩
   ·exact ⟨rfl,xh (by simp [plainR,rq])⟩
 split
 ·unfold Mg.conf
  split
  ·exact ⟨rfl,xh (by simp [plainR,rq])⟩
  ·exact ⟨rfl,xh (zbo _ _ _ _ _ _ _ _)⟩
 split
 ·unfold Mg.unmap
  split
  ·exact ⟨rfl,xh (by simp [plainR,rq])⟩
  ·exact ⟨rfl,xh xj⟩
 split
 ·unfold Mg.destroy
  split
  ·exact ⟨rfl,xh (by simp [plainR,rq,Mg.forget])⟩
  ·exact ⟨rfl,xh xj⟩
 split
 ·unfold Mg.reparent
  split
  ·split
   ·exact ⟨rfl,xh xj⟩
   ·exact ⟨rfl,xh (by simp [plainR,rq,Mg.forget])⟩
  ·exact ⟨rfl,xh xj⟩
 split
 ·unfold Mg.expose
  split
  ·rename_i i hi
   split
   ·obtain ⟨e,he,-⟩:=w5 hi
    have h1:=hf e (v4 he)
    rw [getM he]
    refine ⟨rfl,.inl rfl,fun k=>by dsimp only at k;omega,fun _ x hx=>?_,fun x hx hc=>?_,fun x hx hc=>?_⟩
    ·simp only [List.mem_singleton] at hx;subst hx;simp [Mg.draw]
    ·simp only [List.mem_singleton] at hx;subst hx;simp [Mg.draw] at hc
    ·simp only [List.mem_singleton] at hx;subst hx;simp [Mg.draw];omega
   ·exact ⟨rfl,xh xj⟩
  ·exact ⟨rfl,xh xj⟩
 split
 ·unfold Mg.press
  split
  ·exact ⟨rfl,xh (by simp [plainR,rq])⟩
  ·exact ⟨rfl,xh xj⟩
 split
 ·exact ⟨rfl,xh xj⟩
 split
 ·unfold Mg.move
  split
  ·exact ⟨rfl,xh (by simp [plainR,rq])⟩
  ·exact ⟨rfl,xh xj⟩
 ·exact ⟨rfl,xh xj⟩
theorem zd1 (m : Mg) (s : Int) : (m.refused s).base = m.base∧(m.refused s).made = m.made:=by
 unfold Mg.refused
 split <;> exact ⟨rfl,rfl⟩
theorem zh7 (m : Mg) (s w h : Int) : (m.sized s w h).base = m.base∧(m.sized s w h).made = m.made:=by
 unfold Mg.sized
 split <;> exact ⟨rfl,rfl⟩
theorem zgw (m : Mg) (top : Int) (ok : m.Ok top) (o : Ot) : (m.step o).1.base = m.base∧goodR m.base m.made (m.step o).2 (m.step o).1.made:=by
 have hm:=ok.cnt.1
 have hf:=ok.fr
 unfold Mg.step
 dsimp only
 split
 ·obtain ⟨h1,h2⟩:=zd1 { m with fresh:=false } o.seq
  exact ⟨h1,by rw [h2];exact xh xj⟩
 split
 ·split
  ·obtain ⟨h1,h2⟩:=zh7 { m with fresh:=false } o.seq o.n[3]! o.n[4]!
   exact ⟨h1,by rw [h2];exact xh xj⟩
  ·split
   ·exact zcj { m with fresh:=false } hm _ _
   ·exact ⟨rfl,xh xj⟩
 split
 ·split
  ·exact good_ev { m with fresh:=false } hf _ _
  ·exact ⟨rfl,xh xj⟩
 ·exact ⟨rfl,xh xj⟩
def cM (a a2 : Int) : Nat→Int
 | 0=>a
 | _ + 1=>a2
theorem goodR.at {b a a2 : Int} {rs : List Rq} (g : goodR b a rs a2) {k : Nat} (hk : k < rs.length) :
  (rs[k]!.code = 1∧cM a a2 k = a∧a2 = a + 1∧∃ q,rs[k]!.n = (b + 10 + a) :: 1 :: q∧q.length = 7)∨(rs[k]!.code≠1∧cM a a2 k = a2):=by
 have hm : rs[k]!∈rs:=List.mem_iff_getElem?.2 ⟨k,getE hk⟩
 rcases g.cnt with h | h
 ·exact .inr ⟨g.none h _ hm,by cases k <;> simp only [cM] <;> omega⟩
 ·obtain ⟨r,l,rfl,h1,h2,h3⟩:=g.head h
  cases k with
  | zero=>exact .inl ⟨h1,rfl,h,h2⟩
  | succ k=>
   refine .inr ⟨?_,rfl⟩
   have hl : k < l.length:=by simpa using hk
   have e : (r :: l)[k + 1]! = l[k]!:=by simp
   rw [e]
   exact h3 _ (List.mem_iff_getElem?.2 ⟨k,getE hl⟩)
theorem goodR.fin {b a a2 : Int} {rs : List Rq} (g : goodR b a rs a2) : cM a a2 rs.length = a2:=by
 rcases g.cnt with h | h
 ·cases rs.length <;> simp only [cM] <;> omega
 ·obtain ⟨r,l,rfl,-⟩:=g.head h;rfl
def mkI (b a : Int) : List Int:=(List.range a.toNat).map fun (i : Nat)=>b + 10 + (i : Int)
theorem rp {b a x : Int} : x∈mkI b a↔b + 10≤x∧x < b + 10 + a:=by
 unfold mkI
 simp only [List.mem_map,List.mem_range]
 constructor
 ·rintro ⟨i,h1,rfl⟩;omega
 ·rintro ⟨h1,h2⟩;exact ⟨(x - (b + 10)).toNat,by omega,by omega⟩
theorem zkc {b a : Int} (h : 0≤a) : mkI b (a + 1) = mkI b a ++ [b + 10 + a]:=by
 unfold mkI
 rw [show (a + 1).toNat = a.toNat + 1 by omega,List.range_succ,List.map_append,List.map_cons,List.map_nil,Int.toNat_of_nonneg h]
/- sets of numbers, asx maps to truth values -/
abbrev kK (k : IntKind) (l : List Int) : List Value:=l.map fun x=>Value.int k x
abbrev tK (l : List Int) : List T:=l.map fun _=>BL true
theorem zjs (l : List Int) : T.pureL (tK l) = true:=vf fun t ht=>by obtain ⟨e,-,rfl⟩:=List.mem_map.1 ht;rfl
theorem piK (k : IntKind) (l : List Int) : (mapP (kK k l) (tK l)).pi = true:=zjs l
theorem likeKK (k : IntKind) (l : List Int) (x : Int) : ((kK k l).all fun y=>(likeK (.int k) (.int k x) y).isSome) = true:=by
 rw [List.all_map,List.all_eq_true]
 intro e _
 simp [likeK]
theorem newK {k : IntKind} {l : List Int} {x : Int} (h : x∉l) : Value.int k x∉kK k l:=fun q=>by
 obtain ⟨e,h1,h2⟩:=List.mem_map.1 q
 injection h2 with _ h2
 exact h (h2 ▸ h1)
theorem addK (k : IntKind) (l : List Int) (x : Int) : mapP (kK k l ++ [.int k x]) (tK l ++ [BL true]) = mapP (kK k (l ++ [x])) (tK (l ++ [x])):=by rw [kK,kK,tK,tK,List.map_append,List.map_append];rfl
theorem findK (k : IntKind) : ∀ (l : List Int) (x : Int),mFind (.int k) (.int k x) (kK k l) (tK l) = if x∈l then some (BL true) else none
 | [],x=>by simp [mFind]
 | y :: l,x=>by
  show (if likeK (.int k) (.int k x) (.int k y) = some true then some (BL true) else mFind (.int k) (.int k x) (kK k l) (tK l)) = _
  rw [findK k l x]
  by_cases h : x = y
  ·subst h;simp [likeK]
  ·rw [if_neg (by simp only [likeK,if_true];intro q;injection q with q;exact h (by simpa using q))]
   simp [h]
theorem look84 (l : List Int) (x : Int) : mLook2 tab 84 (kK .i64 l) (tK l) (.int .i64 x) false = some (BL (decide (x∈l))):=by
 have e : mLook2 tab 84 (kK .i64 l) (tK l) (.int .i64 x) false = (if ((kK .i64 l).all fun y=>(likeK (.int .i64) (.int .i64 x) y).isSome) && true then (match mFind (.int .i64) (.int .i64 x) (kK .i64 l) (tK l) with | some r=>some r | none=>some (BL false)) else none):=rfl
 rw [e,likeKK,findK]
 by_cases h : x∈l <;> simp [h]
theorem look89 (l : List Int) (x : Int) : mLook2 tab 89 (kK .u32 l) (tK l) (.int .u32 x) false = some (BL (decide (x∈l))):=by
 have e : mLook2 tab 89 (kK .u32 l) (tK l) (.int .u32 x) false = (if ((kK .u32 l).all fun y=>(likeK (.int .u32) (.int .u32 x) y).isSome) && true then (match mFind (.int .u32) (.int .u32 x) (kK .u32 l) (tK l) with | some r=>some r | none=>some (BL false)) else none):=rfl
 rw [e,likeKK,findK]
 by_cases h : x∈l <;> simp [h]
def frs (F : List (Int × Fr)) (ids : List Int) : List Int:=ids.map fun id=>(lkF F id).1.fr
theorem zcl {F : List (Int × Fr)} (hn : (F.map Prod.fst).Nodup) {id : Int} (h : id∈F.map Prod.fst) : ∃ e∈F,lkF F id = (e.2,true)∧e.1 = id:=by
 obtain ⟨e,h1,rfl⟩:=List.mem_map.1 h
 obtain ⟨i,hi⟩:=List.mem_iff_getElem?.1 h1
 exact ⟨e,h1,xb (zf1 hn hi) hi,rfl⟩
theorem frs_new {F : List (Int × Fr)} (hn : (F.map Prod.fst).Nodup) (hr : (F.map (fun e=>e.2.fr)).Nodup) {ids : List Int} (hp : ids.Perm (F.map Prod.fst)) {j : Nat} (hj : j < ids.length) : (lkF F ids[j]!).1.fr∉frs F (ids.take j):=by
 intro hm
 obtain ⟨x,h1,h2⟩:=List.mem_map.1 hm
 have hg : ids[j]? = some ids[j]!:=getE hj
 obtain ⟨e,he,e1,e2⟩:=zcl hn (hp.subset (List.mem_iff_getElem?.2 ⟨j,hg⟩))
 obtain ⟨e',he',e1',e2'⟩:=zcl hn (hp.subset (List.mem_of_mem_take h1))
 rw [e1,e1'] at h2
 obtain ⟨p,hp1⟩:=List.mem_iff_getElem?.1 he
 obtain ⟨p',hp2⟩:=List.mem_iff_getElem?.1 he'
 have:=tn hr hp2 hp1 h2
 subst this
 rw [hp1] at hp2
 injection hp2 with hp2
 subst hp2
 have hnd : ids.Nodup:=hp.nodup_iff.2 hn
 obtain ⟨i,hi⟩:=List.mem_iff_getElem?.1 h1
 have hij : i < j:=by
  have h3:=(List.getElem?_eq_some_iff.1 hi).1
  rw [List.length_take] at h3;omega
 rw [List.getElem?_take_of_lt hij] at hi
 have h4 : ids[i]? = ids[j]?:=by rw [hi,hg,← e2,← e2']
 have h6 : i < ids.length:=by omega
 rw [List.getElem?_eq_getElem h6,List.getElem?_eq_getElem hj] at h4
 injection h4 with h4
 have h5:=(List.getElem_inj hnd).1 h4
 omega
theorem frs_add (F : List (Int × Fr)) {ids : List Int} {j : Nat} (hj : j < ids.length) : frs F (ids.take j) ++ [(lkF F ids[j]!).1.fr] = frs F (ids.take (j + 1)):=by
 unfold frs
 rw [List.take_add_one,getE hj,List.map_append]
 rfl
end

section
open Go.RowKit
set_option maxRecDepth 10000
set_option maxHeartbeats 2000000
theorem zj7 (r : Rq) : T.pureL (cRn.cells r) = true:=by show T.pureL [I64 r.code,cIf r.n,strT r.b,NIL] = true;simp only [T.pureL,T.pure,zg];rfl
theorem ru (l : List Ot) (hl : otsN l≤4000000) : CallP Tryd.prog 5 [otsT l] (BL true):=by
 have haw:=zb4
 have hfw:=few_p l hl
 have hlp : T.pureL (encL cOt l) = true:=zg _ _
 cases hb : fewL l with
 | false=>
  rw [hb] at hfw
  refine CallP.intro2 yw yw ?_;refine CallT.intro zc Tryd.func5 rfl (by kernel_rfl) (Nat.le_of_ble_eq_true rfl) ?_;refine ze zc [] rfl ?_;refine za rfl ?_;refine zb ?_;refine zo ?_;refine ze zc [] rfl ?_;refine za rfl ?_;refine z6 rfl rfl rfl (hfw) ?_;refine za rfl ?_;refine zb ?_;refine xv rfl ?_;refine ze zc [] rfl ?_;refine z6 rfl rfl rfl (haw) ?_;refine za rfl ?_;refine zb ?_;refine yr ?_;exact ⟨trivial,_,rfl,Cv.eq (by first | rfl | (simp [*];done)) rfl⟩
 | true=>
  rw [hb] at hfw
  unfold fewL at hb
  simp only [Bool.and_eq_true,List.all_eq_true,decide_eq_true_eq] at hb
  obtain ⟨hall,hsm⟩:=hb
  have hlen:=zaw l
  have ok0 : (newMg 3 64 64).Ok 4:=zaz 3 64 64 (by decide) (by decide) (by decide) (by decide) (by decide) (by decide)
  have hnew : CallP Tryd.prog 30 [I64 3,I64 64,I64 64] (.tup [mgT (newMg 3 64 64),.islc (encL cRn (newL 3145728)) 4 none,I64 0]):=zgi 3 64 64 (by decide) (by decide) (by decide) (by decide) (by decide) (by decide)
  have hmp : ∀ m : Mg,(mpF m).pure = true:=xn
  have hmq : ∀ m : Mg,(mpW m).pure = true:=xm
  have hB0 : (newMg 3 64 64).base = 3145728:=rfl
  have hM0 : mkI 3145728 (newMg 3 64 64).made = []:=rfl
  have hpk : ∀ k (L : List Int),(mapP (kK k L) (tK L)).pi = true:=piK
  have hpe : (mapP [] []).pi = true:=rfl
  generalize newMg 3 64 64 = A0 at *
  generalize newL 3145728 = N0 at *
  refine CallP.intro2 yw yw ?_;refine CallT.intro zc Tryd.func5 rfl (by kernel_rfl) (Nat.le_of_ble_eq_true rfl) ?_;refine ze zc [] rfl ?_;refine za rfl ?_;refine zb ?_;refine zo ?_;refine ze zc [] rfl ?_;refine za rfl ?_;refine z6 rfl rfl rfl (hfw) ?_;refine za rfl ?_;refine zb ?_;refine yq rfl ?_;refine zt ?_;refine ze zc [] rfl ?_;refine z6 rfl rfl rfl (hnew) ?_;iterate 4 refine za rfl ?_
  refine yk rfl rfl ?_;refine zp rfl rfl rfl rfl rfl (Nat.le_of_ble_eq_true rfl) (vo _) ?_;iterate 2 refine za rfl ?_
  refine zb ?_;refine z7 ([(3,.ptr 0 0)]) ([.c (mgC A0)]) [0,5] rfl (by refine ⟨[some 0],rfl,yb,ya,?_,?_⟩ <;> (repeat' first | exact trivial | exact yc | exact yd | exact z9 rfl | refine zn ?_ ?_ | refine zk rfl ?_ ?_ | refine zj ?_ ?_ | refine ye rfl ?_ | fail) <;> first | exact yv | (exact CvL.eq rfl (xk _))) ?_
  refine zo ?_;refine ze zc [] rfl ?_;iterate 2 refine za rfl ?_
  refine zb ?_;refine yq rfl ?_;refine zt ?_;refine ze zc [] rfl ?_;refine xu ?_;refine za rfl ?_;refine zb ?_;refine zo ?_;refine ze zc [] rfl ?_;iterate 3 refine za rfl ?_
  refine zb ?_;refine yf ?_;refine wa (σ1:=Nat) (σ2:=Mg) (fun k _=>l.length - k) (fun k m=>k≤l.length∧m.Ok (4 + 7 * (k : Int))∧m.base = 3145728) (fun k _=>[(32,I64 k),(30,otsT l),(3,.ptr 0 0),(6,.om 1)]) (fun _ m=>[.c (mgC m),.o (mapP (kK .i64 (mkI 3145728 m.made)) (tK (mkI 3145728 m.made)))]) [31] rfl (0) (A0) ?_ ?_ ?_
  ·refine ⟨[some 0,some 1],rfl,yb,ya,?_,?_⟩ <;> (repeat' first | exact trivial | exact yc | exact yd | exact z9 rfl | refine zn ?_ ?_ | refine zk rfl ?_ ?_ | refine zj ?_ ?_ | refine ye rfl ?_ | fail) <;> first | exact yv | (first | exact CvL.pure (xk _) | exact CvL.eq rfl (xk _) | exact z9 (by rw [hM0];rfl))
  ·exact ⟨by omega,by simpa using ok0,hB0⟩
  rintro k m ⟨hk,ok,hbs⟩;refine ze zc [] rfl ?_;refine za rfl ?_;refine zb ?_;refine zo ?_;refine zi rfl (fun hc2=>?_) (fun hc2=>?_)
  ·(try simp only [zf] at hc2);have hkl : k < l.length:=(by omega);have hmem : l[k]!∈l:=List.mem_iff_getElem?.2 ⟨k,getE hkl⟩
   have hpo:=x8 l[k]!
   generalize ho : l[k]! = o at *
   have hfo:=zdh (hall o hmem)
   have hon:=zav hmem
   have hoN : otN o = 1 + o.n.length + o.l.length + o.b.length:=rfl
   have st:=zjb m o _ ok (by omega) hfo (by omega)
   have okn:=ok.step o hfo (by omega)
   have hgd:=zgw m _ ok o
   rw [hbs] at hgd
   obtain ⟨hbn,gd⟩:=hgd
   have hfr:=zgz m o
   have hrr:=zc8 m o
   have hm0:=ok.cnt.1
   have hmt : m.made≤100000:=(by have:=ok.cnt;omega)
   generalize hrs : (m.step o).2 = rs at *
   obtain ⟨m2,hm2⟩ : ∃ x,x = (m.step o).1:=⟨_,rfl⟩
   rw [← hm2] at st okn hbn gd hfr
   have hrl:=hrr.1
   have hsh : (3145728 + 10 + m.made).fdiv 1048576 = 3:=(by rw [Int.fdiv_eq_ediv_of_nonneg _ (by decide)];omega)
   refine zt ?_;refine zo ?_;refine yf ?_;refine ze zc [] rfl ?_;refine zr rfl rfl rfl rfl rfl rfl zu ?_;refine zm rfl rfl yn ?_;refine yk rfl rfl ?_;refine zp rfl rfl rfl rfl rfl xf rfl ?_;refine zb ?_;refine z7 ([(3,.ptr 0 0),(6,.om 1),(8,.iptr (otC o) 0)]) ([.c (mgC m),.o (mapP (kK .i64 (mkI 3145728 m.made)) (tK (mkI 3145728 m.made)))]) [30,31,32] rfl (by refine ⟨[some 0,some 1],rfl,yb,ya,?_,?_⟩ <;> (repeat' first | exact trivial | exact yc | exact yd | exact z9 rfl | refine zn ?_ ?_ | refine zk rfl ?_ ?_ | refine zj ?_ ?_ | refine ye rfl ?_ | fail) <;> first | exact yv | (first | exact CvL.eq rfl (xk _) | exact Cv.fptr ⟨rfl,(show some 2∉[some 0,some 1] by simp)⟩ (CvL.eq (by rw [← ho];rfl) hpo))) ?_
   refine ze zc [] rfl ?_;refine za (t:=mgT m) rfl ?_;refine za (t:=otT o) rfl ?_;refine z6 rfl rfl rfl (st) ?_;iterate 3 refine za rfl ?_
   refine yk rfl rfl ?_;refine zp rfl rfl rfl rfl rfl (Nat.le_of_ble_eq_true rfl) (vo _) ?_;refine za rfl ?_;refine zb ?_;refine z7 ([(3,.ptr 0 0),(6,.om 1),(9,.iptr (mgC m2) 0)]) ([.c (mgC m),.o (mapP (kK .i64 (mkI 3145728 m.made)) (tK (mkI 3145728 m.made)))]) [10,30,31,32] rfl (by refine ⟨[some 0,some 1],rfl,yb,ya,?_,?_⟩ <;> (repeat' first | exact trivial | exact yc | exact yd | exact z9 rfl | refine zn ?_ ?_ | refine zk rfl ?_ ?_ | refine zj ?_ ?_ | refine ye rfl ?_ | fail) <;> first | exact yv | (first | exact CvL.eq rfl (xk _) | exact Cv.fptr ⟨rfl,(show some 2∉[some 0,some 1] by simp)⟩ (CvL.eq rfl (xk _)))) ?_
   refine zo ?_;refine ze zc [] rfl ?_;iterate 3 refine za rfl ?_
   refine zb ?_;refine yf ?_;refine xo (σ:=Nat) (fun j=>rs.length - j) (fun j=>j≤rs.length) (fun j=>[(44,I64 j),(42,.islc (encL cRn rs) rs.length none),(3,.ptr 0 0),(6,.om 1)]) (fun j=>[.c (mgC m),.o (mapP (kK .i64 (mkI 3145728 (cM m.made m2.made j))) (tK (mkI 3145728 (cM m.made m2.made j))))]) [9,30,31,32,43] rfl (0) ?_ ?_ ?_
   ·refine ⟨[some 0,some 1],rfl,yb,ya,?_,?_⟩ <;> (repeat' first | exact trivial | exact yc | exact yd | exact z9 rfl | refine zn ?_ ?_ | refine zk rfl ?_ ?_ | refine zj ?_ ?_ | refine ye rfl ?_ | fail) <;> first | exact yv | (first | exact CvL.pure (xk _) | exact CvL.eq rfl (xk _) | exact Cv.pure (by simp only [T.pure,zg]))
   ·exact Nat.zero_le _
   rintro j hj;refine ze zc [] rfl ?_;refine za rfl ?_;refine zb ?_;refine zo ?_;refine zi rfl (fun hc3=>?_) (fun hc3=>?_)
   ·(try simp only [zf] at hc3);have hjl : j < rs.length:=(by omega);have hjm : rs[j]!∈rs:=List.mem_iff_getElem?.2 ⟨j,getE hjl⟩
    have hat:=gd.at hjl
    have h6:=gd.six _ hjm
    have h36:=gd.draw _ hjm
    generalize hr : rs[j]! = r at *
    have hpr:=zj7 r
    refine zt ?_;refine zo ?_;refine yf ?_;refine ze zc [] rfl ?_;refine zr rfl rfl rfl rfl rfl rfl zu ?_;refine zm rfl rfl yn ?_;refine yk rfl rfl ?_;refine zp rfl rfl rfl rfl rfl xf rfl ?_;refine zb ?_;refine z7 ([(3,.ptr 0 0),(6,.om 1),(12,.iptr (cRn.cells r) 0)]) ([.c (mgC m),.o (mapP (kK .i64 (mkI 3145728 (cM m.made m2.made j))) (tK (mkI 3145728 (cM m.made m2.made j))))]) [9,30,31,32,42,43,44] rfl (by refine ⟨[some 0,some 1],rfl,yb,ya,?_,?_⟩ <;> (repeat' first | exact trivial | exact yc | exact yd | exact z9 rfl | refine zn ?_ ?_ | refine zk rfl ?_ ?_ | refine zj ?_ ?_ | refine ye rfl ?_ | fail) <;> first | exact yv | (first | exact CvL.eq rfl (xk _) | exact Cv.fptr ⟨rfl,(show some 2∉[some 0,some 1] by simp)⟩ (CvL.eq (by rw [← hr];rfl) hpr))) ?_
    refine zo ?_;refine ze zc [] rfl ?_;iterate 3 refine za rfl ?_
    refine zb ?_;refine zi rfl (fun hc4=>?_) (fun hc4=>?_)
    ·(try simp only [zf] at hc4);obtain ⟨-,hc4a,hc4b,q,hq,hql⟩:=hat.resolve_right (fun h=>h.1 (by omega))
     rw [hc4a]
     have hrn : r.n.length = 9:=(by rw [hq];simp [hql])
     have hr0 : r.n[0]! = 3145728 + 10 + m.made:=(by rw [hq];rfl)
     have hr1 : r.n[1]! = 1:=(by rw [hq];rfl)
     have hni : r.n[0]!∉mkI 3145728 m.made:=(fun h=>by have:=rp.1 h;omega)
     refine zo ?_;refine ze zc [] rfl ?_;iterate 2 refine za rfl ?_
     refine za (t:=I64 9) (by show some (I64 (r.n.length : Nat),(none : Option (Nat × List T))) = _;rw [hrn];rfl) ?_;iterate 2 refine za rfl ?_
     refine zd rfl rfl (rfl) ?_;refine za rfl ?_;refine zd rfl rfl (rfl) ?_;refine za rfl ?_;refine zd rfl rfl (rfl) ?_;refine za rfl ?_;refine zd rfl rfl (rfl) ?_;refine zr (m:=0) rfl rfl rfl rfl rfl rfl zu ?_;refine zd rfl rfl (rfl) ?_;refine zm rfl rfl yn ?_;refine zd rfl rfl (rfl) ?_;refine yy zc rfl rfl rfl (look84 _ _) ?_;rw [show decide (r.n[0]!∈mkI 3145728 m.made) = false from decide_eq_false hni]
     iterate 2 refine za rfl ?_
     refine zd rfl rfl (rfl) ?_;refine za rfl ?_;refine zd rfl rfl (rfl) ?_;refine za rfl ?_;refine zd rfl rfl (rfl) ?_;refine zr (m:=0) rfl rfl rfl rfl rfl rfl zu ?_;refine zd rfl rfl (rfl) ?_;refine zm rfl rfl yn ?_;refine zd rfl rfl (rfl) ?_;refine za (t:=I64 3) (by show some (I64 ((r.n[0]!).fdiv 1048576),(none : Option (Nat × List T))) = _;rw [hr0,hsh]) ?_;refine zd rfl rfl (rfl) ?_;iterate 3 refine za rfl ?_
     refine zd rfl rfl (rfl) ?_;refine za rfl ?_;refine zd rfl rfl (rfl) ?_;refine za rfl ?_;refine zd rfl rfl (rfl) ?_;refine zr (m:=1) rfl rfl rfl rfl rfl rfl zu ?_;refine zd rfl rfl (rfl) ?_;refine zm rfl rfl yn ?_;refine zd rfl rfl (rfl) ?_;iterate 2 refine za rfl ?_
     refine zb ?_;refine zi rfl (fun hc5=>?_) (fun hc5=>?_)
     ·exact absurd hc5 (by simp [hr1])
     ·(try simp only [zf] at hc5)
      refine zt ?_;refine z4 zc [] rfl ?_;iterate 3 refine za rfl ?_
      refine zr (m:=0) rfl rfl rfl rfl rfl rfl zu ?_;refine zm rfl rfl yn ?_;refine u1 zc rfl rfl rfl rfl rfl rfl rfl (show _ = some (BL true) from rfl) (by exact likeKK _ _ _) (newK hni) ?_;rw [addK,hr0,← zkc hm0,← hc4b]
      refine zb ?_;refine ze zc [] rfl ?_;iterate 4 refine za rfl ?_
      refine' zx (d:=94) [_,_,_,_,_,_,_,_] rfl ?_ rfl ?_
      rotate_left
      ·refine zw rfl rfl (fun hb18_3=>?_) (fun hb18_3=>?_)
       ·have ghb18_3:=hb18_3
        try simp only [zf,Bool.not_true,Bool.not_false] at ghb18_3
        have q6:=h6 (by omega)
        refine za rfl ?_;refine zd rfl rfl hb18_3 ?_;refine za rfl ?_;refine zd rfl rfl hb18_3 ?_;refine za rfl ?_;refine zd rfl rfl hb18_3 ?_;refine zr (m:=1) rfl rfl rfl rfl rfl rfl zu ?_;refine zd rfl rfl hb18_3 ?_;refine zm rfl rfl yn ?_;refine zd rfl rfl hb18_3 ?_;refine yy zc rfl rfl rfl (look84 _ _) ?_;rw [show decide (r.n[1]!∈mkI 3145728 m2.made) = true from decide_eq_true (rp.2 ⟨q6.2.1,q6.2.2⟩)]
        refine zd rfl rfl hb18_3 ?_;refine za rfl ?_;refine zh rfl (fun _=>rfl) ?_;exact zb ⟨rfl,rfl⟩
       ·refine zl rfl rfl hb18_3 ?_;iterate 5 refine zl rfl rfl hb18_3 ?_
        exact zh rfl (fun h=>absurd (h.symm.trans hb18_3) (by decide)) (zb ⟨rfl,rfl⟩)
      refine za rfl ?_;refine' zx (d:=108) [_,_,_,_,_,_,_,_,_,_,_,_,_] rfl ?_ rfl ?_
      rotate_left
      ·refine zw rfl rfl (fun hb18_12=>?_) (fun hb18_12=>?_)
       ·have ghb18_12:=hb18_12
        try simp only [zf,Bool.not_true,Bool.not_false] at ghb18_12
        refine za rfl ?_;refine zd rfl rfl hb18_12 ?_;refine za rfl ?_;refine zd rfl rfl hb18_12 ?_;refine za rfl ?_;refine zd rfl rfl hb18_12 ?_;refine za rfl ?_;refine' zx (d:=107) [_,_,_,_,_,_,_,_] rfl ?_ rfl ?_
        rotate_left
        ·refine zw rfl rfl (fun hb18_16=>?_) (fun hb18_16=>?_)
         ·have ghb18_16:=hb18_16
          try simp only [zf,Bool.not_true,Bool.not_false] at ghb18_16
          have q36:=h36 (by omega)
          refine za rfl ?_;refine zd rfl rfl hb18_16 ?_;refine za rfl ?_;refine zd rfl rfl hb18_16 ?_;refine za rfl ?_;refine zd rfl rfl hb18_16 ?_;refine zr (m:=0) rfl rfl rfl rfl rfl rfl zu ?_;refine zd rfl rfl hb18_16 ?_;refine zm rfl rfl yn ?_;refine zd rfl rfl hb18_16 ?_;refine yy zc rfl rfl rfl (look84 _ _) ?_;rw [show decide (r.n[0]!∈mkI 3145728 m2.made) = true from decide_eq_true (rp.2 ⟨q36.2.1,q36.2.2⟩)]
          refine zd rfl rfl hb18_16 ?_;refine za rfl ?_;refine zd rfl rfl hb18_12 ?_;refine zh rfl (fun _=>rfl) ?_;exact zb ⟨rfl,rfl⟩
         ·refine zl rfl rfl hb18_16 ?_;iterate 5 refine zl rfl rfl hb18_16 ?_
          refine zd rfl rfl hb18_12 ?_;exact zh rfl (fun h=>absurd (h.symm.trans hb18_16) (by decide)) (zb ⟨rfl,rfl⟩)
        refine yz rfl (fun _=>rfl) ?_;exact zb ⟨rfl,rfl⟩
       ·refine zl rfl rfl hb18_12 ?_;iterate 2 refine zl rfl rfl hb18_12 ?_
        iterate 7 refine zb7 rfl rfl ?_
        refine zl rfl rfl hb18_12 ?_;exact yz rfl (fun h=>absurd (h.symm.trans hb18_12) (by decide)) (zb ⟨rfl,rfl⟩)
      refine zb ?_;refine zi rfl (fun hc6=>?_) (fun hc6=>?_)
      ·exact absurd hc6 (by simp)
      ·(try simp only [zf] at hc6)
       refine zt ?_;refine z4 zc [] rfl ?_;refine xg rfl rfl zu ?_;refine za rfl ?_;refine zb ?_;refine ⟨j + 1,by (try dsimp only);omega,?_,(by refine ⟨[some 0,some 1],rfl,yb,ya,?_,?_⟩ <;> (repeat' first | exact trivial | exact yc | exact yd | exact z9 rfl | refine zn ?_ ?_ | refine zk rfl ?_ ?_ | refine zj ?_ ?_ | refine ye rfl ?_ | fail) <;> first | exact yv | (first | exact CvL.eq rfl (xk _) | exact Cv.pure (by simp only [T.pure,zg])))⟩
       omega
    ·(try simp only [zf] at hc4);have hc4a:=(hat.resolve_left (fun h=>by have:=h.1;omega)).2
     rw [hc4a]
     refine zt ?_;refine ze zc [] rfl ?_;iterate 4 refine za rfl ?_
     refine' zx (d:=94) [_,_,_,_,_,_,_,_] rfl ?_ rfl ?_
     rotate_left
     ·refine zw rfl rfl (fun hb18_3=>?_) (fun hb18_3=>?_)
      ·have ghb18_3:=hb18_3
       try simp only [zf,Bool.not_true,Bool.not_false] at ghb18_3
       have q6:=h6 (by omega)
       refine za rfl ?_;refine zd rfl rfl hb18_3 ?_;refine za rfl ?_;refine zd rfl rfl hb18_3 ?_;refine za rfl ?_;refine zd rfl rfl hb18_3 ?_;refine zr (m:=1) rfl rfl rfl rfl rfl rfl zu ?_;refine zd rfl rfl hb18_3 ?_;refine zm rfl rfl yn ?_;refine zd rfl rfl hb18_3 ?_;refine yy zc rfl rfl rfl (look84 _ _) ?_;rw [show decide (r.n[1]!∈mkI 3145728 m2.made) = true from decide_eq_true (rp.2 ⟨q6.2.1,q6.2.2⟩)]
       refine zd rfl rfl hb18_3 ?_;refine za rfl ?_;refine zh rfl (fun _=>rfl) ?_;exact zb ⟨rfl,rfl⟩
      ·refine zl rfl rfl hb18_3 ?_;iterate 5 refine zl rfl rfl hb18_3 ?_
       exact zh rfl (fun h=>absurd (h.symm.trans hb18_3) (by decide)) (zb ⟨rfl,rfl⟩)
     refine za rfl ?_;refine' zx (d:=108) [_,_,_,_,_,_,_,_,_,_,_,_,_] rfl ?_ rfl ?_
     rotate_left
     ·refine zw rfl rfl (fun hb18_12=>?_) (fun hb18_12=>?_)
      ·have ghb18_12:=hb18_12
       try simp only [zf,Bool.not_true,Bool.not_false] at ghb18_12
       refine za rfl ?_;refine zd rfl rfl hb18_12 ?_;refine za rfl ?_;refine zd rfl rfl hb18_12 ?_;refine za rfl ?_;refine zd rfl rfl hb18_12 ?_;refine za rfl ?_;refine' zx (d:=107) [_,_,_,_,_,_,_,_] rfl ?_ rfl ?_
       rotate_left
       ·refine zw rfl rfl (fun hb18_16=>?_) (fun hb18_16=>?_)
        ·have ghb18_16:=hb18_16
         try simp only [zf,Bool.not_true,Bool.not_false] at ghb18_16
         have q36:=h36 (by omega)
         refine za rfl ?_;refine zd rfl rfl hb18_16 ?_;refine za rfl ?_;refine zd rfl rfl hb18_16 ?_;refine za rfl ?_;refine zd rfl rfl hb18_16 ?_;refine zr (m:=0) rfl rfl rfl rfl rfl rfl zu ?_;refine zd rfl rfl hb18_16 ?_;refine zm rfl rfl yn ?_;refine zd rfl rfl hb18_16 ?_;refine yy zc rfl rfl rfl (look84 _ _) ?_;rw [show decide (r.n[0]!∈mkI 3145728 m2.made) = true from decide_eq_true (rp.2 ⟨q36.2.1,q36.2.2⟩)]
         refine zd rfl rfl hb18_16 ?_;refine za rfl ?_;refine zd rfl rfl hb18_12 ?_;refine zh rfl (fun _=>rfl) ?_;exact zb ⟨rfl,rfl⟩
        ·refine zl rfl rfl hb18_16 ?_;iterate 5 refine zl rfl rfl hb18_16 ?_
         refine zd rfl rfl hb18_12 ?_;exact zh rfl (fun h=>absurd (h.symm.trans hb18_16) (by decide)) (zb ⟨rfl,rfl⟩)
       refine yz rfl (fun _=>rfl) ?_;exact zb ⟨rfl,rfl⟩
      ·refine zl rfl rfl hb18_12 ?_;iterate 2 refine zl rfl rfl hb18_12 ?_
       iterate 7 refine zb7 rfl rfl ?_
       refine zl rfl rfl hb18_12 ?_;exact yz rfl (fun h=>absurd (h.symm.trans hb18_12) (by decide)) (zb ⟨rfl,rfl⟩)
     refine zb ?_;refine zi rfl (fun hc6=>?_) (fun hc6=>?_)
     ·exact absurd hc6 (by simp)
     ·(try simp only [zf] at hc6)
      refine zt ?_;refine z4 zc [] rfl ?_;refine xg rfl rfl zu ?_;refine za rfl ?_;refine zb ?_;refine ⟨j + 1,by (try dsimp only);omega,?_,(by refine ⟨[some 0,some 1],rfl,yb,ya,?_,?_⟩ <;> (repeat' first | exact trivial | exact yc | exact yd | exact z9 rfl | refine zn ?_ ?_ | refine zk rfl ?_ ?_ | refine zj ?_ ?_ | refine ye rfl ?_ | fail) <;> first | exact yv | (first | exact CvL.eq rfl (xk _) | exact Cv.pure (by simp only [T.pure,zg])))⟩
      omega
   ·(try simp only [zf] at hc3);have hjj : cM m.made m2.made j = m2.made:=(by rw [show j = rs.length by omega];exact gd.fin)
    rw [hjj]
    refine y7 ?_;refine ze zc [] rfl ?_;refine za (t:=mgT m2) rfl ?_;refine zp rfl rfl rfl rfl rfl (Nat.le_of_ble_eq_true rfl) (vo _) ?_;refine zb ?_;refine ze zc [] rfl ?_;refine xu ?_;refine za rfl ?_;refine zb ?_;refine ze zc [] rfl ?_;refine za (t:=mgT m2) rfl ?_;refine zq rfl rfl (CallT.frame (zdd m2 _ okn hfr (by have:=okn.lens.1;have:=okn.cnt;omega)) [] rfl z3 z3 ?_)
    rintro _ _ ⟨ids,p,hq,hpi,rfl,rfl⟩;refine frK zy zy ?_;iterate 2 refine za rfl ?_
    refine zb ?_;refine z7 ([(3,.ptr 0 0),(6,.om 1),(13,.om 2),(113,.islc (encL cD ids) ids.length none)]) ([.c (mgC m2),.o (mapP (kK .i64 (mkI 3145728 m2.made)) (tK (mkI 3145728 m2.made))),.o (mapP [] [])]) [30,31,32,114,115] rfl (by refine ⟨[some 0,some 1,some 2],rfl,yb,ya,?_,?_⟩ <;> (repeat' first | exact trivial | exact yc | exact yd | exact z9 rfl | refine zn ?_ ?_ | refine zk rfl ?_ ?_ | refine zj ?_ ?_ | refine ye rfl ?_ | fail) <;> first | exact yv | (first | exact CvL.eq rfl (xk _) | exact Cv.fslc0 (b:=4) ⟨rfl,(show some 4∉[some 0,some 1,some 2] by simp)⟩ (CvL.pure (zg cD _)))) ?_
    refine yf ?_;refine xo (σ:=Nat) (fun j=>ids.length - j) (fun j=>j≤ids.length) (fun j=>[(115,I64 j),(113,.islc (encL cD ids) ids.length none),(3,.ptr 0 0),(6,.om 1),(13,.om 2)]) (fun j=>[.c (mgC m2),.o (mapP (kK .i64 (mkI 3145728 m2.made)) (tK (mkI 3145728 m2.made))),.o (mapP (kK .u32 (frs m2.F (ids.take j))) (tK (frs m2.F (ids.take j))))]) [30,31,32,114] rfl (0) ?_ ?_ ?_
    ·refine ⟨[some 0,some 1,some 2],rfl,yb,ya,?_,?_⟩ <;> (repeat' first | exact trivial | exact yc | exact yd | exact z9 rfl | refine zn ?_ ?_ | refine zk rfl ?_ ?_ | refine zj ?_ ?_ | refine ye rfl ?_ | fail) <;> first | exact yv | (first | exact CvL.pure (xk _) | exact CvL.eq rfl (xk _) | exact Cv.pure (by simp only [T.pure,zg]))
    ·exact Nat.zero_le _
    rintro j hj;refine ze zc [] rfl ?_;refine za rfl ?_;refine zb ?_;refine zo ?_;refine zi rfl (fun hc7=>?_) (fun hc7=>?_)
    ·(try simp only [zf] at hc7);have hil : ids.length≤60000:=(by have:=okn.lens.1;have:=okn.cnt;rw [hq.length_eq,List.length_map];omega);have hjl : j < ids.length:=(by omega);have hjm : ids[j]!∈ids:=List.mem_iff_getElem?.2 ⟨j,getE hjl⟩
     obtain ⟨e,he,hlk,hid⟩:=zcl okn.fk (hq.subset hjm)
     have hib:=okn.ids.1 e he
     have hfo:=zde m2 _ okn (by omega) hfr ids[j]! (by omega)
     have hnw:=frs_new okn.fk okn.frs hq hjl
     have had:=frs_add m2.F hjl
     have hfb:=okn.fr e he
     rw [hlk] at hfo hnw had
     have hin : e.2.fr∈mkI 3145728 m2.made:=rp.2 (by rw [hbn] at hfb;exact hfb)
     have hcn2:=okn.cnt
     rw [hbn] at hfb
     refine zt ?_;refine zo ?_;refine yf ?_;refine ze zc [] rfl ?_;refine zr rfl rfl rfl rfl rfl rfl zu ?_;refine zm rfl rfl yn ?_;refine za rfl ?_;refine zb ?_;refine ze zc [] rfl ?_;refine za (t:=mgT m2) rfl ?_;refine za rfl ?_;refine z6 rfl rfl rfl (hfo) ?_;iterate 5 refine za rfl ?_
     refine zb ?_;refine zo ?_;refine ze zc [] rfl ?_;iterate 3 refine za rfl ?_
     refine zd rfl rfl (rfl) ?_;refine za rfl ?_;refine zd rfl rfl (rfl) ?_;refine za rfl ?_;refine zd rfl rfl (rfl) ?_;refine yy zc rfl rfl rfl (look89 _ _) ?_;rw [show decide (e.2.fr∈frs m2.F (ids.take j)) = false from decide_eq_false hnw]
     iterate 2 refine za rfl ?_
     refine zd rfl rfl (rfl) ?_;refine za rfl ?_;refine zd rfl rfl (rfl) ?_;refine za rfl ?_;refine zd rfl rfl (rfl) ?_;refine za (t:=I64 e.2.fr) (by show some (T.v (.int .i64 (IntKind.i64.wrap e.2.fr)),(none : Option (Nat × List T))) = _;rw [w4 zu]) ?_;refine zd rfl rfl (rfl) ?_;refine yy zc rfl rfl rfl (look84 _ _) ?_;rw [show decide (e.2.fr∈mkI 3145728 m2.made) = true from decide_eq_true hin]
     refine zd rfl rfl (rfl) ?_;iterate 2 refine za rfl ?_
     refine zb ?_;refine yq rfl ?_;refine zt ?_;refine z4 zc [] rfl ?_;iterate 2 refine za rfl ?_
     refine u1 zc rfl rfl rfl rfl rfl rfl rfl (show _ = some (BL true) from rfl) (by exact likeKK _ _ _) (newK hnw) ?_;rw [addK,had]
     refine zb ?_;refine z4 zc [] rfl ?_;refine xg rfl rfl zu ?_;refine za rfl ?_;refine zb ?_;refine ⟨j + 1,by (try dsimp only);omega,?_,(by refine ⟨[some 0,some 1,some 2],rfl,yb,ya,?_,?_⟩ <;> (repeat' first | exact trivial | exact yc | exact yd | exact z9 rfl | refine zn ?_ ?_ | refine zk rfl ?_ ?_ | refine zj ?_ ?_ | refine ye rfl ?_ | fail) <;> first | exact yv | (first | exact CvL.eq rfl (xk _)))⟩
     omega
    ·(try simp only [zf] at hc7)
     refine y7 ?_;refine z4 zc [] rfl ?_;refine xg rfl rfl zu ?_;refine za rfl ?_;refine zb ?_;refine ⟨k + 1,m2,by (try dsimp only);omega,?_,(by refine ⟨[some 0,some 1],rfl,yb,ya,?_,?_⟩ <;> (repeat' first | exact trivial | exact yc | exact yd | exact z9 rfl | refine zn ?_ ?_ | refine zk rfl ?_ ?_ | refine zj ?_ ?_ | refine ye rfl ?_ | fail) <;> first | exact yv | (first | exact CvL.eq rfl (xk _) | exact Cv.pure (by simp only [T.pure,zg])))⟩
     exact ⟨by omega,okn.mono (by omega),hbn⟩
  ·(try simp only [zf] at hc2)
   refine y7 ?_;refine ze zc [] rfl ?_;refine z6 rfl rfl rfl (haw) ?_;refine za rfl ?_;refine zb ?_;refine yr ?_;exact ⟨trivial,_,rfl,Cv.eq (by first | rfl | (simp [*];done)) rfl⟩
theorem managerFrames_wt {t0 : List T} (h0 : (Sh.sl shOut).wt t0) (hb : tBL t0≤1048576) : CallP Tryd.prog 5 [(Sh.sl shOut).tree t0] (BL true):=by
 obtain ⟨l,e,hl⟩:=zc7 h0 hb
 rw [e]
 exact ru l hl
end
end Go.Proofs.YtjnomaiejmgedaaDoor
