/-
  The proof's lemmas, part 4.
-/
import Derived.Test.YtjnomaiejmgedaaDoorMkhc
namespace Go.Proofs.YtjnomaiejmgedaaDoor
set_option linter.unusedSimpArgs false
set_option linter.unusedVariables false

section
open Go.RowKit
set_option maxRecDepth 10000
set_option maxHeartbeats 2000000
theorem qp (m : Mg) (o : Ot) (m2 : Mg) (f : Fm) (hf2 : m2.fresh = false) (hk : o.kind = 1) (hrep : CallP Tryd.prog 61 [I64 o.code] (.tup [fmT f,BL true])) (hle : f.fx.length≤o.n.length) (hact : CallT Tryd.prog 62 [.ptr 0 0,otT o] (tnH m (mF m) (mW m) []) (fun t H'=>t = .tup []∧H' = tnH m2 (mF m2) (mW m2) []))
  (X Y : T) (hpX : X.pure = true) (hpY : Y.pure = true) (hcX : cellB X = true) (hcY : cellB Y = true)
  (hcF : CallT Tryd.prog 58 [.om 0,X] [.o (mapP [] [])] (fun t H'=>t = .tup []∧∃ p : OP,p.pi = true∧H' = [.o (mF m),.o p]))
  (hcW : CallT Tryd.prog 59 [.om 0,Y] [.o (mapP [] [])] (fun t H'=>t = .tup []∧∃ p : OP,p.pi = true∧H' = [.o (mW m),.o p])) :
  CallP Tryd.prog 31 [.agg [.v (.int .u32 m.base),I64 m.cnt,I64 m.made,I64 m.w,I64 m.h,X,Y,BL m.on,I64 m.df,I64 m.dx,I64 m.dy],otT o] (.tup [mgT m2,rqN []]):=by
 have hot:=x8 o
 have hpF:=piF m.F
 have hpW:=piW m.W
 have hpF2:=piF m2.F
 have hpW2:=piW m2.W
 have hp3:=xn m2
 have hp4:=xm m2
 refine CallP.intro2 yw yw ?_;refine CallT.intro zc Tryd.func31 rfl (by kernel_rfl) (Nat.le_of_ble_eq_true rfl) ?_;refine ze zc [2,3] rfl ?_;iterate 2 refine yx rfl rfl ?_
 refine yk rfl rfl ?_;refine za rfl ?_;refine zb ?_;refine ze zc [] rfl ?_;iterate 2 refine za rfl ?_
 refine yk rfl rfl ?_;refine zp rfl rfl rfl rfl rfl (Nat.le_of_ble_eq_true rfl) (by show (true && (true && (true && (true && (true && (cellB X && (cellB Y && (true && (true && (true && (true && (true && true)))))))))))) = true;rw [hcX,hcY];rfl) ?_;refine zb ?_;refine ze zc [] rfl ?_;iterate 2 refine xu ?_
 iterate 2 refine za rfl ?_
 refine zp rfl rfl rfl rfl rfl xf rfl ?_;iterate 2 refine za rfl ?_
 refine zp rfl rfl rfl rfl rfl xf rfl ?_;refine zb ?_;refine ze zc [] rfl ?_;iterate 5 refine za rfl ?_
 refine zq rfl rfl (CallT.frame (hcF) [2] rfl z3 z3 ?_)
 rintro _ _ ⟨rfl,p1,hp1,rfl⟩;refine frK zy zy ?_;refine zb ?_;refine ze zc [] rfl ?_;iterate 5 refine za rfl ?_
 refine zq rfl rfl (CallT.frame (hcW) [3] rfl z3 z3 ?_)
 rintro _ _ ⟨rfl,p2,hp2,rfl⟩;refine frK zy zy ?_;refine zb ?_;refine z7 ([(6,.ptr 0 0),(4,.ptr 4 0)]) ([.c (tnC m (askT 3 [])),.o (mF m),.o (mW m),.c (encL cRn []),.c zMg]) [3] rfl (by refine ⟨[some 1,some 2,some 3,none,some 0],rfl,yb,ya,?_,?_⟩ <;> (repeat' first | exact trivial | exact yc | exact yd | exact z9 rfl | refine zn ?_ ?_ | refine zk rfl ?_ ?_ | refine zj ?_ ?_ | refine ye rfl ?_ | fail) <;> first | exact yv | (first | exact CvL.pure rfl | exact Cv.ptr rfl | exact CvL.cons (Cv.pure rfl) (CvL.cons (Cv.pure rfl) (CvL.cons (Cv.pure rfl) (CvL.cons (Cv.pure rfl) (CvL.cons (Cv.pure rfl) (CvL.cons (Cv.om rfl) (CvL.cons (Cv.om rfl) (CvL.cons (Cv.pure rfl) (CvL.cons (Cv.pure rfl) (CvL.cons (Cv.pure rfl) (CvL.cons (Cv.pure rfl) (CvL.cons (Cv.nilv rfl) CvL.nil))))))))))))) ?_
 refine zo ?_;refine ze zc [] rfl ?_;iterate 2 refine za rfl ?_
 refine zb ?_;refine yf ?_;refine ze zc [] rfl ?_;iterate 2 refine za rfl ?_
 refine zb ?_;refine zi rfl (fun hc0=>?_) (fun hc0=>?_)
 ·exact absurd hc0 (by simp [hk])
 ·(try simp only [zf] at hc0)
  refine ze zc [] rfl ?_;iterate 2 refine za rfl ?_
  refine zb ?_;refine zi rfl (fun hc1=>?_) (fun hc1=>?_)
  ·(try simp only [zf] at hc1)
   refine ze zc [] rfl ?_;iterate 2 refine za rfl ?_
   refine z6 rfl rfl rfl (hrep) ?_;iterate 3 refine za rfl ?_
   refine yk rfl rfl ?_;refine zp rfl rfl rfl rfl rfl xf rfl ?_;refine za rfl ?_;refine zb ?_;refine ze zc [] rfl ?_;iterate 2 refine za rfl ?_
   refine' zx (d:=56) [_,_,_,_,_,_,_,_] rfl ?_ rfl ?_
   rotate_left
   ·refine zw rfl rfl (fun hb10_1=>?_) (fun hb10_1=>?_)
    ·have ghb10_1:=hb10_1
     try simp only [zf,Bool.not_true,Bool.not_false] at ghb10_1
     refine za rfl ?_;refine zd rfl rfl hb10_1 ?_;refine za rfl ?_;refine zd rfl rfl hb10_1 ?_;refine za rfl ?_;refine zd rfl rfl hb10_1 ?_;refine za rfl ?_;refine zd rfl rfl hb10_1 ?_;refine za rfl ?_;refine zd rfl rfl hb10_1 ?_;refine za rfl ?_;refine zd rfl rfl hb10_1 ?_;refine za rfl ?_;refine zh rfl (fun _=>rfl) ?_;exact zb ⟨rfl,rfl⟩
    ·refine zl rfl rfl hb10_1 ?_;iterate 5 refine zl rfl rfl hb10_1 ?_
     exact zh rfl (fun h=>absurd (h.symm.trans hb10_1) (by decide)) (zb ⟨rfl,rfl⟩)
   refine zb ?_;refine zi rfl (fun hc2=>?_) (fun hc2=>?_)
   ·(try simp only [zf] at hc2)
    refine z4 zc [] rfl ?_;refine za rfl ?_;refine zq rfl rfl (CallT.frame (hact) [0,1,2,3] rfl z3 z3 ?_)
    rintro _ _ ⟨rfl,rfl⟩;refine frK zy zy ?_;refine zb ?_;refine vu zc [] [_,_,_,_,_] (_) rfl yj yj yj (x0 (b:=4) (xz _) (Nat.le_of_ble_eq_true rfl)) ?_;refine uq (l1:=[_,_,_,_]) rfl ?_;iterate 4 refine za rfl ?_
    refine zb ?_;refine uo rfl rfl rfl rfl ?_;refine ur (⟨rfl,Nat.le_of_ble_eq_true rfl,rfl,trivial⟩) ?_;refine za rfl ?_;refine zb ?_;refine yr ?_;exact ⟨trivial,_,rfl,Cv.tup (CvL.cons (Cv.agg (pn hf2 (Cv.fom ⟨rfl,(by simp)⟩ (CvL.pure (pF m2.F))) (Cv.fom ⟨rfl,(by simp)⟩ (CvL.pure (pW m2.W))))) (CvL.cons (Cv.fslc0 ⟨rfl,(by simp)⟩ (CvL.pure (zg _ _))) CvL.nil))⟩
   ·exact absurd hc2 (by simp;omega)
  ·exact absurd hc1 (by simp [hk])
theorem zfu (m : Mg) (o : Ot) (m2 : Mg) (f : Fm) (r1 : Rq) (hf2 : m2.fresh = false) (hk : o.kind = 1) (hrep : CallP Tryd.prog 61 [I64 o.code] (.tup [fmT f,BL true])) (hle : f.fx.length≤o.n.length) (hact : CallT Tryd.prog 62 [.ptr 0 0,otT o] (tnH m (mF m) (mW m) []) (fun t H'=>t = .tup []∧H' = tnH1 m2 (mF m2) (mW m2) [r1]))
  (X Y : T) (hpX : X.pure = true) (hpY : Y.pure = true) (hcX : cellB X = true) (hcY : cellB Y = true)
  (hcF : CallT Tryd.prog 58 [.om 0,X] [.o (mapP [] [])] (fun t H'=>t = .tup []∧∃ p : OP,p.pi = true∧H' = [.o (mF m),.o p]))
  (hcW : CallT Tryd.prog 59 [.om 0,Y] [.o (mapP [] [])] (fun t H'=>t = .tup []∧∃ p : OP,p.pi = true∧H' = [.o (mW m),.o p])) :
  CallP Tryd.prog 31 [.agg [.v (.int .u32 m.base),I64 m.cnt,I64 m.made,I64 m.w,I64 m.h,X,Y,BL m.on,I64 m.df,I64 m.dx,I64 m.dy],otT o] (.tup [mgT m2,rqN [r1]]):=by
 have hot:=x8 o
 have hpF:=piF m.F
 have hpW:=piW m.W
 have hpF2:=piF m2.F
 have hpW2:=piW m2.W
 have hp3:=xn m2
 have hp4:=xm m2
 refine CallP.intro2 yw yw ?_;refine CallT.intro zc Tryd.func31 rfl (by kernel_rfl) (Nat.le_of_ble_eq_true rfl) ?_;refine ze zc [2,3] rfl ?_;iterate 2 refine yx rfl rfl ?_
 refine yk rfl rfl ?_;refine za rfl ?_;refine zb ?_;refine ze zc [] rfl ?_;iterate 2 refine za rfl ?_
 refine yk rfl rfl ?_;refine zp rfl rfl rfl rfl rfl (Nat.le_of_ble_eq_true rfl) (by show (true && (true && (true && (true && (true && (cellB X && (cellB Y && (true && (true && (true && (true && (true && true)))))))))))) = true;rw [hcX,hcY];rfl) ?_;refine zb ?_;refine ze zc [] rfl ?_;iterate 2 refine xu ?_
 iterate 2 refine za rfl ?_
 refine zp rfl rfl rfl rfl rfl xf rfl ?_;iterate 2 refine za rfl ?_
 refine zp rfl rfl rfl rfl rfl xf rfl ?_;refine zb ?_;refine ze zc [] rfl ?_;iterate 5 refine za rfl ?_
 refine zq rfl rfl (CallT.frame (hcF) [2] rfl z3 z3 ?_)
 rintro _ _ ⟨rfl,p1,hp1,rfl⟩;refine frK zy zy ?_;refine zb ?_;refine ze zc [] rfl ?_;iterate 5 refine za rfl ?_
 refine zq rfl rfl (CallT.frame (hcW) [3] rfl z3 z3 ?_)
 rintro _ _ ⟨rfl,p2,hp2,rfl⟩;refine frK zy zy ?_;refine zb ?_;refine z7 ([(6,.ptr 0 0),(4,.ptr 4 0)]) ([.c (tnC m (askT 3 [])),.o (mF m),.o (mW m),.c (encL cRn []),.c zMg]) [3] rfl (by refine ⟨[some 1,some 2,some 3,none,some 0],rfl,yb,ya,?_,?_⟩ <;> (repeat' first | exact trivial | exact yc | exact yd | exact z9 rfl | refine zn ?_ ?_ | refine zk rfl ?_ ?_ | refine zj ?_ ?_ | refine ye rfl ?_ | fail) <;> first | exact yv | (first | exact CvL.pure rfl | exact Cv.ptr rfl | exact CvL.cons (Cv.pure rfl) (CvL.cons (Cv.pure rfl) (CvL.cons (Cv.pure rfl) (CvL.cons (Cv.pure rfl) (CvL.cons (Cv.pure rfl) (CvL.cons (Cv.om rfl) (CvL.cons (Cv.om rfl) (CvL.cons (Cv.pure rfl) (CvL.cons (Cv.pure rfl) (CvL.cons (Cv.pure rfl) (CvL.cons (Cv.pure rfl) (CvL.cons (Cv.nilv rfl) CvL.nil))))))))))))) ?_
 refine zo ?_;refine ze zc [] rfl ?_;iterate 2 refine za rfl ?_
 refine zb ?_;refine yf ?_;refine ze zc [] rfl ?_;iterate 2 refine za rfl ?_
 refine zb ?_;refine zi rfl (fun hc0=>?_) (fun hc0=>?_)
 ·exact absurd hc0 (by simp [hk])
 ·(try simp only [zf] at hc0)
  refine ze zc [] rfl ?_;iterate 2 refine za rfl ?_
  refine zb ?_;refine zi rfl (fun hc1=>?_) (fun hc1=>?_)
  ·(try simp only [zf] at hc1)
   refine ze zc [] rfl ?_;iterate 2 refine za rfl ?_
   refine z6 rfl rfl rfl (hrep) ?_;iterate 3 refine za rfl ?_
   refine yk rfl rfl ?_;refine zp rfl rfl rfl rfl rfl xf rfl ?_;refine za rfl ?_;refine zb ?_;refine ze zc [] rfl ?_;iterate 2 refine za rfl ?_
   refine' zx (d:=56) [_,_,_,_,_,_,_,_] rfl ?_ rfl ?_
   rotate_left
   ·refine zw rfl rfl (fun hb10_1=>?_) (fun hb10_1=>?_)
    ·have ghb10_1:=hb10_1
     try simp only [zf,Bool.not_true,Bool.not_false] at ghb10_1
     refine za rfl ?_;refine zd rfl rfl hb10_1 ?_;refine za rfl ?_;refine zd rfl rfl hb10_1 ?_;refine za rfl ?_;refine zd rfl rfl hb10_1 ?_;refine za rfl ?_;refine zd rfl rfl hb10_1 ?_;refine za rfl ?_;refine zd rfl rfl hb10_1 ?_;refine za rfl ?_;refine zd rfl rfl hb10_1 ?_;refine za rfl ?_;refine zh rfl (fun _=>rfl) ?_;exact zb ⟨rfl,rfl⟩
    ·refine zl rfl rfl hb10_1 ?_;iterate 5 refine zl rfl rfl hb10_1 ?_
     exact zh rfl (fun h=>absurd (h.symm.trans hb10_1) (by decide)) (zb ⟨rfl,rfl⟩)
   refine zb ?_;refine zi rfl (fun hc2=>?_) (fun hc2=>?_)
   ·(try simp only [zf] at hc2)
    refine z4 zc [] rfl ?_;refine za rfl ?_;refine zq rfl rfl (CallT.frame (hact) [0,1,2,3] rfl z3 z3 ?_)
    rintro _ _ ⟨rfl,rfl⟩;refine frK zy zy ?_;refine zb ?_;refine vu zc [] [_,_,_,_,_] (_) rfl yj yj yj (x0 (b:=4) (xz _) (Nat.le_of_ble_eq_true rfl)) ?_;refine uq (l1:=[_,_,_,_]) rfl ?_;iterate 4 refine za rfl ?_
    refine zb ?_;refine uo rfl rfl rfl rfl ?_;refine ur (⟨rfl,Nat.le_of_ble_eq_true rfl,rfl,trivial⟩) ?_;refine za rfl ?_;refine zb ?_;refine yr ?_;exact ⟨trivial,_,rfl,Cv.tup (CvL.cons (Cv.agg (pn hf2 (Cv.fom ⟨rfl,(by simp)⟩ (CvL.pure (pF m2.F))) (Cv.fom ⟨rfl,(by simp)⟩ (CvL.pure (pW m2.W))))) (CvL.cons (Cv.fslc0 ⟨rfl,(by simp)⟩ (CvL.pure (zg _ _))) CvL.nil))⟩
   ·exact absurd hc2 (by simp;omega)
  ·exact absurd hc1 (by simp [hk])
theorem zft (m : Mg) (o : Ot) (m2 : Mg) (f : Fm) (r1 r2 : Rq) (rs : List Rq) (hf2 : m2.fresh = false) (hk : o.kind = 1) (hrep : CallP Tryd.prog 61 [I64 o.code] (.tup [fmT f,BL true])) (hle : f.fx.length≤o.n.length) (hact : CallT Tryd.prog 62 [.ptr 0 0,otT o] (tnH m (mF m) (mW m) []) (fun t H'=>t = .tup []∧H' = tnH2 m2 (mF m2) (mW m2) (r1 :: r2 :: rs)))
  (X Y : T) (hpX : X.pure = true) (hpY : Y.pure = true) (hcX : cellB X = true) (hcY : cellB Y = true)
  (hcF : CallT Tryd.prog 58 [.om 0,X] [.o (mapP [] [])] (fun t H'=>t = .tup []∧∃ p : OP,p.pi = true∧H' = [.o (mF m),.o p]))
  (hcW : CallT Tryd.prog 59 [.om 0,Y] [.o (mapP [] [])] (fun t H'=>t = .tup []∧∃ p : OP,p.pi = true∧H' = [.o (mW m),.o p])) :
  CallP Tryd.prog 31 [.agg [.v (.int .u32 m.base),I64 m.cnt,I64 m.made,I64 m.w,I64 m.h,X,Y,BL m.on,I64 m.df,I64 m.dx,I64 m.dy],otT o] (.tup [mgT m2,rqN (r1 :: r2 :: rs)]):=by
 have hot:=x8 o
 have hpF:=piF m.F
 have hpW:=piW m.W
 have hpF2:=piF m2.F
 have hpW2:=piW m2.W
 have hp3:=xn m2
 have hp4:=xm m2
 refine CallP.intro2 yw yw ?_;refine CallT.intro zc Tryd.func31 rfl (by kernel_rfl) (Nat.le_of_ble_eq_true rfl) ?_;refine ze zc [2,3] rfl ?_;iterate 2 refine yx rfl rfl ?_
 refine yk rfl rfl ?_;refine za rfl ?_;refine zb ?_;refine ze zc [] rfl ?_;iterate 2 refine za rfl ?_
 refine yk rfl rfl ?_;refine zp rfl rfl rfl rfl rfl (Nat.le_of_ble_eq_true rfl) (by show (true && (true && (true && (true && (true && (cellB X && (cellB Y && (true && (true && (true && (true && (true && true)))))))))))) = true;rw [hcX,hcY];rfl) ?_;refine zb ?_;refine ze zc [] rfl ?_;iterate 2 refine xu ?_
 iterate 2 refine za rfl ?_
 refine zp rfl rfl rfl rfl rfl xf rfl ?_;iterate 2 refine za rfl ?_
 refine zp rfl rfl rfl rfl rfl xf rfl ?_;refine zb ?_;refine ze zc [] rfl ?_;iterate 5 refine za rfl ?_
 refine zq rfl rfl (CallT.frame (hcF) [2] rfl z3 z3 ?_)
 rintro _ _ ⟨rfl,p1,hp1,rfl⟩;refine frK zy zy ?_;refine zb ?_;refine ze zc [] rfl ?_;iterate 5 refine za rfl ?_
 refine zq rfl rfl (CallT.frame (hcW) [3] rfl z3 z3 ?_)
 rintro _ _ ⟨rfl,p2,hp2,rfl⟩;refine frK zy zy ?_;refine zb ?_;refine z7 ([(6,.ptr 0 0),(4,.ptr 4 0)]) ([.c (tnC m (askT 3 [])),.o (mF m),.o (mW m),.c (encL cRn []),.c zMg]) [3] rfl (by refine ⟨[some 1,some 2,some 3,none,some 0],rfl,yb,ya,?_,?_⟩ <;> (repeat' first | exact trivial | exact yc | exact yd | exact z9 rfl | refine zn ?_ ?_ | refine zk rfl ?_ ?_ | refine zj ?_ ?_ | refine ye rfl ?_ | fail) <;> first | exact yv | (first | exact CvL.pure rfl | exact Cv.ptr rfl | exact CvL.cons (Cv.pure rfl) (CvL.cons (Cv.pure rfl) (CvL.cons (Cv.pure rfl) (CvL.cons (Cv.pure rfl) (CvL.cons (Cv.pure rfl) (CvL.cons (Cv.om rfl) (CvL.cons (Cv.om rfl) (CvL.cons (Cv.pure rfl) (CvL.cons (Cv.pure rfl) (CvL.cons (Cv.pure rfl) (CvL.cons (Cv.pure rfl) (CvL.cons (Cv.nilv rfl) CvL.nil))))))))))))) ?_
 refine zo ?_;refine ze zc [] rfl ?_;iterate 2 refine za rfl ?_
 refine zb ?_;refine yf ?_;refine ze zc [] rfl ?_;iterate 2 refine za rfl ?_
 refine zb ?_;refine zi rfl (fun hc0=>?_) (fun hc0=>?_)
 ·exact absurd hc0 (by simp [hk])
 ·(try simp only [zf] at hc0)
  refine ze zc [] rfl ?_;iterate 2 refine za rfl ?_
  refine zb ?_;refine zi rfl (fun hc1=>?_) (fun hc1=>?_)
  ·(try simp only [zf] at hc1)
   refine ze zc [] rfl ?_;iterate 2 refine za rfl ?_
   refine z6 rfl rfl rfl (hrep) ?_;iterate 3 refine za rfl ?_
   refine yk rfl rfl ?_;refine zp rfl rfl rfl rfl rfl xf rfl ?_;refine za rfl ?_;refine zb ?_;refine ze zc [] rfl ?_;iterate 2 refine za rfl ?_
   refine' zx (d:=56) [_,_,_,_,_,_,_,_] rfl ?_ rfl ?_
   rotate_left
   ·refine zw rfl rfl (fun hb10_1=>?_) (fun hb10_1=>?_)
    ·have ghb10_1:=hb10_1
     try simp only [zf,Bool.not_true,Bool.not_false] at ghb10_1
     refine za rfl ?_;refine zd rfl rfl hb10_1 ?_;refine za rfl ?_;refine zd rfl rfl hb10_1 ?_;refine za rfl ?_;refine zd rfl rfl hb10_1 ?_;refine za rfl ?_;refine zd rfl rfl hb10_1 ?_;refine za rfl ?_;refine zd rfl rfl hb10_1 ?_;refine za rfl ?_;refine zd rfl rfl hb10_1 ?_;refine za rfl ?_;refine zh rfl (fun _=>rfl) ?_;exact zb ⟨rfl,rfl⟩
    ·refine zl rfl rfl hb10_1 ?_;iterate 5 refine zl rfl rfl hb10_1 ?_
     exact zh rfl (fun h=>absurd (h.symm.trans hb10_1) (by decide)) (zb ⟨rfl,rfl⟩)
   refine zb ?_;refine zi rfl (fun hc2=>?_) (fun hc2=>?_)
   ·(try simp only [zf] at hc2)
    refine z4 zc [] rfl ?_;refine za rfl ?_;refine zq rfl rfl (CallT.frame (hact) [0,1,2,3] rfl z3 z3 ?_)
    rintro _ _ ⟨rfl,rfl⟩;refine frK zy zy ?_;refine zb ?_;refine vu zc [] [_,_,_,_,_] (_) rfl yj yj yj (x0 (b:=4) (xz _) (Nat.le_of_ble_eq_true rfl)) ?_;refine uq (l1:=[_,_,_,_]) rfl ?_;iterate 4 refine za rfl ?_
    refine zb ?_;refine uo rfl rfl rfl rfl ?_;refine ur (⟨rfl,Nat.le_of_ble_eq_true rfl,rfl,trivial⟩) ?_;refine za rfl ?_;refine zb ?_;refine yr ?_;exact ⟨trivial,_,rfl,Cv.tup (CvL.cons (Cv.agg (pn hf2 (Cv.fom ⟨rfl,(by simp)⟩ (CvL.pure (pF m2.F))) (Cv.fom ⟨rfl,(by simp)⟩ (CvL.pure (pW m2.W))))) (CvL.cons (Cv.fslc0 ⟨rfl,(by simp)⟩ (CvL.pure (zg _ _))) CvL.nil))⟩
   ·exact absurd hc2 (by simp;omega)
  ·exact absurd hc1 (by simp [hk])
theorem zh5 (m : Mg) (o : Ot) (f : Fm) (ok : Bool) (hf2 : m.fresh = false) (hk : o.kind = 1) (hrep : CallP Tryd.prog 61 [I64 o.code] (.tup [fmT f,BL ok])) (hle : ¬ (ok = true∧f.fx.length≤o.n.length))
  (X Y : T) (hpX : X.pure = true) (hpY : Y.pure = true) (hcX : cellB X = true) (hcY : cellB Y = true)
  (hcF : CallT Tryd.prog 58 [.om 0,X] [.o (mapP [] [])] (fun t H'=>t = .tup []∧∃ p : OP,p.pi = true∧H' = [.o (mF m),.o p]))
  (hcW : CallT Tryd.prog 59 [.om 0,Y] [.o (mapP [] [])] (fun t H'=>t = .tup []∧∃ p : OP,p.pi = true∧H' = [.o (mW m),.o p])) :
  CallP Tryd.prog 31 [.agg [.v (.int .u32 m.base),I64 m.cnt,I64 m.made,I64 m.w,I64 m.h,X,Y,BL m.on,I64 m.df,I64 m.dx,I64 m.dy],otT o] (.tup [mgT m,rqN []]):=by
 have hot:=x8 o
 have hpF2:=piF m.F
 have hpW2:=piW m.W
 have hp3:=xn m
 have hp4:=xm m
 refine CallP.intro2 yw yw ?_;refine CallT.intro zc Tryd.func31 rfl (by kernel_rfl) (Nat.le_of_ble_eq_true rfl) ?_;refine ze zc [2,3] rfl ?_;iterate 2 refine yx rfl rfl ?_
 refine yk rfl rfl ?_;refine za rfl ?_;refine zb ?_;refine ze zc [] rfl ?_;iterate 2 refine za rfl ?_
 refine yk rfl rfl ?_;refine zp rfl rfl rfl rfl rfl (Nat.le_of_ble_eq_true rfl) (by show (true && (true && (true && (true && (true && (cellB X && (cellB Y && (true && (true && (true && (true && (true && true)))))))))))) = true;rw [hcX,hcY];rfl) ?_;refine zb ?_;refine ze zc [] rfl ?_;iterate 2 refine xu ?_
 iterate 2 refine za rfl ?_
 refine zp rfl rfl rfl rfl rfl xf rfl ?_;iterate 2 refine za rfl ?_
 refine zp rfl rfl rfl rfl rfl xf rfl ?_;refine zb ?_;refine ze zc [] rfl ?_;iterate 5 refine za rfl ?_
 refine zq rfl rfl (CallT.frame (hcF) [2] rfl z3 z3 ?_)
 rintro _ _ ⟨rfl,p1,hp1,rfl⟩;refine frK zy zy ?_;refine zb ?_;refine ze zc [] rfl ?_;iterate 5 refine za rfl ?_
 refine zq rfl rfl (CallT.frame (hcW) [3] rfl z3 z3 ?_)
 rintro _ _ ⟨rfl,p2,hp2,rfl⟩;refine frK zy zy ?_;refine zb ?_;refine z7 ([(6,.ptr 0 0),(4,.ptr 4 0)]) ([.c (tnC m (askT 3 [])),.o (mF m),.o (mW m),.c (encL cRn []),.c zMg]) [3] rfl (by refine ⟨[some 1,some 2,some 3,none,some 0],rfl,yb,ya,?_,?_⟩ <;> (repeat' first | exact trivial | exact yc | exact yd | exact z9 rfl | refine zn ?_ ?_ | refine zk rfl ?_ ?_ | refine zj ?_ ?_ | refine ye rfl ?_ | fail) <;> first | exact yv | (first | exact CvL.pure rfl | exact Cv.ptr rfl | exact CvL.cons (Cv.pure rfl) (CvL.cons (Cv.pure rfl) (CvL.cons (Cv.pure rfl) (CvL.cons (Cv.pure rfl) (CvL.cons (Cv.pure rfl) (CvL.cons (Cv.om rfl) (CvL.cons (Cv.om rfl) (CvL.cons (Cv.pure rfl) (CvL.cons (Cv.pure rfl) (CvL.cons (Cv.pure rfl) (CvL.cons (Cv.pure rfl) (CvL.cons (Cv.nilv rfl) CvL.nil))))))))))))) ?_
 refine zo ?_;refine ze zc [] rfl ?_;iterate 2 refine za rfl ?_
 refine zb ?_;refine yf ?_;refine ze zc [] rfl ?_;iterate 2 refine za rfl ?_
 refine zb ?_;refine zi rfl (fun hc0=>?_) (fun hc0=>?_)
 ·exact absurd hc0 (by simp [hk])
 ·(try simp only [zf] at hc0)
  refine ze zc [] rfl ?_;iterate 2 refine za rfl ?_
  refine zb ?_;refine zi rfl (fun hc1=>?_) (fun hc1=>?_)
  ·(try simp only [zf] at hc1)
   refine ze zc [] rfl ?_;iterate 2 refine za rfl ?_
   refine z6 rfl rfl rfl (hrep) ?_;iterate 3 refine za rfl ?_
   refine yk rfl rfl ?_;refine zp rfl rfl rfl rfl rfl xf rfl ?_;refine za rfl ?_;refine zb ?_;refine ze zc [] rfl ?_;iterate 2 refine za rfl ?_
   refine' zx (d:=56) [_,_,_,_,_,_,_,_] rfl ?_ rfl ?_
   rotate_left
   ·refine zw rfl rfl (fun hb10_1=>?_) (fun hb10_1=>?_)
    ·have ghb10_1:=hb10_1
     try simp only [zf,Bool.not_true,Bool.not_false] at ghb10_1
     refine za rfl ?_;refine zd rfl rfl hb10_1 ?_;refine za rfl ?_;refine zd rfl rfl hb10_1 ?_;refine za rfl ?_;refine zd rfl rfl hb10_1 ?_;refine za rfl ?_;refine zd rfl rfl hb10_1 ?_;refine za rfl ?_;refine zd rfl rfl hb10_1 ?_;refine za rfl ?_;refine zd rfl rfl hb10_1 ?_;refine za rfl ?_;refine zh rfl (fun _=>rfl) ?_;exact zb ⟨rfl,rfl⟩
    ·refine zl rfl rfl hb10_1 ?_;iterate 5 refine zl rfl rfl hb10_1 ?_
     exact zh rfl (fun h=>absurd (h.symm.trans hb10_1) (by decide)) (zb ⟨rfl,rfl⟩)
   refine zb ?_;refine zi rfl (fun hc2=>?_) (fun hc2=>?_)
   ·exact absurd hc2 (by rintro k;apply hle;revert k;cases ok <;> simp)
   ·(try simp only [zf] at hc2)
    refine zt ?_;refine vu zc [] [_,_,_,_,_] (_) rfl yj yj yj (x0 (b:=4) (xz _) (Nat.le_of_ble_eq_true rfl)) ?_;refine uq (l1:=[_,_,_,_]) rfl ?_;iterate 4 refine za rfl ?_
    refine zb ?_;refine uo rfl rfl rfl rfl ?_;refine ur (⟨rfl,Nat.le_of_ble_eq_true rfl,rfl,trivial⟩) ?_;refine za rfl ?_;refine zb ?_;refine yr ?_;exact ⟨trivial,_,rfl,Cv.tup (CvL.cons (Cv.agg (pn hf2 (Cv.fom ⟨rfl,(by simp)⟩ (CvL.pure (pF m.F))) (Cv.fom ⟨rfl,(by simp)⟩ (CvL.pure (pW m.W))))) (CvL.cons (Cv.fslc0 ⟨rfl,(by simp)⟩ (CvL.pure (zg _ _))) CvL.nil))⟩
  ·exact absurd hc1 (by simp [hk])
theorem zfs (m : Mg) (o : Ot) (m2 : Mg) (f : Fm) (g : FuncId) (hf2 : m2.fresh = false) (hk : o.kind = 2) (hev : CallP Tryd.prog 63 [I64 o.code] (.tup [fmT f,BL true])) (hle : f.fx.length≤o.n.length) (hlk : mLook2 tab 138 evsK evsT (.int .i64 o.code) false = some (.clo g [] [])) (hact : CallT Tryd.prog g ([] ++ [.ptr 0 0,cIf o.n] ++ []) (tnH m (mF m) (mW m) []) (fun t H'=>t = .tup []∧H' = tnH m2 (mF m2) (mW m2) []))
  (X Y : T) (hpX : X.pure = true) (hpY : Y.pure = true) (hcX : cellB X = true) (hcY : cellB Y = true)
  (hcF : CallT Tryd.prog 58 [.om 0,X] [.o (mapP [] [])] (fun t H'=>t = .tup []∧∃ p : OP,p.pi = true∧H' = [.o (mF m),.o p]))
  (hcW : CallT Tryd.prog 59 [.om 0,Y] [.o (mapP [] [])] (fun t H'=>t = .tup []∧∃ p : OP,p.pi = true∧H' = [.o (mW m),.o p])) :
  CallP Tryd.prog 31 [.agg [.v (.int .u32 m.base),I64 m.cnt,I64 m.made,I64 m.w,I64 m.h,X,Y,BL m.on,I64 m.df,I64 m.dx,I64 m.dy],otT o] (.tup [mgT m2,rqN []]):=by
 have hot:=x8 o
 have hpF:=piF m.F
 have hpW:=piW m.W
 have hpF2:=piF m2.F
 have hpW2:=piW m2.W
 have hp3:=xn m2
 have hp4:=xm m2
 refine CallP.intro2 yw yw ?_;refine CallT.intro zc Tryd.func31 rfl (by kernel_rfl) (Nat.le_of_ble_eq_true rfl) ?_;refine ze zc [2,3] rfl ?_;iterate 2 refine yx rfl rfl ?_
 refine yk rfl rfl ?_;refine za rfl ?_;refine zb ?_;refine ze zc [] rfl ?_;iterate 2 refine za rfl ?_
 refine yk rfl rfl ?_;refine zp rfl rfl rfl rfl rfl (Nat.le_of_ble_eq_true rfl) (by show (true && (true && (true && (true && (true && (cellB X && (cellB Y && (true && (true && (true && (true && (true && true)))))))))))) = true;rw [hcX,hcY];rfl) ?_;refine zb ?_;refine ze zc [] rfl ?_;iterate 2 refine xu ?_
 iterate 2 refine za rfl ?_
 refine zp rfl rfl rfl rfl rfl xf rfl ?_;iterate 2 refine za rfl ?_
 refine zp rfl rfl rfl rfl rfl xf rfl ?_;refine zb ?_;refine ze zc [] rfl ?_;iterate 5 refine za rfl ?_
 refine zq rfl rfl (CallT.frame (hcF) [2] rfl z3 z3 ?_)
 rintro _ _ ⟨rfl,p1,hp1,rfl⟩;refine frK zy zy ?_;refine zb ?_;refine ze zc [] rfl ?_;iterate 5 refine za rfl ?_
 refine zq rfl rfl (CallT.frame (hcW) [3] rfl z3 z3 ?_)
 rintro _ _ ⟨rfl,p2,hp2,rfl⟩;refine frK zy zy ?_;refine zb ?_;refine z7 ([(6,.ptr 0 0),(4,.ptr 4 0)]) ([.c (tnC m (askT 3 [])),.o (mF m),.o (mW m),.c (encL cRn []),.c zMg]) [3] rfl (by refine ⟨[some 1,some 2,some 3,none,some 0],rfl,yb,ya,?_,?_⟩ <;> (repeat' first | exact trivial | exact yc | exact yd | exact z9 rfl | refine zn ?_ ?_ | refine zk rfl ?_ ?_ | refine zj ?_ ?_ | refine ye rfl ?_ | fail) <;> first | exact yv | (first | exact CvL.pure rfl | exact Cv.ptr rfl | exact CvL.cons (Cv.pure rfl) (CvL.cons (Cv.pure rfl) (CvL.cons (Cv.pure rfl) (CvL.cons (Cv.pure rfl) (CvL.cons (Cv.pure rfl) (CvL.cons (Cv.om rfl) (CvL.cons (Cv.om rfl) (CvL.cons (Cv.pure rfl) (CvL.cons (Cv.pure rfl) (CvL.cons (Cv.pure rfl) (CvL.cons (Cv.pure rfl) (CvL.cons (Cv.nilv rfl) CvL.nil))))))))))))) ?_
 refine zo ?_;refine ze zc [] rfl ?_;iterate 2 refine za rfl ?_
 refine zb ?_;refine yf ?_;refine ze zc [] rfl ?_;iterate 2 refine za rfl ?_
 refine zb ?_;refine zi rfl (fun hc0=>?_) (fun hc0=>?_)
 ·exact absurd hc0 (by simp [hk])
 ·(try simp only [zf] at hc0)
  refine ze zc [] rfl ?_;iterate 2 refine za rfl ?_
  refine zb ?_;refine zi rfl (fun hc1=>?_) (fun hc1=>?_)
  ·exact absurd hc1 (by simp [hk])
  ·(try simp only [zf] at hc1)
   refine ze zc [] rfl ?_;iterate 2 refine za rfl ?_
   refine zb ?_;refine zi rfl (fun hc3=>?_) (fun hc3=>?_)
   ·(try simp only [zf] at hc3)
    refine ze zc [] rfl ?_;iterate 2 refine za rfl ?_
    refine z6 rfl rfl rfl (hev) ?_;iterate 3 refine za rfl ?_
    refine yk rfl rfl ?_;refine zp rfl rfl rfl rfl rfl xf rfl ?_;refine za rfl ?_;refine zb ?_;refine yu zc [] [_,_,_,_,_] rfl yj yj ?_;refine z6 rfl rfl rfl (re) ?_;iterate 2 refine za rfl ?_
    refine za (t:=.clo g [] []) (ui rfl rfl hlk) ?_;refine za rfl ?_;iterate 2 refine zb ?_
    refine ze zc [] rfl ?_;iterate 2 refine za rfl ?_
    refine' zx (d:=75) [_,_,_] rfl ?_ rfl ?_
    rotate_left
    ·refine zw rfl rfl (fun hb15_1=>?_) (fun hb15_1=>?_)
     ·have ghb15_1:=hb15_1
      try simp only [zf,Bool.not_true,Bool.not_false] at ghb15_1
      refine za rfl ?_;refine zd rfl rfl hb15_1 ?_;refine za rfl ?_;refine zh rfl (fun _=>rfl) ?_;exact zb ⟨rfl,rfl⟩
     ·refine zl rfl rfl hb15_1 ?_;exact zh rfl (fun h=>absurd (h.symm.trans hb15_1) (by decide)) (zb ⟨rfl,rfl⟩)
    refine za rfl ?_;refine' zx (d:=84) [_,_,_,_,_,_,_,_] rfl ?_ rfl ?_
    rotate_left
    ·refine zw rfl rfl (fun hb15_5=>?_) (fun hb15_5=>?_)
     ·have ghb15_5:=hb15_5
      try simp only [zf,Bool.not_true,Bool.not_false] at ghb15_5
      refine za rfl ?_;refine zd rfl rfl hb15_5 ?_;refine za rfl ?_;refine zd rfl rfl hb15_5 ?_;refine za rfl ?_;refine zd rfl rfl hb15_5 ?_;refine za rfl ?_;refine zd rfl rfl hb15_5 ?_;refine za rfl ?_;refine zd rfl rfl hb15_5 ?_;refine za rfl ?_;refine zd rfl rfl hb15_5 ?_;refine za rfl ?_;refine zh rfl (fun _=>rfl) ?_;exact zb ⟨rfl,rfl⟩
     ·refine zl rfl rfl hb15_5 ?_;iterate 5 refine zl rfl rfl hb15_5 ?_
      exact zh rfl (fun h=>absurd (h.symm.trans hb15_5) (by decide)) (zb ⟨rfl,rfl⟩)
    refine zb ?_;refine zi rfl (fun hc4=>?_) (fun hc4=>?_)
    ·(try simp only [zf] at hc4)
     refine z4 zc [] rfl ?_;iterate 3 refine za rfl ?_
     refine zq rfl rfl (CallT.frame (hact) [0,1,2,3] rfl z3 z3 ?_)
     rintro _ _ ⟨rfl,rfl⟩;refine frK zy zy ?_;refine zb ?_;refine vu zc [] [_,_,_,_,_] (_) rfl yj yj yj (x0 (b:=4) (xz _) (Nat.le_of_ble_eq_true rfl)) ?_;refine uq (l1:=[_,_,_,_]) rfl ?_;iterate 4 refine za rfl ?_
     refine zb ?_;refine uo rfl rfl rfl rfl ?_;refine ur (⟨rfl,Nat.le_of_ble_eq_true rfl,rfl,trivial⟩) ?_;refine za rfl ?_;refine zb ?_;refine yr ?_;exact ⟨trivial,_,rfl,Cv.tup (CvL.cons (Cv.agg (pn hf2 (Cv.fom ⟨rfl,(by simp)⟩ (CvL.pure (pF m2.F))) (Cv.fom ⟨rfl,(by simp)⟩ (CvL.pure (pW m2.W))))) (CvL.cons (Cv.fslc0 ⟨rfl,(by simp)⟩ (CvL.pure (zg _ _))) CvL.nil))⟩
    ·exact absurd hc4 (by simp;omega)
   ·exact absurd hc3 (by simp [hk])
theorem zfr (m : Mg) (o : Ot) (m2 : Mg) (f : Fm) (g : FuncId) (r1 : Rq) (hf2 : m2.fresh = false) (hk : o.kind = 2) (hev : CallP Tryd.prog 63 [I64 o.code] (.tup [fmT f,BL true])) (hle : f.fx.length≤o.n.length) (hlk : mLook2 tab 138 evsK evsT (.int .i64 o.code) false = some (.clo g [] [])) (hact : CallT Tryd.prog g ([] ++ [.ptr 0 0,cIf o.n] ++ []) (tnH m (mF m) (mW m) []) (fun t H'=>t = .tup []∧H' = tnH1 m2 (mF m2) (mW m2) [r1]))
  (X Y : T) (hpX : X.pure = true) (hpY : Y.pure = true) (hcX : cellB X = true) (hcY : cellB Y = true)
  (hcF : CallT Tryd.prog 58 [.om 0,X] [.o (mapP [] [])] (fun t H'=>t = .tup []∧∃ p : OP,p.pi = true∧H' = [.o (mF m),.o p]))
  (hcW : CallT Tryd.prog 59 [.om 0,Y] [.o (mapP [] [])] (fun t H'=>t = .tup []∧∃ p : OP,p.pi = true∧H' = [.o (mW m),.o p])) :
  CallP Tryd.prog 31 [.agg [.v (.int .u32 m.base),I64 m.cnt,I64 m.made,I64 m.w,I64 m.h,X,Y,BL m.on,I64 m.df,I64 m.dx,I64 m.dy],otT o] (.tup [mgT m2,rqN [r1]]):=by
 have hot:=x8 o
 have hpF:=piF m.F
 have hpW:=piW m.W
 have hpF2:=piF m2.F
 have hpW2:=piW m2.W
 have hp3:=xn m2
 have hp4:=xm m2
 refine CallP.intro2 yw yw ?_;refine CallT.intro zc Tryd.func31 rfl (by kernel_rfl) (Nat.le_of_ble_eq_true rfl) ?_;refine ze zc [2,3] rfl ?_;iterate 2 refine yx rfl rfl ?_
 refine yk rfl rfl ?_;refine za rfl ?_;refine zb ?_;refine ze zc [] rfl ?_;iterate 2 refine za rfl ?_
 refine yk rfl rfl ?_;refine zp rfl rfl rfl rfl rfl (Nat.le_of_ble_eq_true rfl) (by show (true && (true && (true && (true && (true && (cellB X && (cellB Y && (true && (true && (true && (true && (true && true)))))))))))) = true;rw [hcX,hcY];rfl) ?_;refine zb ?_;refine ze zc [] rfl ?_;iterate 2 refine xu ?_
 iterate 2 refine za rfl ?_
 refine zp rfl rfl rfl rfl rfl xf rfl ?_;iterate 2 refine za rfl ?_
 refine zp rfl rfl rfl rfl rfl xf rfl ?_;refine zb ?_;refine ze zc [] rfl ?_;iterate 5 refine za rfl ?_
 refine zq rfl rfl (CallT.frame (hcF) [2] rfl z3 z3 ?_)
 rintro _ _ ⟨rfl,p1,hp1,rfl⟩;refine frK zy zy ?_;refine zb ?_;refine ze zc [] rfl ?_;iterate 5 refine za rfl ?_
 refine zq rfl rfl (CallT.frame (hcW) [3] rfl z3 z3 ?_)
 rintro _ _ ⟨rfl,p2,hp2,rfl⟩;refine frK zy zy ?_;refine zb ?_;refine z7 ([(6,.ptr 0 0),(4,.ptr 4 0)]) ([.c (tnC m (askT 3 [])),.o (mF m),.o (mW m),.c (encL cRn []),.c zMg]) [3] rfl (by refine ⟨[some 1,some 2,some 3,none,some 0],rfl,yb,ya,?_,?_⟩ <;> (repeat' first | exact trivial | exact yc | exact yd | exact z9 rfl | refine zn ?_ ?_ | refine zk rfl ?_ ?_ | refine zj ?_ ?_ | refine ye rfl ?_ | fail) <;> first | exact yv | (first | exact CvL.pure rfl | exact Cv.ptr rfl | exact CvL.cons (Cv.pure rfl) (CvL.cons (Cv.pure rfl) (CvL.cons (Cv.pure rfl) (CvL.cons (Cv.pure rfl) (CvL.cons (Cv.pure rfl) (CvL.cons (Cv.om rfl) (CvL.cons (Cv.om rfl) (CvL.cons (Cv.pure rfl) (CvL.cons (Cv.pure rfl) (CvL.cons (Cv.pure rfl) (CvL.cons (Cv.pure rfl) (CvL.cons (Cv.nilv rfl) CvL.nil))))))))))))) ?_
 refine zo ?_;refine ze zc [] rfl ?_;iterate 2 refine za rfl ?_
 refine zb ?_;refine yf ?_;refine ze zc [] rfl ?_;iterate 2 refine za rfl ?_
 refine zb ?_;refine zi rfl (fun hc0=>?_) (fun hc0=>?_)
 ·exact absurd hc0 (by simp [hk])
 ·(try simp only [zf] at hc0)
  refine ze zc [] rfl ?_;iterate 2 refine za rfl ?_
  refine zb ?_;refine zi rfl (fun hc1=>?_) (fun hc1=>?_)
  ·exact absurd hc1 (by simp [hk])
  ·(try simp only [zf] at hc1)
   refine ze zc [] rfl ?_;iterate 2 refine za rfl ?_
   refine zb ?_;refine zi rfl (fun hc3=>?_) (fun hc3=>?_)
   ·(try simp only [zf] at hc3)
    refine ze zc [] rfl ?_;iterate 2 refine za rfl ?_
    refine z6 rfl rfl rfl (hev) ?_;iterate 3 refine za rfl ?_
    refine yk rfl rfl ?_;refine zp rfl rfl rfl rfl rfl xf rfl ?_;refine za rfl ?_;refine zb ?_;refine yu zc [] [_,_,_,_,_] rfl yj yj ?_;refine z6 rfl rfl rfl (re) ?_;iterate 2 refine za rfl ?_
    refine za (t:=.clo g [] []) (ui rfl rfl hlk) ?_;refine za rfl ?_;iterate 2 refine zb ?_
    refine ze zc [] rfl ?_;iterate 2 refine za rfl ?_
    refine' zx (d:=75) [_,_,_] rfl ?_ rfl ?_
    rotate_left
    ·refine zw rfl rfl (fun hb15_1=>?_) (fun hb15_1=>?_)
     ·have ghb15_1:=hb15_1
      try simp only [zf,Bool.not_true,Bool.not_false] at ghb15_1
      refine za rfl ?_;refine zd rfl rfl hb15_1 ?_;refine za rfl ?_;refine zh rfl (fun _=>rfl) ?_;exact zb ⟨rfl,rfl⟩
     ·refine zl rfl rfl hb15_1 ?_;exact zh rfl (fun h=>absurd (h.symm.trans hb15_1) (by decide)) (zb ⟨rfl,rfl⟩)
    refine za rfl ?_;refine' zx (d:=84) [_,_,_,_,_,_,_,_] rfl ?_ rfl ?_
    rotate_left
    ·refine zw rfl rfl (fun hb15_5=>?_) (fun hb15_5=>?_)
     ·have ghb15_5:=hb15_5
      try simp only [zf,Bool.not_true,Bool.not_false] at ghb15_5
      refine za rfl ?_;refine zd rfl rfl hb15_5 ?_;refine za rfl ?_;refine zd rfl rfl hb15_5 ?_;refine za rfl ?_;refine zd rfl rfl hb15_5 ?_;refine za rfl ?_;refine zd rfl rfl hb15_5 ?_;refine za rfl ?_;refine zd rfl rfl hb15_5 ?_;refine za rfl ?_;refine zd rfl rfl hb15_5 ?_;refine za rfl ?_;refine zh rfl (fun _=>rfl) ?_;exact zb ⟨rfl,rfl⟩
     ·refine zl rfl rfl hb15_5 ?_;iterate 5 refine zl rfl rfl hb15_5 ?_
      exact zh rfl (fun h=>absurd (h.symm.trans hb15_5) (by decide)) (zb ⟨rfl,rfl⟩)
    refine zb ?_;refine zi rfl (fun hc4=>?_) (fun hc4=>?_)
    ·(try simp only [zf] at hc4)
     refine z4 zc [] rfl ?_;iterate 3 refine za rfl ?_
     refine zq rfl rfl (CallT.frame (hact) [0,1,2,3] rfl z3 z3 ?_)
     rintro _ _ ⟨rfl,rfl⟩;refine frK zy zy ?_;refine zb ?_;refine vu zc [] [_,_,_,_,_] (_) rfl yj yj yj (x0 (b:=4) (xz _) (Nat.le_of_ble_eq_true rfl)) ?_;refine uq (l1:=[_,_,_,_]) rfl ?_;iterate 4 refine za rfl ?_
     refine zb ?_;refine uo rfl rfl rfl rfl ?_;refine ur (⟨rfl,Nat.le_of_ble_eq_true rfl,rfl,trivial⟩) ?_;refine za rfl ?_;refine zb ?_;refine yr ?_;exact ⟨trivial,_,rfl,Cv.tup (CvL.cons (Cv.agg (pn hf2 (Cv.fom ⟨rfl,(by simp)⟩ (CvL.pure (pF m2.F))) (Cv.fom ⟨rfl,(by simp)⟩ (CvL.pure (pW m2.W))))) (CvL.cons (Cv.fslc0 ⟨rfl,(by simp)⟩ (CvL.pure (zg _ _))) CvL.nil))⟩
    ·exact absurd hc4 (by simp;omega)
   ·exact absurd hc3 (by simp [hk])
theorem zfq (m : Mg) (o : Ot) (m2 : Mg) (f : Fm) (g : FuncId) (r1 r2 : Rq) (rs : List Rq) (hf2 : m2.fresh = false) (hk : o.kind = 2) (hev : CallP Tryd.prog 63 [I64 o.code] (.tup [fmT f,BL true])) (hle : f.fx.length≤o.n.length) (hlk : mLook2 tab 138 evsK evsT (.int .i64 o.code) false = some (.clo g [] [])) (hact : CallT Tryd.prog g ([] ++ [.ptr 0 0,cIf o.n] ++ []) (tnH m (mF m) (mW m) []) (fun t H'=>t = .tup []∧H' = tnH2 m2 (mF m2) (mW m2) (r1 :: r2 :: rs)))
  (X Y : T) (hpX : X.pure = true) (hpY : Y.pure = true) (hcX : cellB X = true) (hcY : cellB Y = true)
  (hcF : CallT Tryd.prog 58 [.om 0,X] [.o (mapP [] [])] (fun t H'=>t = .tup []∧∃ p : OP,p.pi = true∧H' = [.o (mF m),.o p]))
  (hcW : CallT Tryd.prog 59 [.om 0,Y] [.o (mapP [] [])] (fun t H'=>t = .tup []∧∃ p : OP,p.pi = true∧H' = [.o (mW m),.o p])) :
  CallP Tryd.prog 31 [.agg [.v (.int .u32 m.base),I64 m.cnt,I64 m.made,I64 m.w,I64 m.h,X,Y,BL m.on,I64 m.df,I64 m.dx,I64 m.dy],otT o] (.tup [mgT m2,rqN (r1 :: r2 :: rs)]):=by
 have hot:=x8 o
 have hpF:=piF m.F
 have hpW:=piW m.W
 have hpF2:=piF m2.F
 have hpW2:=piW m2.W
 have hp3:=xn m2
 have hp4:=xm m2
 refine CallP.intro2 yw yw ?_;refine CallT.intro zc Tryd.func31 rfl (by kernel_rfl) (Nat.le_of_ble_eq_true rfl) ?_;refine ze zc [2,3] rfl ?_;iterate 2 refine yx rfl rfl ?_
 refine yk rfl rfl ?_;refine za rfl ?_;refine zb ?_;refine ze zc [] rfl ?_;iterate 2 refine za rfl ?_
 refine yk rfl rfl ?_;refine zp rfl rfl rfl rfl rfl (Nat.le_of_ble_eq_true rfl) (by show (true && (true && (true && (true && (true && (cellB X && (cellB Y && (true && (true && (true && (true && (true && true)))))))))))) = true;rw [hcX,hcY];rfl) ?_;refine zb ?_;refine ze zc [] rfl ?_;iterate 2 refine xu ?_
 iterate 2 refine za rfl ?_
 refine zp rfl rfl rfl rfl rfl xf rfl ?_;iterate 2 refine za rfl ?_
 refine zp rfl rfl rfl rfl rfl xf rfl ?_;refine zb ?_;refine ze zc [] rfl ?_;iterate 5 refine za rfl ?_
 refine zq rfl rfl (CallT.frame (hcF) [2] rfl z3 z3 ?_)
 rintro _ _ ⟨rfl,p1,hp1,rfl⟩;refine frK zy zy ?_;refine zb ?_;refine ze zc [] rfl ?_;iterate 5 refine za rfl ?_
 refine zq rfl rfl (CallT.frame (hcW) [3] rfl z3 z3 ?_)
 rintro _ _ ⟨rfl,p2,hp2,rfl⟩;refine frK zy zy ?_;refine zb ?_;refine z7 ([(6,.ptr 0 0),(4,.ptr 4 0)]) ([.c (tnC m (askT 3 [])),.o (mF m),.o (mW m),.c (encL cRn []),.c zMg]) [3] rfl (by refine ⟨[some 1,some 2,some 3,none,some 0],rfl,yb,ya,?_,?_⟩ <;> (repeat' first | exact trivial | exact yc | exact yd | exact z9 rfl | refine zn ?_ ?_ | refine zk rfl ?_ ?_ | refine zj ?_ ?_ | refine ye rfl ?_ | fail) <;> first | exact yv | (first | exact CvL.pure rfl | exact Cv.ptr rfl | exact CvL.cons (Cv.pure rfl) (CvL.cons (Cv.pure rfl) (CvL.cons (Cv.pure rfl) (CvL.cons (Cv.pure rfl) (CvL.cons (Cv.pure rfl) (CvL.cons (Cv.om rfl) (CvL.cons (Cv.om rfl) (CvL.cons (Cv.pure rfl) (CvL.cons (Cv.pure rfl) (CvL.cons (Cv.pure rfl) (CvL.cons (Cv.pure rfl) (CvL.cons (Cv.nilv rfl) CvL.nil))))))))))))) ?_
 refine zo ?_;refine ze zc [] rfl ?_;iterate 2 refine za rfl ?_
 refine zb ?_;refine yf ?_;refine ze zc [] rfl ?_;iterate 2 refine za rfl ?_
 refine zb ?_;refine zi rfl (fun hc0=>?_) (fun hc0=>?_)
 ·exact absurd hc0 (by simp [hk])
 ·(try simp only [zf] at hc0)
  refine ze zc [] rfl ?_;iterate 2 refine za rfl ?_
  refine zb ?_;refine zi rfl (fun hc1=>?_) (fun hc1=>?_)
  ·exact absurd hc1 (by simp [hk])
  ·(try simp only [zf] at hc1)
   refine ze zc [] rfl ?_;iterate 2 refine za rfl ?_
   refine zb ?_;refine zi rfl (fun hc3=>?_) (fun hc3=>?_)
   ·(try simp only [zf] at hc3)
    refine ze zc [] rfl ?_;iterate 2 refine za rfl ?_
    refine z6 rfl rfl rfl (hev) ?_;iterate 3 refine za rfl ?_
    refine yk rfl rfl ?_;refine zp rfl rfl rfl rfl rfl xf rfl ?_;refine za rfl ?_;refine zb ?_;refine yu zc [] [_,_,_,_,_] rfl yj yj ?_;refine z6 rfl rfl rfl (re) ?_;iterate 2 refine za rfl ?_
    refine za (t:=.clo g [] []) (ui rfl rfl hlk) ?_;refine za rfl ?_;iterate 2 refine zb ?_
    refine ze zc [] rfl ?_;iterate 2 refine za rfl ?_
    refine' zx (d:=75) [_,_,_] rfl ?_ rfl ?_
    rotate_left
    ·refine zw rfl rfl (fun hb15_1=>?_) (fun hb15_1=>?_)
     ·have ghb15_1:=hb15_1
      try simp only [zf,Bool.not_true,Bool.not_false] at ghb15_1
      refine za rfl ?_;refine zd rfl rfl hb15_1 ?_;refine za rfl ?_;refine zh rfl (fun _=>rfl) ?_;exact zb ⟨rfl,rfl⟩
     ·refine zl rfl rfl hb15_1 ?_;exact zh rfl (fun h=>absurd (h.symm.trans hb15_1) (by decide)) (zb ⟨rfl,rfl⟩)
    refine za rfl ?_;refine' zx (d:=84) [_,_,_,_,_,_,_,_] rfl ?_ rfl ?_
    rotate_left
    ·refine zw rfl rfl (fun hb15_5=>?_) (fun hb15_5=>?_)
     ·have ghb15_5:=hb15_5
      try simp only [zf,Bool.not_true,Bool.not_false] at ghb15_5
      refine za rfl ?_;refine zd rfl rfl hb15_5 ?_;refine za rfl ?_;refine zd rfl rfl hb15_5 ?_;refine za rfl ?_;refine zd rfl rfl hb15_5 ?_;refine za rfl ?_;refine zd rfl rfl hb15_5 ?_;refine za rfl ?_;refine zd rfl rfl hb15_5 ?_;refine za rfl ?_;refine zd rfl rfl hb15_5 ?_;refine za rfl ?_;refine zh rfl (fun _=>rfl) ?_;exact zb ⟨rfl,rfl⟩
     ·refine zl rfl rfl hb15_5 ?_;iterate 5 refine zl rfl rfl hb15_5 ?_
      exact zh rfl (fun h=>absurd (h.symm.trans hb15_5) (by decide)) (zb ⟨rfl,rfl⟩)
    refine zb ?_;refine zi rfl (fun hc4=>?_) (fun hc4=>?_)
    ·(try simp only [zf] at hc4)
     refine z4 zc [] rfl ?_;iterate 3 refine za rfl ?_
     refine zq rfl rfl (CallT.frame (hact) [0,1,2,3] rfl z3 z3 ?_)
     rintro _ _ ⟨rfl,rfl⟩;refine frK zy zy ?_;refine zb ?_;refine vu zc [] [_,_,_,_,_] (_) rfl yj yj yj (x0 (b:=4) (xz _) (Nat.le_of_ble_eq_true rfl)) ?_;refine uq (l1:=[_,_,_,_]) rfl ?_;iterate 4 refine za rfl ?_
     refine zb ?_;refine uo rfl rfl rfl rfl ?_;refine ur (⟨rfl,Nat.le_of_ble_eq_true rfl,rfl,trivial⟩) ?_;refine za rfl ?_;refine zb ?_;refine yr ?_;exact ⟨trivial,_,rfl,Cv.tup (CvL.cons (Cv.agg (pn hf2 (Cv.fom ⟨rfl,(by simp)⟩ (CvL.pure (pF m2.F))) (Cv.fom ⟨rfl,(by simp)⟩ (CvL.pure (pW m2.W))))) (CvL.cons (Cv.fslc0 ⟨rfl,(by simp)⟩ (CvL.pure (zg _ _))) CvL.nil))⟩
    ·exact absurd hc4 (by simp;omega)
   ·exact absurd hc3 (by simp [hk])
theorem zh4 (m : Mg) (o : Ot) (f : Fm) (ok : Bool) (hf2 : m.fresh = false) (hk : o.kind = 2) (hev : CallP Tryd.prog 63 [I64 o.code] (.tup [fmT f,BL ok])) (hlk : mLook2 tab 138 evsK evsT (.int .i64 o.code) false = some (.v .nilFunc))
  (X Y : T) (hpX : X.pure = true) (hpY : Y.pure = true) (hcX : cellB X = true) (hcY : cellB Y = true)
  (hcF : CallT Tryd.prog 58 [.om 0,X] [.o (mapP [] [])] (fun t H'=>t = .tup []∧∃ p : OP,p.pi = true∧H' = [.o (mF m),.o p]))
  (hcW : CallT Tryd.prog 59 [.om 0,Y] [.o (mapP [] [])] (fun t H'=>t = .tup []∧∃ p : OP,p.pi = true∧H' = [.o (mW m),.o p])) :
  CallP Tryd.prog 31 [.agg [.v (.int .u32 m.base),I64 m.cnt,I64 m.made,I64 m.w,I64 m.h,X,Y,BL m.on,I64 m.df,I64 m.dx,I64 m.dy],otT o] (.tup [mgT m,rqN []]):=by
 have hot:=x8 o
 have hpF2:=piF m.F
 have hpW2:=piW m.W
 have hp3:=xn m
 have hp4:=xm m
 refine CallP.intro2 yw yw ?_;refine CallT.intro zc Tryd.func31 rfl (by kernel_rfl) (Nat.le_of_ble_eq_true rfl) ?_;refine ze zc [2,3] rfl ?_;iterate 2 refine yx rfl rfl ?_
 refine yk rfl rfl ?_;refine za rfl ?_;refine zb ?_;refine ze zc [] rfl ?_;iterate 2 refine za rfl ?_
 refine yk rfl rfl ?_;refine zp rfl rfl rfl rfl rfl (Nat.le_of_ble_eq_true rfl) (by show (true && (true && (true && (true && (true && (cellB X && (cellB Y && (true && (true && (true && (true && (true && true)))))))))))) = true;rw [hcX,hcY];rfl) ?_;refine zb ?_;refine ze zc [] rfl ?_;iterate 2 refine xu ?_
 iterate 2 refine za rfl ?_
 refine zp rfl rfl rfl rfl rfl xf rfl ?_;iterate 2 refine za rfl ?_
 refine zp rfl rfl rfl rfl rfl xf rfl ?_;refine zb ?_;refine ze zc [] rfl ?_;iterate 5 refine za rfl ?_
 refine zq rfl rfl (CallT.frame (hcF) [2] rfl z3 z3 ?_)
 rintro _ _ ⟨rfl,p1,hp1,rfl⟩;refine frK zy zy ?_;refine zb ?_;refine ze zc [] rfl ?_;iterate 5 refine za rfl ?_
 refine zq rfl rfl (CallT.frame (hcW) [3] rfl z3 z3 ?_)
 rintro _ _ ⟨rfl,p2,hp2,rfl⟩;refine frK zy zy ?_;refine zb ?_;refine z7 ([(6,.ptr 0 0),(4,.ptr 4 0)]) ([.c (tnC m (askT 3 [])),.o (mF m),.o (mW m),.c (encL cRn []),.c zMg]) [3] rfl (by refine ⟨[some 1,some 2,some 3,none,some 0],rfl,yb,ya,?_,?_⟩ <;> (repeat' first | exact trivial | exact yc | exact yd | exact z9 rfl | refine zn ?_ ?_ | refine zk rfl ?_ ?_ | refine zj ?_ ?_ | refine ye rfl ?_ | fail) <;> first | exact yv | (first | exact CvL.pure rfl | exact Cv.ptr rfl | exact CvL.cons (Cv.pure rfl) (CvL.cons (Cv.pure rfl) (CvL.cons (Cv.pure rfl) (CvL.cons (Cv.pure rfl) (CvL.cons (Cv.pure rfl) (CvL.cons (Cv.om rfl) (CvL.cons (Cv.om rfl) (CvL.cons (Cv.pure rfl) (CvL.cons (Cv.pure rfl) (CvL.cons (Cv.pure rfl) (CvL.cons (Cv.pure rfl) (CvL.cons (Cv.nilv rfl) CvL.nil))))))))))))) ?_
 refine zo ?_;refine ze zc [] rfl ?_;iterate 2 refine za rfl ?_
 refine zb ?_;refine yf ?_;refine ze zc [] rfl ?_;iterate 2 refine za rfl ?_
 refine zb ?_;refine zi rfl (fun hc0=>?_) (fun hc0=>?_)
 ·exact absurd hc0 (by simp [hk])
 ·(try simp only [zf] at hc0)
  refine ze zc [] rfl ?_;iterate 2 refine za rfl ?_
  refine zb ?_;refine zi rfl (fun hc1=>?_) (fun hc1=>?_)
  ·exact absurd hc1 (by simp [hk])
  ·(try simp only [zf] at hc1)
   refine ze zc [] rfl ?_;iterate 2 refine za rfl ?_
   refine zb ?_;refine zi rfl (fun hc3=>?_) (fun hc3=>?_)
   ·(try simp only [zf] at hc3)
    refine ze zc [] rfl ?_;iterate 2 refine za rfl ?_
    refine z6 rfl rfl rfl (hev) ?_;iterate 3 refine za rfl ?_
    refine yk rfl rfl ?_;refine zp rfl rfl rfl rfl rfl xf rfl ?_;refine za rfl ?_;refine zb ?_;refine yu zc [] [_,_,_,_,_] rfl yj yj ?_;refine z6 rfl rfl rfl (re) ?_;iterate 2 refine za rfl ?_
    refine za (t:=.v .nilFunc) (ui rfl rfl hlk) ?_;refine za rfl ?_;iterate 2 refine zb ?_
    refine ze zc [] rfl ?_;iterate 2 refine za rfl ?_
    refine' zx (d:=75) [_,_,_] rfl ?_ rfl ?_
    rotate_left
    ·refine zw rfl rfl (fun hb15_1=>?_) (fun hb15_1=>?_)
     ·have ghb15_1:=hb15_1
      try simp only [zf,Bool.not_true,Bool.not_false] at ghb15_1
      refine za rfl ?_;refine zd rfl rfl hb15_1 ?_;refine za rfl ?_;refine zh rfl (fun _=>rfl) ?_;exact zb ⟨rfl,rfl⟩
     ·refine zl rfl rfl hb15_1 ?_;exact zh rfl (fun h=>absurd (h.symm.trans hb15_1) (by decide)) (zb ⟨rfl,rfl⟩)
    refine za rfl ?_;refine' zx (d:=84) [_,_,_,_,_,_,_,_] rfl ?_ rfl ?_
    rotate_left
    ·refine zw rfl rfl (fun hb15_5=>?_) (fun hb15_5=>?_)
     ·have ghb15_5:=hb15_5
      try simp only [zf,Bool.not_true,Bool.not_false] at ghb15_5
      refine za rfl ?_;refine zd rfl rfl hb15_5 ?_;refine za rfl ?_;refine zd rfl rfl hb15_5 ?_;refine za rfl ?_;refine zd rfl rfl hb15_5 ?_;refine za rfl ?_;refine zd rfl rfl hb15_5 ?_;refine za rfl ?_;refine zd rfl rfl hb15_5 ?_;refine za rfl ?_;refine zd rfl rfl hb15_5 ?_;refine za rfl ?_;refine zh rfl (fun _=>rfl) ?_;exact zb ⟨rfl,rfl⟩
     ·refine zl rfl rfl hb15_5 ?_;iterate 5 refine zl rfl rfl hb15_5 ?_
      exact zh rfl (fun h=>absurd (h.symm.trans hb15_5) (by decide)) (zb ⟨rfl,rfl⟩)
    refine zb ?_;refine zi rfl (fun hc4=>?_) (fun hc4=>?_)
    ·exact absurd hc4 (by cases ok <;> simp)
    ·(try simp only [zf] at hc4)
     refine zt ?_;refine vu zc [] [_,_,_,_,_] (_) rfl yj yj yj (x0 (b:=4) (xz _) (Nat.le_of_ble_eq_true rfl)) ?_;refine uq (l1:=[_,_,_,_]) rfl ?_;iterate 4 refine za rfl ?_
     refine zb ?_;refine uo rfl rfl rfl rfl ?_;refine ur (⟨rfl,Nat.le_of_ble_eq_true rfl,rfl,trivial⟩) ?_;refine za rfl ?_;refine zb ?_;refine yr ?_;exact ⟨trivial,_,rfl,Cv.tup (CvL.cons (Cv.agg (pn hf2 (Cv.fom ⟨rfl,(by simp)⟩ (CvL.pure (pF m.F))) (Cv.fom ⟨rfl,(by simp)⟩ (CvL.pure (pW m.W))))) (CvL.cons (Cv.fslc0 ⟨rfl,(by simp)⟩ (CvL.pure (zg _ _))) CvL.nil))⟩
   ·exact absurd hc3 (by simp [hk])
theorem zh3 (m : Mg) (o : Ot) (f : Fm) (g : FuncId) (hf2 : m.fresh = false) (hk : o.kind = 2) (hev : CallP Tryd.prog 63 [I64 o.code] (.tup [fmT f,BL true])) (hle : ¬ f.fx.length≤o.n.length) (hlk : mLook2 tab 138 evsK evsT (.int .i64 o.code) false = some (.clo g [] []))
  (X Y : T) (hpX : X.pure = true) (hpY : Y.pure = true) (hcX : cellB X = true) (hcY : cellB Y = true)
  (hcF : CallT Tryd.prog 58 [.om 0,X] [.o (mapP [] [])] (fun t H'=>t = .tup []∧∃ p : OP,p.pi = true∧H' = [.o (mF m),.o p]))
  (hcW : CallT Tryd.prog 59 [.om 0,Y] [.o (mapP [] [])] (fun t H'=>t = .tup []∧∃ p : OP,p.pi = true∧H' = [.o (mW m),.o p])) :
  CallP Tryd.prog 31 [.agg [.v (.int .u32 m.base),I64 m.cnt,I64 m.made,I64 m.w,I64 m.h,X,Y,BL m.on,I64 m.df,I64 m.dx,I64 m.dy],otT o] (.tup [mgT m,rqN []]):=by
 have hot:=x8 o
 have hpF2:=piF m.F
 have hpW2:=piW m.W
 have hp3:=xn m
 have hp4:=xm m
 refine CallP.intro2 yw yw ?_;refine CallT.intro zc Tryd.func31 rfl (by kernel_rfl) (Nat.le_of_ble_eq_true rfl) ?_;refine ze zc [2,3] rfl ?_;iterate 2 refine yx rfl rfl ?_
 refine yk rfl rfl ?_;refine za rfl ?_;refine zb ?_;refine ze zc [] rfl ?_;iterate 2 refine za rfl ?_
 refine yk rfl rfl ?_;refine zp rfl rfl rfl rfl rfl (Nat.le_of_ble_eq_true rfl) (by show (true && (true && (true && (true && (true && (cellB X && (cellB Y && (true && (true && (true && (true && (true && true)))))))))))) = true;rw [hcX,hcY];rfl) ?_;refine zb ?_;refine ze zc [] rfl ?_;iterate 2 refine xu ?_
 iterate 2 refine za rfl ?_
 refine zp rfl rfl rfl rfl rfl xf rfl ?_;iterate 2 refine za rfl ?_
 refine zp rfl rfl rfl rfl rfl xf rfl ?_;refine zb ?_;refine ze zc [] rfl ?_;iterate 5 refine za rfl ?_
 refine zq rfl rfl (CallT.frame (hcF) [2] rfl z3 z3 ?_)
 rintro _ _ ⟨rfl,p1,hp1,rfl⟩;refine frK zy zy ?_;refine zb ?_;refine ze zc [] rfl ?_;iterate 5 refine za rfl ?_
 refine zq rfl rfl (CallT.frame (hcW) [3] rfl z3 z3 ?_)
 rintro _ _ ⟨rfl,p2,hp2,rfl⟩;refine frK zy zy ?_;refine zb ?_;refine z7 ([(6,.ptr 0 0),(4,.ptr 4 0)]) ([.c (tnC m (askT 3 [])),.o (mF m),.o (mW m),.c (encL cRn []),.c zMg]) [3] rfl (by refine ⟨[some 1,some 2,some 3,none,some 0],rfl,yb,ya,?_,?_⟩ <;> (repeat' first | exact trivial | exact yc | exact yd | exact z9 rfl | refine zn ?_ ?_ | refine zk rfl ?_ ?_ | refine zj ?_ ?_ | refine ye rfl ?_ | fail) <;> first | exact yv | (first | exact CvL.pure rfl | exact Cv.ptr rfl | exact CvL.cons (Cv.pure rfl) (CvL.cons (Cv.pure rfl) (CvL.cons (Cv.pure rfl) (CvL.cons (Cv.pure rfl) (CvL.cons (Cv.pure rfl) (CvL.cons (Cv.om rfl) (CvL.cons (Cv.om rfl) (CvL.cons (Cv.pure rfl) (CvL.cons (Cv.pure rfl) (CvL.cons (Cv.pure rfl) (CvL.cons (Cv.pure rfl) (CvL.cons (Cv.nilv rfl) CvL.nil))))))))))))) ?_
 refine zo ?_;refine ze zc [] rfl ?_;iterate 2 refine za rfl ?_
 refine zb ?_;refine yf ?_;refine ze zc [] rfl ?_;iterate 2 refine za rfl ?_
 refine zb ?_;refine zi rfl (fun hc0=>?_) (fun hc0=>?_)
 ·exact absurd hc0 (by simp [hk])
 ·(try simp only [zf] at hc0)
  refine ze zc [] rfl ?_;iterate 2 refine za rfl ?_
  refine zb ?_;refine zi rfl (fun hc1=>?_) (fun hc1=>?_)
  ·exact absurd hc1 (by simp [hk])
  ·(try simp only [zf] at hc1)
   refine ze zc [] rfl ?_;iterate 2 refine za rfl ?_
   refine zb ?_;refine zi rfl (fun hc3=>?_) (fun hc3=>?_)
   ·(try simp only [zf] at hc3)
    refine ze zc [] rfl ?_;iterate 2 refine za rfl ?_
    refine z6 rfl rfl rfl (hev) ?_;iterate 3 refine za rfl ?_
    refine yk rfl rfl ?_;refine zp rfl rfl rfl rfl rfl xf rfl ?_;refine za rfl ?_;refine zb ?_;refine yu zc [] [_,_,_,_,_] rfl yj yj ?_;refine z6 rfl rfl rfl (re) ?_;iterate 2 refine za rfl ?_
    refine za (t:=.clo g [] []) (ui rfl rfl hlk) ?_;refine za rfl ?_;iterate 2 refine zb ?_
    refine ze zc [] rfl ?_;iterate 2 refine za rfl ?_
    refine' zx (d:=75) [_,_,_] rfl ?_ rfl ?_
    rotate_left
    ·refine zw rfl rfl (fun hb15_1=>?_) (fun hb15_1=>?_)
     ·have ghb15_1:=hb15_1
      try simp only [zf,Bool.not_true,Bool.not_false] at ghb15_1
      refine za rfl ?_;refine zd rfl rfl hb15_1 ?_;refine za rfl ?_;refine zh rfl (fun _=>rfl) ?_;exact zb ⟨rfl,rfl⟩
     ·refine zl rfl rfl hb15_1 ?_;exact zh rfl (fun h=>absurd (h.symm.trans hb15_1) (by decide)) (zb ⟨rfl,rfl⟩)
    refine za rfl ?_;refine' zx (d:=84) [_,_,_,_,_,_,_,_] rfl ?_ rfl ?_
    rotate_left
    ·refine zw rfl rfl (fun hb15_5=>?_) (fun hb15_5=>?_)
     ·have ghb15_5:=hb15_5
      try simp only [zf,Bool.not_true,Bool.not_false] at ghb15_5
      refine za rfl ?_;refine zd rfl rfl hb15_5 ?_;refine za rfl ?_;refine zd rfl rfl hb15_5 ?_;refine za rfl ?_;refine zd rfl rfl hb15_5 ?_;refine za rfl ?_;refine zd rfl rfl hb15_5 ?_;refine za rfl ?_;refine zd rfl rfl hb15_5 ?_;refine za rfl ?_;refine zd rfl rfl hb15_5 ?_;refine za rfl ?_;refine zh rfl (fun _=>rfl) ?_;exact zb ⟨rfl,rfl⟩
     ·refine zl rfl rfl hb15_5 ?_;iterate 5 refine zl rfl rfl hb15_5 ?_
      exact zh rfl (fun h=>absurd (h.symm.trans hb15_5) (by decide)) (zb ⟨rfl,rfl⟩)
    refine zb ?_;refine zi rfl (fun hc4=>?_) (fun hc4=>?_)
    ·exact absurd hc4 (by simp;omega)
    ·(try simp only [zf] at hc4)
     refine zt ?_;refine vu zc [] [_,_,_,_,_] (_) rfl yj yj yj (x0 (b:=4) (xz _) (Nat.le_of_ble_eq_true rfl)) ?_;refine uq (l1:=[_,_,_,_]) rfl ?_;iterate 4 refine za rfl ?_
     refine zb ?_;refine uo rfl rfl rfl rfl ?_;refine ur (⟨rfl,Nat.le_of_ble_eq_true rfl,rfl,trivial⟩) ?_;refine za rfl ?_;refine zb ?_;refine yr ?_;exact ⟨trivial,_,rfl,Cv.tup (CvL.cons (Cv.agg (pn hf2 (Cv.fom ⟨rfl,(by simp)⟩ (CvL.pure (pF m.F))) (Cv.fom ⟨rfl,(by simp)⟩ (CvL.pure (pW m.W))))) (CvL.cons (Cv.fslc0 ⟨rfl,(by simp)⟩ (CvL.pure (zg _ _))) CvL.nil))⟩
   ·exact absurd hc3 (by simp [hk])
theorem zjx (m : Mg) (o : Ot) (hf2 : m.fresh = false) (h0 : o.kind≠0) (h1 : o.kind≠1) (h2 : o.kind≠2)
  (X Y : T) (hpX : X.pure = true) (hpY : Y.pure = true) (hcX : cellB X = true) (hcY : cellB Y = true)
  (hcF : CallT Tryd.prog 58 [.om 0,X] [.o (mapP [] [])] (fun t H'=>t = .tup []∧∃ p : OP,p.pi = true∧H' = [.o (mF m),.o p]))
  (hcW : CallT Tryd.prog 59 [.om 0,Y] [.o (mapP [] [])] (fun t H'=>t = .tup []∧∃ p : OP,p.pi = true∧H' = [.o (mW m),.o p])) :
  CallP Tryd.prog 31 [.agg [.v (.int .u32 m.base),I64 m.cnt,I64 m.made,I64 m.w,I64 m.h,X,Y,BL m.on,I64 m.df,I64 m.dx,I64 m.dy],otT o] (.tup [mgT m,rqN []]):=by
 have hot:=x8 o
 have hpF2:=piF m.F
 have hpW2:=piW m.W
 have hp3:=xn m
 have hp4:=xm m
 refine CallP.intro2 yw yw ?_;refine CallT.intro zc Tryd.func31 rfl (by kernel_rfl) (Nat.le_of_ble_eq_true rfl) ?_;refine ze zc [2,3] rfl ?_;iterate 2 refine yx rfl rfl ?_
 refine yk rfl rfl ?_;refine za rfl ?_;refine zb ?_;refine ze zc [] rfl ?_;iterate 2 refine za rfl ?_
 refine yk rfl rfl ?_;refine zp rfl rfl rfl rfl rfl (Nat.le_of_ble_eq_true rfl) (by show (true && (true && (true && (true && (true && (cellB X && (cellB Y && (true && (true && (true && (true && (true && true)))))))))))) = true;rw [hcX,hcY];rfl) ?_;refine zb ?_;refine ze zc [] rfl ?_;iterate 2 refine xu ?_
 iterate 2 refine za rfl ?_
 refine zp rfl rfl rfl rfl rfl xf rfl ?_;iterate 2 refine za rfl ?_
 refine zp rfl rfl rfl rfl rfl xf rfl ?_;refine zb ?_;refine ze zc [] rfl ?_;iterate 5 refine za rfl ?_
 refine zq rfl rfl (CallT.frame (hcF) [2] rfl z3 z3 ?_)
 rintro _ _ ⟨rfl,p1,hp1,rfl⟩;refine frK zy zy ?_;refine zb ?_;refine ze zc [] rfl ?_;iterate 5 refine za rfl ?_
 refine zq rfl rfl (CallT.frame (hcW) [3] rfl z3 z3 ?_)
 rintro _ _ ⟨rfl,p2,hp2,rfl⟩;refine frK zy zy ?_;refine zb ?_;refine z7 ([(6,.ptr 0 0),(4,.ptr 4 0)]) ([.c (tnC m (askT 3 [])),.o (mF m),.o (mW m),.c (encL cRn []),.c zMg]) [3] rfl (by refine ⟨[some 1,some 2,some 3,none,some 0],rfl,yb,ya,?_,?_⟩ <;> (repeat' first | exact trivial | exact yc | exact yd | exact z9 rfl | refine zn ?_ ?_ | refine zk rfl ?_ ?_ | refine zj ?_ ?_ | refine ye rfl ?_ | fail) <;> first | exact yv | (first | exact CvL.pure rfl | exact Cv.ptr rfl | exact CvL.cons (Cv.pure rfl) (CvL.cons (Cv.pure rfl) (CvL.cons (Cv.pure rfl) (CvL.cons (Cv.pure rfl) (CvL.cons (Cv.pure rfl) (CvL.cons (Cv.om rfl) (CvL.cons (Cv.om rfl) (CvL.cons (Cv.pure rfl) (CvL.cons (Cv.pure rfl) (CvL.cons (Cv.pure rfl) (CvL.cons (Cv.pure rfl) (CvL.cons (Cv.nilv rfl) CvL.nil))))))))))))) ?_
 refine zo ?_;refine ze zc [] rfl ?_;iterate 2 refine za rfl ?_
 refine zb ?_;refine yf ?_;refine ze zc [] rfl ?_;iterate 2 refine za rfl ?_
 refine zb ?_;refine zi rfl (fun hc0=>?_) (fun hc0=>?_)
 ·exact absurd hc0 (by simp [h0])
 ·(try simp only [zf] at hc0)
  refine ze zc [] rfl ?_;iterate 2 refine za rfl ?_
  refine zb ?_;refine zi rfl (fun hc1=>?_) (fun hc1=>?_)
  ·exact absurd hc1 (by simp [h1])
  ·(try simp only [zf] at hc1)
   refine ze zc [] rfl ?_;iterate 2 refine za rfl ?_
   refine zb ?_;refine zi rfl (fun hc3=>?_) (fun hc3=>?_)
   ·exact absurd hc3 (by simp [h2])
   ·(try simp only [zf] at hc3)
    refine zt ?_;refine vu zc [] [_,_,_,_,_] (_) rfl yj yj yj (x0 (b:=4) (xz _) (Nat.le_of_ble_eq_true rfl)) ?_;refine uq (l1:=[_,_,_,_]) rfl ?_;iterate 4 refine za rfl ?_
    refine zb ?_;refine uo rfl rfl rfl rfl ?_;refine ur (⟨rfl,Nat.le_of_ble_eq_true rfl,rfl,trivial⟩) ?_;refine za rfl ?_;refine zb ?_;refine yr ?_;exact ⟨trivial,_,rfl,Cv.tup (CvL.cons (Cv.agg (pn hf2 (Cv.fom ⟨rfl,(by simp)⟩ (CvL.pure (pF m.F))) (Cv.fom ⟨rfl,(by simp)⟩ (CvL.pure (pW m.W))))) (CvL.cons (Cv.fslc0 ⟨rfl,(by simp)⟩ (CvL.pure (zg _ _))) CvL.nil))⟩
end

section
open Go.RowKit
set_option maxRecDepth 10000
set_option maxHeartbeats 2000000
theorem zcq (m : Mg) (o : Ot) (h9 : o.code≠9) (h15 : o.code≠15) :
  CallT Tryd.prog 62 [.ptr 0 0,otT o] (tnH m (mF m) (mW m) []) (fun t H'=>t = .tup []∧H' = tnH m (mF m) (mW m) []):=by
 have hpF:=piF m.F
 have hpW:=piW m.W
 have hpo:=x8 o
 refine CallT.intro zc Tryd.func62 rfl (by kernel_rfl) (Nat.le_of_ble_eq_true rfl) ?_;refine ze zc [3] rfl ?_;refine yx rfl rfl ?_;refine zb ?_;refine ze zc [] rfl ?_;refine za rfl ?_;first | refine za rfl ?_ | refine zm rfl rfl yn ?_ | refine yh rfl rfl rfl yn ?_
 refine zb ?_;refine yf ?_;refine ze zc [] rfl ?_;iterate 2 refine za rfl ?_
 refine zb ?_;refine zi rfl (fun hc0=>?_) (fun hc0=>?_)
 ·exact absurd hc0 (by simp [h9])
 ·(try simp only [zf] at hc0)
  refine ze zc [] rfl ?_;iterate 2 refine za rfl ?_
  refine zb ?_;refine zi rfl (fun hc2=>?_) (fun hc2=>?_)
  ·exact absurd hc2 (by simp [h15])
  ·(try simp only [zf] at hc2)
   refine zt ?_;exact ⟨trivial,_,rfl,rfl,rfl⟩
/- what is done stays a manager that has maps -/
theorem zah (m : Mg) (s : Int) : (m.refused s).fresh = m.fresh:=by unfold Mg.refused;split <;> rfl
theorem zdf (m : Mg) (s w h : Int) : (m.sized s w h).fresh = m.fresh:=by unfold Mg.sized;split <;> rfl
theorem zg0 (m : Mg) (id : Int) (k : Wt) (row : List Int) : (m.manage id k row).1.fresh = m.fresh:=by unfold Mg.manage;split;rfl;split <;> rfl
theorem zbv (m : Mg) (s : Int) (row : List Int) : (m.titled s row).1.fresh = m.fresh:=by
 unfold Mg.titled
 split
 ·rw [zg0]
 ·rfl
theorem fr_ev (m : Mg) (c : Int) (n : List Int) : (m.ev c n).1.fresh = m.fresh:=by
 unfold Mg.ev
 repeat' first
  | rfl
  | (unfold Mg.mapReq)
  | (unfold Mg.conf)
  | (unfold Mg.unmap)
  | (unfold Mg.destroy)
  | (unfold Mg.reparent)
  | (unfold Mg.expose)
  | (unfold Mg.press)
  | (unfold Mg.move)
  | split
theorem zgg (m : Mg) : cellB (mpF m) = true∧cellB (mpW m) = true:=by
 unfold mpF mpW
 cases m.fresh <;> exact ⟨rfl,rfl⟩
theorem zg7 (c : Int) (h1 : c≠17) (h2 : c≠19) (h3 : c≠16) (h4 : c≠14) (h5 : c≠20) (h6 : c≠10) (h7 : c≠3) (h8 : c≠4) (h9 : c≠5) : mLook2 tab 138 evsK evsT (.int .i64 c) false = some (.v .nilFunc):=by
 have e : mFind (.int .i64) (.int .i64 c) evsK evsT = none:=by
  simp only [mFind,likeK,if_true,Option.some.injEq,beq_iff_eq]
  rw [if_neg (by omega),if_neg (by omega),if_neg (by omega),if_neg (by omega),if_neg (by omega),if_neg (by omega),if_neg (by omega),if_neg (by omega),if_neg (by omega)]
 have e2 : mLook2 tab 138 evsK evsT (.int .i64 c) false = (match mFind (.int .i64) (.int .i64 c) evsK evsT with | some r=>some r | none=>some (.v .nilFunc)):=rfl
 rw [e2,e]
theorem qg (m : Mg) (o : Ot) (top : Int) (ok : m.Ok top) (htop : top≤1000000) (few : o.Few) (hl : o.l.length≤100000)
  (hcf : ∀ (M : Mg) (g : FuncId),M.Ok top→M.fresh = false→o.kind = 2→o.code≠17→mLook2 tab 138 evsK evsT (.int .i64 o.code) false = some (.clo g [] [])→needsE o.code≤o.n.length→
   CallT Tryd.prog g ([] ++ [.ptr 0 0,cIf o.n] ++ []) (tnH M (mF M) (mW M) []) (fun t H'=>t = .tup []∧H' = ranH (M.ev o.code o.n).1 (M.ev o.code o.n).2 [])) :
  CallP Tryd.prog 31 [mgT m,otT o] (.tup [mgT (m.step o).1,rqN (m.step o).2]):=by
 obtain ⟨M,hM⟩ : ∃ M : Mg,M = { m with fresh:=false }:=⟨_,rfl⟩
 have okM : M.Ok top:=hM ▸ ok.stale
 have hfM : M.fresh = false:=by rw [hM]
 have hX:=xn m
 have hY:=xm m
 have hc:=zgg m
 have hcF:=zhf m top ok
 have hcW:=zhe m top ok
 rw [show mF m = mF M from by rw [hM]] at hcF
 rw [show mW m = mW M from by rw [hM]] at hcW
 have harg : mgT m = .agg [.v (.int .u32 M.base),I64 M.cnt,I64 M.made,I64 M.w,I64 M.h,mpF m,mpW m,BL M.on,I64 M.df,I64 M.dx,I64 M.dy]:=by rw [hM]
 rw [harg]
 unfold Mg.step
 rw [← hM]
 dsimp only
 by_cases k0 : o.kind = 0
 ·rw [if_pos k0]
  exact zjy M o (M.refused o.seq) top okM ((zah _ _).trans hfM) k0 _ _ hX hY hc.1 hc.2 hcF hcW (zf0 M o.seq top okM)
 rw [if_neg k0]
 by_cases k1 : o.kind = 1
 ·rw [if_pos k1]
  obtain ⟨f,k,hrep,h9,h15⟩:=zfy o.code
  by_cases hle : k = true∧f.fx.length≤o.n.length
  ·obtain ⟨rfl,hle⟩:=hle
   by_cases c9 : o.code = 9
   ·have hl9:=(h9 c9).2
    rw [if_pos ⟨c9,by omega⟩]
    exact qp M o (M.sized o.seq o.n[3]! o.n[4]!) f ((zdf _ _ _ _).trans hfM) k1 hrep hle (zj1 M o top okM c9 (by omega)) _ _ hX hY hc.1 hc.2 hcF hcW
   rw [if_neg (fun k=>c9 k.1)]
   by_cases c15 : o.code = 15
   ·have hl15:=(h15 c15).2
    rw [if_pos ⟨c15,by omega⟩]
    have ht:=zh1 M o top okM hfM htop c15 hl
    have hfr:=(zbv M o.seq o.l).trans hfM
    generalize M.titled o.seq o.l = r at *
    obtain ⟨m2,rs⟩:=r
    match rs,ht with
    | [],ht=>exact qp M o m2 f hfr k1 hrep hle ht _ _ hX hY hc.1 hc.2 hcF hcW
    | [r1],ht=>exact zfu M o m2 f r1 hfr k1 hrep hle ht _ _ hX hY hc.1 hc.2 hcF hcW
    | r1 :: r2 :: rs,ht=>exact zft M o m2 f r1 r2 rs hfr k1 hrep hle ht _ _ hX hY hc.1 hc.2 hcF hcW
   rw [if_neg (fun k=>c15 k.1)]
   exact qp M o M f hfM k1 hrep hle (zcq M o c9 c15) _ _ hX hY hc.1 hc.2 hcF hcW
  ·have hr : (if o.code = 9∧7≤o.n.length then (M.sized o.seq o.n[3]! o.n[4]!,[]) else if o.code = 15∧3≤o.n.length then M.titled o.seq o.l else (M,[])) = (M,([] : List Rq)):=by
    rw [if_neg (fun k=>hle ⟨(h9 k.1).1,by have:=(h9 k.1).2;omega⟩),if_neg (fun k=>hle ⟨(h15 k.1).1,by have:=(h15 k.1).2;omega⟩)]
   rw [hr]
   exact zh5 M o f k hfM k1 hrep hle _ _ hX hY hc.1 hc.2 hcF hcW
 rw [if_neg k1]
 by_cases k2 : o.kind = 2
 ·rw [if_pos k2]
  obtain ⟨f,k,hev,hne⟩:=zg6 o.code
  have fin : ∀ g : FuncId,needsE o.code≠0→mLook2 tab 138 evsK evsT (.int .i64 o.code) false = some (.clo g [] [])→
    (needsE o.code≤o.n.length→CallT Tryd.prog g ([] ++ [.ptr 0 0,cIf o.n] ++ []) (tnH M (mF M) (mW M) []) (fun t H'=>t = .tup []∧H' = ranH (M.ev o.code o.n).1 (M.ev o.code o.n).2 []))→
    CallP Tryd.prog 31 [.agg [.v (.int .u32 M.base),I64 M.cnt,I64 M.made,I64 M.w,I64 M.h,mpF m,mpW m,BL M.on,I64 M.df,I64 M.dx,I64 M.dy],otT o]
     (.tup [mgT (if needsE o.code≠0∧needsE o.code≤o.n.length then M.ev o.code o.n else (M,[])).1,rqN (if needsE o.code≠0∧needsE o.code≤o.n.length then M.ev o.code o.n else (M,[])).2]):=by
   intro g hn0 hlk hact
   obtain ⟨rfl,hfl⟩:=hne hn0
   by_cases hle : needsE o.code≤o.n.length
   ·rw [if_pos ⟨hn0,hle⟩]
    have ht:=hact hle
    have hfr:=(fr_ev M o.code o.n).trans hfM
    have hle' : f.fx.length≤o.n.length:=by omega
    generalize M.ev o.code o.n = r at *
    obtain ⟨m2,rs⟩:=r
    match rs,ht with
    | [],ht=>exact zfs M o m2 f g hfr k2 hev hle' hlk ht _ _ hX hY hc.1 hc.2 hcF hcW
    | [r1],ht=>exact zfr M o m2 f g r1 hfr k2 hev hle' hlk ht _ _ hX hY hc.1 hc.2 hcF hcW
    | r1 :: r2 :: rs,ht=>exact zfq M o m2 f g r1 r2 rs hfr k2 hev hle' hlk ht _ _ hX hY hc.1 hc.2 hcF hcW
   ·rw [if_neg (fun k=>hle k.2)]
    exact zh3 M o f g hfM k2 hev (by omega) hlk _ _ hX hY hc.1 hc.2 hcF hcW
  by_cases c1 : o.code = 17
  ·refine fin _ (by rw [c1];decide) (by rw [c1];rfl) fun hle=>?_
   rw [c1] at hle ⊢
   exact zig M o.n top okM htop hle
  by_cases c2 : o.code = 19
  ·have hlk : mLook2 tab 138 evsK evsT (.int .i64 o.code) false = some (.clo _ [] []):=(by rw [c2];rfl)
   exact fin _ (by rw [c2];decide) hlk fun hle=>hcf M _ okM hfM k2 c1 hlk hle
  by_cases c3 : o.code = 16
  ·have hlk : mLook2 tab 138 evsK evsT (.int .i64 o.code) false = some (.clo _ [] []):=(by rw [c3];rfl)
   exact fin _ (by rw [c3];decide) hlk fun hle=>hcf M _ okM hfM k2 c1 hlk hle
  by_cases c4 : o.code = 14
  ·have hlk : mLook2 tab 138 evsK evsT (.int .i64 o.code) false = some (.clo _ [] []):=(by rw [c4];rfl)
   exact fin _ (by rw [c4];decide) hlk fun hle=>hcf M _ okM hfM k2 c1 hlk hle
  by_cases c5 : o.code = 20
  ·have hlk : mLook2 tab 138 evsK evsT (.int .i64 o.code) false = some (.clo _ [] []):=(by rw [c5];rfl)
   exact fin _ (by rw [c5];decide) hlk fun hle=>hcf M _ okM hfM k2 c1 hlk hle
  by_cases c6 : o.code = 10
  ·have hlk : mLook2 tab 138 evsK evsT (.int .i64 o.code) false = some (.clo _ [] []):=(by rw [c6];rfl)
   exact fin _ (by rw [c6];decide) hlk fun hle=>hcf M _ okM hfM k2 c1 hlk hle
  by_cases c7 : o.code = 3
  ·have hlk : mLook2 tab 138 evsK evsT (.int .i64 o.code) false = some (.clo _ [] []):=(by rw [c7];rfl)
   exact fin _ (by rw [c7];decide) hlk fun hle=>hcf M _ okM hfM k2 c1 hlk hle
  by_cases c8 : o.code = 4
  ·have hlk : mLook2 tab 138 evsK evsT (.int .i64 o.code) false = some (.clo _ [] []):=(by rw [c8];rfl)
   exact fin _ (by rw [c8];decide) hlk fun hle=>hcf M _ okM hfM k2 c1 hlk hle
  by_cases c9 : o.code = 5
  ·have hlk : mLook2 tab 138 evsK evsT (.int .i64 o.code) false = some (.clo _ [] []):=(by rw [c9];rfl)
   exact fin _ (by rw [c9];decide) hlk fun hle=>hcf M _ okM hfM k2 c1 hlk hle
  have hn0 : needsE o.code = 0:=by unfold needsE;rw [if_neg c1,if_neg c2,if_neg c3,if_neg c4,if_neg c5,if_neg c6,if_neg c7,if_neg c8,if_neg c9]
  rw [if_neg (fun k=>k.1 hn0)]
  exact zh4 M o f k hfM k2 hev (zg7 _ c1 c2 c3 c4 c5 c6 c7 c8 c9) _ _ hX hY hc.1 hc.2 hcF hcW
 rw [if_neg k2]
 exact zjx M o hfM k0 k1 k2 _ _ hX hY hc.1 hc.2 hcF hcW
end

section
open Go.RowKit
set_option maxRecDepth 10000
set_option maxHeartbeats 2000000
theorem zgh {m : Mg} (hf : m.fresh = false) : mpF m = .mp (kF m.F) (tF m.F):=if_neg (by rw [hf];simp)
theorem zde (m : Mg) (top : Int) (ok : m.Ok top) (htop : top≤1000000) (hf : m.fresh = false) (id : Int) (hid : 0≤id∧id < 4294967296) : CallP Tryd.prog 33 [mgT m,.v (.int .u32 id)] (.tup [.v (.int .u32 (lkF m.F id).1.fr),BL (lkF m.F id).2]):=by
 have hlk:=lookF ok.fk id true
 have hp3:=xn m
 have hp4:=xm m
 have hpF:=pF m.F
 have hfr : 0≤(lkF m.F id).1.fr∧(lkF m.F id).1.fr < 4294967296:=by
  have hb:=ok.base
  have hc:=ok.cnt
  have hl:=ok.lens
  cases h : posK m.F id with
  | none=>rw [s0 h];exact ⟨by decide,by decide⟩
  | some i=>
   obtain ⟨v,he⟩:=vn h
   rw [xb h he]
   have:=ok.fr _ (v4 he)
   dsimp only at *
   exact ⟨by omega,by omega⟩
 generalize lkF m.F id = r at *
 refine CallP.intro2 yw yw ?_;refine CallT.intro zc Tryd.func33 rfl (by kernel_rfl) (Nat.le_of_ble_eq_true rfl) ?_;refine ze zc [2] rfl ?_;refine yx rfl rfl ?_;iterate 2 refine za rfl ?_
 refine zb ?_;refine ze zc [] rfl ?_;iterate 3 refine za rfl ?_
 refine za (t:=I64 id) (by show some (T.v (.int .i64 (IntKind.i64.wrap id)),(none : Option (Nat × List T))) = _;rw [w4 zu]) ?_;refine za (t:=.tup [frT r.1,BL r.2]) (ui (by show some (mpF m) = _;rw [zgh hf]) rfl hlk) ?_;iterate 3 refine za rfl ?_
 refine yk rfl rfl ?_;refine zp rfl rfl rfl rfl rfl xf rfl ?_;refine za rfl ?_;refine zb ?_;refine ze zc [] rfl ?_;iterate 2 refine za rfl ?_
 refine za (t:=.v (.int .u32 r.1.fr)) (by show some (T.v (.int .u32 (IntKind.u32.wrap r.1.fr)),(none : Option (Nat × List T))) = _;rw [zcv hfr]) ?_;iterate 3 refine za rfl ?_
 refine zb ?_;refine yr ?_;exact ⟨trivial,_,rfl,Cv.eq (by first | rfl | (simp [*];done)) rfl⟩
theorem zh2 (m : Mg) (top : Int) (ok : m.Ok top) (hf : m.fresh = false) (id : Int) (hid : 0≤id∧id < 4294967296) : CallP Tryd.prog 51 [mgT m,.v (.int .u32 id)] (strT (lkF m.F id).1.title):=by
 have hlk:=lookF ok.fk id false
 have hp3:=xn m
 have hp4:=xm m
 have hpF:=pF m.F
 generalize lkF m.F id = r at *
 refine CallP.intro2 yw yw ?_;refine CallT.intro zc Tryd.func51 rfl (by kernel_rfl) (Nat.le_of_ble_eq_true rfl) ?_;refine ze zc [2] rfl ?_;refine yx rfl rfl ?_;refine za rfl ?_;refine zb ?_;refine ze zc [] rfl ?_;iterate 3 refine za rfl ?_
 refine za (t:=I64 id) (by show some (T.v (.int .i64 (IntKind.i64.wrap id)),(none : Option (Nat × List T))) = _;rw [w4 zu]) ?_;refine za (t:=frT r.1) (ui (by show some (mpF m) = _;rw [zgh hf]) rfl hlk) ?_;iterate 2 refine za rfl ?_
 refine zb ?_;refine yr ?_;exact ⟨trivial,_,rfl,Cv.eq (by first | rfl | (simp [*];done)) rfl⟩
theorem vo (m : Mg) : (flat (mgT m)).all cellB = true:=by
 have hc:=zgg m
 show (true && (true && (true && (true && (true && (cellB (mpF m) && (cellB (mpW m) && (true && (true && (true && (true && true))))))))))) = true
 rw [hc.1,hc.2];rfl
/- the example -/
abbrev awo1 : Ot:=⟨2,17,0,[1,2097153],[],[]⟩
abbrev awo2 : Ot:=⟨1,9,5,[1,0,0,20,10,0,0],[],[]⟩
abbrev awo3 : Ot:=⟨1,15,6,[4,8,0],[],[97]⟩
def aw0 : Mg:=newMg 1 60 40
def aw1 : Mg:=(aw0.step awo1).1
def aw2 : Mg:=(aw1.step awo2).1
def aw3 : Mg:=(aw2.step awo3).1
theorem tz {l : List Int} (h : l.all (fun v=>decide (-2147483648≤v) && decide (v≤2147483647)) = true) : ∀ v∈l,r32 v:=fun v hv=>by
 have:=List.all_eq_true.1 h v hv
 simpa [r32] using this
theorem zb4 : CallP Tryd.prog 26 [] (BL true):=by
 have ok0 : aw0.Ok 4:=zaz 1 60 40 (by decide) (by decide) (by decide) (by decide) (by decide) (by decide)
 have f1 : awo1.Few:=⟨tz (by decide),tz (by decide),by decide⟩
 have f2 : awo2.Few:=⟨tz (by decide),tz (by decide),by decide⟩
 have f3 : awo3.Few:=⟨tz (by decide),tz (by decide),by decide⟩
 have ok1 : aw1.Ok 11:=ok0.step awo1 f1 (by decide)
 have ok2 : aw2.Ok 18:=ok1.step awo2 f2 (by decide)
 have ok3 : aw3.Ok 25:=ok2.step awo3 f3 (by decide)
 have hnew : CallP Tryd.prog 30 [I64 1,I64 60,I64 40] (.tup [mgT aw0,.islc (encL cRn (newL 1048576)) 4 none,I64 0]):=zgi 1 60 40 (by decide) (by decide) (by decide) (by decide) (by decide) (by decide)
 have s1 : CallP Tryd.prog 31 [mgT aw0,otT awo1] (.tup [mgT aw1,rqN [rq 9 [2097153],rq 15 [2097153,8,0,0,64,0]]]):=by
  have:=qg aw0 awo1 4 ok0 (by decide) f1 (by decide) fun M g _ _ _ h=>absurd rfl h
  rw [show (aw0.step awo1).2 = [rq 9 [2097153],rq 15 [2097153,8,0,0,64,0]] from by decide +kernel] at this
  exact this
 have s2 : CallP Tryd.prog 31 [mgT aw1,otT awo2] (.tup [mgT aw2,rqN []]):=by
  have:=qg aw1 awo2 11 ok1 (by decide) f2 (by decide) fun M g _ _ k=>absurd k (by decide)
  rw [show (aw1.step awo2).2 = [] from by decide +kernel] at this
  exact this
 obtain ⟨L,hL⟩ : ∃ L,L = [rq 1 [1048586,1,0,0,22,20,200,1,1],rq 7 [1048586,32,0,0,0,0,0,3356],rq 54 [2097153,1],rq 6 [2097153,1048586,1,9],rq 3 [2097153],rq 3 [1048586],⟨36,[1048586,1048577,1,7,1],[97],[]⟩]:=⟨_,rfl⟩
 have s3 : CallP Tryd.prog 31 [mgT aw2,otT awo3] (.tup [mgT aw3,.islc (encL cRn (rq 1 [1048586,1,0,0,22,20,200,1,1] :: L.tail)) 7 none]):=by
  have:=qg aw2 awo3 18 ok2 (by decide) f3 (by decide) fun M g _ _ k=>absurd k (by decide)
  rw [show (aw2.step awo3).2 = rq 1 [1048586,1,0,0,22,20,200,1,1] :: L.tail from by rw [hL];decide +kernel] at this
  rw [show rqN (rq 1 [1048586,1,0,0,22,20,200,1,1] :: L.tail) = .islc (encL cRn (rq 1 [1048586,1,0,0,22,20,200,1,1] :: L.tail)) 7 none from by rw [hL];rfl] at this
  exact this
 have hpl : T.pureL (encL cRn L.tail) = true:=zg _ _
 have hfr : CallP Tryd.prog 33 [mgT aw3,.v (.int .u32 2097153)] (.tup [.v (.int .u32 1048586),BL true]):=by
  have:=zde aw3 25 ok3 (by decide) (by decide +kernel) 2097153 (by decide)
  rw [show lkF aw3.F 2097153 = (⟨1048586,20,10,[97]⟩,true) from by decide +kernel] at this
  exact this
 have hti : CallP Tryd.prog 51 [mgT aw3,.v (.int .u32 2097153)] (strT [97]):=by
  have:=zh2 aw3 25 ok3 (by decide +kernel) 2097153 (by decide)
  rw [show lkF aw3.F 2097153 = (⟨1048586,20,10,[97]⟩,true) from by decide +kernel] at this
  exact this
 have c0:=vo aw0
 have c1:=vo aw1
 have c2:=vo aw2
 have c3:=vo aw3
 have p0:=xn aw0
 have p1:=xn aw1
 have p2:=xn aw2
 have p3:=xn aw3
 have q0:=xm aw0
 have q1:=xm aw1
 have q2:=xm aw2
 have q3:=xm aw3
 generalize aw0 = A0 at *
 generalize aw1 = A1 at *
 generalize aw2 = A2 at *
 generalize aw3 = A3 at *
 generalize newL 1048576 = N0 at *
 generalize L.tail = LT at *
 clear hL
 refine CallP.intro2 yw yw ?_;refine CallT.intro zc Tryd.func26 rfl (by kernel_rfl) (Nat.le_of_ble_eq_true rfl) ?_;refine ze zc [] rfl ?_;refine za rfl ?_;refine zb ?_;refine ze zc [] rfl ?_;refine z6 rfl rfl rfl (hnew) ?_;iterate 4 refine za rfl ?_
 refine yk rfl rfl ?_;refine zp rfl rfl rfl rfl rfl (Nat.le_of_ble_eq_true rfl) c0 ?_;iterate 2 refine za rfl ?_
 refine zb ?_;refine ze zc [16] rfl ?_;refine za (t:=mgT A0) rfl ?_;refine yx rfl rfl ?_;refine za (t:=.agg [I64 2,I64 17,I64 0,.islc (encL cI [1,2097153]) 2 (some 2),strT [],NIL]) rfl ?_;refine qi rfl rfl (s1) au_wk yw ?_;iterate 3 refine za rfl ?_
 refine zp rfl rfl rfl rfl rfl (Nat.le_of_ble_eq_true rfl) c1 ?_;refine za rfl ?_;refine zb ?_;refine z7 ([(1,.ptr 0 0)]) ([.c (mgC A1)]) [2,3,4] rfl (by refine ⟨[some 0],rfl,yb,ya,?_,?_⟩ <;> (repeat' first | exact trivial | exact yc | exact yd | exact z9 rfl | refine zn ?_ ?_ | refine zk rfl ?_ ?_ | refine zj ?_ ?_ | refine ye rfl ?_ | fail) <;> first | exact yv | (exact CvL.eq rfl (xk _))) ?_
 refine ze zc [23] rfl ?_;refine za (t:=mgT A1) rfl ?_;refine yx rfl rfl ?_;refine za (t:=.agg [I64 1,I64 9,I64 5,.islc (encL cI [1,0,0,20,10,0,0]) 7 (some 7),strT [],NIL]) rfl ?_;refine qi rfl rfl (s2) au_wk yw ?_;iterate 3 refine za rfl ?_
 refine zp rfl rfl rfl rfl rfl (Nat.le_of_ble_eq_true rfl) c2 ?_;refine za rfl ?_;refine zb ?_;refine z7 ([(1,.ptr 0 0)]) ([.c (mgC A2)]) [2,3,4,5] rfl (by refine ⟨[some 0],rfl,yb,ya,?_,?_⟩ <;> (repeat' first | exact trivial | exact yc | exact yd | exact z9 rfl | refine zn ?_ ?_ | refine zk rfl ?_ ?_ | refine zj ?_ ?_ | refine ye rfl ?_ | fail) <;> first | exact yv | (exact CvL.eq rfl (xk _))) ?_
 refine ze zc [30,31] rfl ?_;refine za (t:=mgT A2) rfl ?_;iterate 2 refine yx rfl rfl ?_
 refine za (t:=.agg [I64 1,I64 15,I64 6,.islc (encL cI [4,8,0]) 3 (some 3),strT [],.islc (encL cI [97]) 1 (some 1)]) rfl ?_;refine qi rfl rfl (s3) au_wk yw ?_;iterate 3 refine za rfl ?_
 refine zp rfl rfl rfl rfl rfl (Nat.le_of_ble_eq_true rfl) c3 ?_;refine za rfl ?_;refine zb ?_;refine z7 ([(1,.iptr (mgC A3) 0)]) ([]) [2,3,4,5,6] rfl (by refine ⟨[],rfl,yb,ya,?_,?_⟩ <;> (repeat' first | exact trivial | exact yc | exact yd | exact z9 rfl | refine zn ?_ ?_ | refine zk rfl ?_ ?_ | refine zj ?_ ?_ | refine ye rfl ?_ | fail) <;> first | exact yv | (exact Cv.fptr ⟨rfl,(by simp)⟩ (CvL.eq rfl (xk _)))) ?_
 refine ze zc [] rfl ?_;refine za rfl ?_;refine z6 rfl rfl rfl (hfr) ?_;iterate 5 refine za rfl ?_
 refine zb ?_;refine ze zc [] rfl ?_;iterate 3 refine za rfl ?_
 refine' zx (d:=47) [_,_,_,_] rfl ?_ rfl ?_
 rotate_left
 ·refine zw rfl rfl (fun hb6_2=>?_) (fun hb6_2=>?_)
  ·have ghb6_2:=hb6_2
   try simp only [zf,Bool.not_true,Bool.not_false] at ghb6_2
   refine za rfl ?_;refine zd rfl rfl hb6_2 ?_;refine za rfl ?_;refine zd rfl rfl hb6_2 ?_;refine za rfl ?_;refine zh rfl (fun _=>rfl) ?_;exact zb ⟨rfl,rfl⟩
  ·refine zl rfl rfl hb6_2 ?_;refine zl rfl rfl hb6_2 ?_;exact zh rfl (fun h=>absurd (h.symm.trans hb6_2) (by decide)) (zb ⟨rfl,rfl⟩)
 refine za rfl ?_;refine' zx (d:=52) [_,_,_,_] rfl ?_ rfl ?_
 rotate_left
 ·refine zw rfl rfl (fun hb6_7=>?_) (fun hb6_7=>?_)
  ·have ghb6_7:=hb6_7
   try simp only [zf,Bool.not_true,Bool.not_false] at ghb6_7
   refine za rfl ?_;refine zd rfl rfl hb6_7 ?_;refine za rfl ?_;refine zd rfl rfl hb6_7 ?_;refine za rfl ?_;refine zh rfl (fun _=>rfl) ?_;exact zb ⟨rfl,rfl⟩
  ·refine zl rfl rfl hb6_7 ?_;refine zl rfl rfl hb6_7 ?_;exact zh rfl (fun h=>absurd (h.symm.trans hb6_7) (by decide)) (zb ⟨rfl,rfl⟩)
 refine za rfl ?_;refine' zx (d:=57) [_,_,_,_] rfl ?_ rfl ?_
 rotate_left
 ·refine zw rfl rfl (fun hb6_12=>?_) (fun hb6_12=>?_)
  ·have ghb6_12:=hb6_12
   try simp only [zf,Bool.not_true,Bool.not_false] at ghb6_12
   refine za rfl ?_;refine zd rfl rfl hb6_12 ?_;refine za rfl ?_;refine zd rfl rfl hb6_12 ?_;refine za rfl ?_;refine zh rfl (fun _=>rfl) ?_;exact zb ⟨rfl,rfl⟩
  ·refine zl rfl rfl hb6_12 ?_;refine zl rfl rfl hb6_12 ?_;exact zh rfl (fun h=>absurd (h.symm.trans hb6_12) (by decide)) (zb ⟨rfl,rfl⟩)
 refine za rfl ?_;refine' zx (d:=62) [_,_,_,_] rfl ?_ rfl ?_
 rotate_left
 ·refine zw rfl rfl (fun hb6_17=>?_) (fun hb6_17=>?_)
  ·have ghb6_17:=hb6_17
   try simp only [zf,Bool.not_true,Bool.not_false] at ghb6_17
   refine za rfl ?_;refine zd rfl rfl hb6_17 ?_;refine za rfl ?_;refine zd rfl rfl hb6_17 ?_;refine za rfl ?_;refine zh rfl (fun _=>rfl) ?_;exact zb ⟨rfl,rfl⟩
  ·refine zl rfl rfl hb6_17 ?_;refine zl rfl rfl hb6_17 ?_;exact zh rfl (fun h=>absurd (h.symm.trans hb6_17) (by decide)) (zb ⟨rfl,rfl⟩)
 refine za rfl ?_;refine' zx (d:=65) [_,_] rfl ?_ rfl ?_
 rotate_left
 ·refine zw rfl rfl (fun hb6_22=>?_) (fun hb6_22=>?_)
  ·have ghb6_22:=hb6_22
   try simp only [zf,Bool.not_true,Bool.not_false] at ghb6_22
   refine za rfl ?_;refine zh rfl (fun _=>rfl) ?_;exact zb ⟨rfl,rfl⟩
  ·exact zh rfl (fun h=>absurd (h.symm.trans hb6_22) (by decide)) (zb ⟨rfl,rfl⟩)
 refine za rfl ?_;refine' zx (d:=69) [_,_,_] rfl ?_ rfl ?_
 rotate_left
 ·refine zw rfl rfl (fun hb6_25=>?_) (fun hb6_25=>?_)
  ·have ghb6_25:=hb6_25
   try simp only [zf,Bool.not_true,Bool.not_false] at ghb6_25
   refine za rfl ?_;refine zd rfl rfl hb6_25 ?_;refine za rfl ?_;refine zh rfl (fun _=>rfl) ?_;exact zb ⟨rfl,rfl⟩
  ·refine zl rfl rfl hb6_25 ?_;exact zh rfl (fun h=>absurd (h.symm.trans hb6_25) (by decide)) (zb ⟨rfl,rfl⟩)
 refine za rfl ?_;refine' zx (d:=74) [_,_,_,_] rfl ?_ rfl ?_
 rotate_left
 ·refine zw rfl rfl (fun hb6_29=>?_) (fun hb6_29=>?_)
  ·have ghb6_29:=hb6_29
   try simp only [zf,Bool.not_true,Bool.not_false] at ghb6_29
   refine za rfl ?_;refine zd rfl rfl hb6_29 ?_;refine z6 rfl rfl rfl (hti) ?_;refine zd rfl rfl hb6_29 ?_;refine za rfl ?_;refine zh rfl (fun _=>rfl) ?_;exact zb ⟨rfl,rfl⟩
  ·refine zl rfl rfl hb6_29 ?_;refine zl rfl rfl hb6_29 ?_;exact zh rfl (fun h=>absurd (h.symm.trans hb6_29) (by decide)) (zb ⟨rfl,rfl⟩)
 refine za rfl ?_;refine' zx (d:=82) [_,_,_,_,_,_,_] rfl ?_ rfl ?_
 rotate_left
 ·refine zw rfl rfl (fun hb6_34=>?_) (fun hb6_34=>?_)
  ·have ghb6_34:=hb6_34
   try simp only [zf,Bool.not_true,Bool.not_false] at ghb6_34
   refine za rfl ?_;refine zd rfl rfl hb6_34 ?_;refine zr (m:=0) rfl rfl rfl rfl rfl rfl zu ?_;refine zd rfl rfl hb6_34 ?_;refine za rfl ?_;refine zd rfl rfl hb6_34 ?_;refine za rfl ?_;refine zd rfl rfl hb6_34 ?_;refine za rfl ?_;refine zd rfl rfl hb6_34 ?_;refine za rfl ?_;refine zh rfl (fun _=>rfl) ?_;exact zb ⟨rfl,rfl⟩
  ·refine zl rfl rfl hb6_34 ?_;iterate 4 refine zl rfl rfl hb6_34 ?_
   exact zh rfl (fun h=>absurd (h.symm.trans hb6_34) (by decide)) (zb ⟨rfl,rfl⟩)
 refine za rfl ?_;refine' zx (d:=91) [_,_,_,_,_,_,_,_] rfl ?_ rfl ?_
 rotate_left
 ·refine zw rfl rfl (fun hb6_42=>?_) (fun hb6_42=>?_)
  ·have ghb6_42:=hb6_42
   try simp only [zf,Bool.not_true,Bool.not_false] at ghb6_42
   refine za rfl ?_;refine zd rfl rfl hb6_42 ?_;refine zr (m:=0) rfl rfl rfl rfl rfl rfl zu ?_;refine zd rfl rfl hb6_42 ?_;refine za rfl ?_;refine zd rfl rfl hb6_42 ?_;refine za rfl ?_;refine zd rfl rfl hb6_42 ?_;refine zr rfl rfl rfl rfl rfl y9 zu ?_;refine zd rfl rfl hb6_42 ?_;refine za rfl ?_;refine zd rfl rfl hb6_42 ?_;refine za rfl ?_;refine zh rfl (fun _=>rfl) ?_;exact zb ⟨rfl,rfl⟩
  ·refine zl rfl rfl hb6_42 ?_;iterate 5 refine zl rfl rfl hb6_42 ?_
   exact zh rfl (fun h=>absurd (h.symm.trans hb6_42) (by decide)) (zb ⟨rfl,rfl⟩)
 refine za rfl ?_;refine' zx (d:=100) [_,_,_,_,_,_,_,_] rfl ?_ rfl ?_
 rotate_left
 ·refine zw rfl rfl (fun hb6_51=>?_) (fun hb6_51=>?_)
  ·have ghb6_51:=hb6_51
   try simp only [zf,Bool.not_true,Bool.not_false] at ghb6_51
   refine za rfl ?_;refine zd rfl rfl hb6_51 ?_;refine zr (m:=0) rfl rfl rfl rfl rfl rfl zu ?_;refine zd rfl rfl hb6_51 ?_;refine za rfl ?_;refine zd rfl rfl hb6_51 ?_;refine za rfl ?_;refine zd rfl rfl hb6_51 ?_;refine zr rfl rfl rfl rfl rfl y9 zu ?_;refine zd rfl rfl hb6_51 ?_;refine za rfl ?_;refine zd rfl rfl hb6_51 ?_;refine za rfl ?_;refine zh rfl (fun _=>rfl) ?_;exact zb ⟨rfl,rfl⟩
  ·refine zl rfl rfl hb6_51 ?_;iterate 5 refine zl rfl rfl hb6_51 ?_
   exact zh rfl (fun h=>absurd (h.symm.trans hb6_51) (by decide)) (zb ⟨rfl,rfl⟩)
 refine za rfl ?_;refine zb ?_;refine yr ?_;exact ⟨trivial,_,rfl,Cv.eq (by simp [rq]) rfl⟩
end

section
open Go.RowKit
set_option maxRecDepth 10000
set_option maxHeartbeats 1000000
end

section
open Go.RowKit
set_option maxRecDepth 10000
set_option maxHeartbeats 1000000
end

section
open Go.RowKit
abbrev shI : Sh:=.int .i64
def i64 (n : Int) : Prop:=-9223372036854775808≤n∧n≤9223372036854775807
theorem zkg {n : Int} (h : (Lit.int .i64 n).wf = true) : i64 n:=by
 simp [Lit.wf,IntKind.min,IntKind.max,IntKind.signed,IntKind.bits] at h
 unfold i64;omega
theorem zct {ts : List T} (h : shI.wt ts) : ∃ n,ts = [I64 n]∧i64 n:=by
 obtain ⟨n,rfl,hw⟩:=h
 exact ⟨n,rfl,zkg hw⟩
theorem wt_str {ts : List T} (h : Sh.str.wt ts) : ∃ l : List UInt8,ts = [strT l]∧l.length≤maxLen:=by
 obtain ⟨s,rfl,hs⟩:=h
 refine ⟨s.data.toList,?_,by simpa using hs⟩
 show [T.v (.string s)] = [T.v (.string ⟨s.data.toList.toArray⟩)]
 rw [Array.toArray_toList]
theorem zgc {α : Type} (c : Cd α) {p : List T→Prop} {Q : α→Prop} (h : ∀ a,p a→∃ x,a = c.cells x∧Q x) : ∀ (n : Nat) {xs : List T},nth p n xs→∃ l : List α,xs = encL c l∧l.length = n∧∀ x∈l,Q x
 | 0,xs,k=>⟨[],k,rfl,fun _ hx=>by cases hx⟩
 | n + 1,xs,⟨a,b,e,k1,k2⟩=>by
  obtain ⟨x,rfl,hx⟩:=h a k1
  obtain ⟨l,rfl,rfl,hl⟩:=zgc c h n k2
  exact ⟨x :: l,e,rfl,fun y hy=>by
   rcases List.mem_cons.1 hy with rfl | hy
   ·exact hx
   ·exact hl y hy⟩
theorem wt_sl {α : Type} (c : Cd α) {s : Sh} {Q : α→Prop} (h : ∀ a,s.wt a→∃ x,a = c.cells x∧Q x) {ts : List T} (k : (Sh.sl s).wt ts) : ∃ l : List α,ts = [.islc (encL c l) l.length none]∧l.length≤maxLen∧∀ x∈l,Q x:=by
 obtain ⟨xs,n,rfl,h1,h2⟩:=k
 obtain ⟨l,rfl,rfl,hl⟩:=zgc c h n h2
 exact ⟨l,rfl,h1,hl⟩
end

section
open Go.RowKit
set_option maxRecDepth 10000
set_option maxHeartbeats 2000000
/- the sort of nothing -/
theorem len64_0 : CallP Tryd.prog 140 [.v (.int .u64 0)] (I64 0):=by
 refine CallP.intro2 yw yw ?_;refine CallT.intro zc Tryd.func140 rfl (by kernel_rfl) (Nat.le_of_ble_eq_true rfl) ?_;refine ze zc [] rfl ?_;refine za rfl ?_;refine zb ?_;refine zo ?_;refine ze zc [] rfl ?_;iterate 2 refine za rfl ?_
 refine zb ?_;refine yq rfl ?_;refine zt ?_;refine zo ?_;refine ze zc [] rfl ?_;iterate 2 refine za rfl ?_
 refine zb ?_;refine yq rfl ?_;refine zt ?_;refine zo ?_;refine ze zc [] rfl ?_;iterate 2 refine za rfl ?_
 refine zb ?_;refine yq rfl ?_;refine zt ?_;refine ze zc [] rfl ?_;iterate 7 refine za rfl ?_
 refine zb ?_;refine yr ?_;exact ⟨trivial,_,rfl,Cv.eq (by first | rfl | (simp [*];done)) rfl⟩
theorem len_0 : CallP Tryd.prog 99 [.v (.int .u64 0)] (I64 0):=by
 refine CallP.intro2 yw yw ?_;refine CallT.intro zc Tryd.func99 rfl (by kernel_rfl) (Nat.le_of_ble_eq_true rfl) ?_;refine ze zc [] rfl ?_;refine za rfl ?_;refine zb ?_;refine zo ?_;refine yq rfl ?_;refine zt ?_;refine ze zc [] rfl ?_;refine za rfl ?_;refine z6 rfl rfl rfl (len64_0) ?_;refine za rfl ?_;refine zb ?_;refine yr ?_;exact ⟨trivial,_,rfl,Cv.eq (by first | rfl | (simp [*];done)) rfl⟩
theorem eqI_p (a : List Int) (ha : a.length≤1000000) : CallP Tryd.prog 100 [cIf a,cIf a] (BL true):=by
 refine CallP.intro2 yw yw ?_;refine CallT.intro zc Tryd.func100 rfl (by kernel_rfl) (Nat.le_of_ble_eq_true rfl) ?_;refine ze zc [] rfl ?_;refine za rfl ?_;refine zb ?_;refine zo ?_;refine ze zc [] rfl ?_;iterate 5 refine za rfl ?_
 refine zb ?_;refine zi rfl (fun hc0=>?_) (fun hc0=>?_)
 ·exact absurd hc0 (by simp)
 ·(try simp only [zf] at hc0)
  refine zt ?_;refine zo ?_;refine ze zc [] rfl ?_;iterate 3 refine za rfl ?_
  refine zb ?_;refine yf ?_;refine xo (σ:=Nat) (fun i=>a.length - i) (fun i=>i≤a.length) (fun i=>[(13,I64 i),(0,cIf a),(1,cIf a)]) (fun _=>[]) [12] rfl (0) ?_ ?_ ?_
  ·refine ⟨[],rfl,yb,ya,?_,?_⟩ <;> (repeat' first | exact trivial | exact yc | exact yd | exact z9 rfl | refine zn ?_ ?_ | refine zk rfl ?_ ?_ | refine zj ?_ ?_ | refine ye rfl ?_ | fail) <;> first | exact yv | (skip)
  ·(try dsimp only);omega
  rintro i hi;refine ze zc [] rfl ?_;refine za rfl ?_;refine zb ?_;refine zo ?_;refine zi rfl (fun hc1=>?_) (fun hc1=>?_)
  ·(try simp only [zf] at hc1);have hil : i < a.length:=(by omega)
   refine zt ?_;refine zo ?_;refine yf ?_;refine ze zc [] rfl ?_;iterate 2 refine za rfl ?_
   refine zb ?_;refine yu zc [] [_,_,_,_,_,_,_,_,_] rfl yj yj ?_;iterate 2 refine za rfl ?_
   refine zr rfl rfl rfl rfl rfl rfl zu ?_;refine zm rfl rfl yn ?_;iterate 2 refine za rfl ?_
   refine zr rfl rfl rfl rfl rfl rfl zu ?_;refine zm rfl rfl yn ?_;refine za rfl ?_;iterate 2 refine zb ?_
   refine zi rfl (fun hc2=>?_) (fun hc2=>?_)
   ·exact absurd hc2 (by simp)
   ·(try simp only [zf] at hc2)
    refine zt ?_;refine z4 zc [] rfl ?_;refine xg rfl rfl zu ?_;refine za rfl ?_;refine zb ?_;refine ⟨i + 1,by (try dsimp only);omega,?_,(by refine ⟨[],rfl,yb,ya,?_,?_⟩ <;> (repeat' first | exact trivial | exact yc | exact yd | exact z9 rfl | refine zn ?_ ?_ | refine zk rfl ?_ ?_ | refine zj ?_ ?_ | refine ye rfl ?_ | fail) <;> first | exact yv | (exact Cv.pure rfl))⟩
    (try dsimp only);omega
  ·(try simp only [zf] at hc1)
   refine y7 ?_;refine ze zc [] rfl ?_;refine za rfl ?_;refine zb ?_;refine yr ?_;exact ⟨trivial,_,rfl,Cv.eq (by first | rfl | (simp [*];done)) rfl⟩
theorem eqN_p : CallP Tryd.prog 100 [NIL,NIL] (BL true):=by
 refine CallP.intro2 yw yw ?_;refine CallT.intro zc Tryd.func100 rfl (by kernel_rfl) (Nat.le_of_ble_eq_true rfl) ?_;refine ze zc [] rfl ?_;refine za rfl ?_;refine zb ?_;refine zo ?_;refine ze zc [] rfl ?_;iterate 5 refine za rfl ?_
 refine zb ?_;refine yq rfl ?_;refine zt ?_;refine zo ?_;refine ze zc [] rfl ?_;iterate 3 refine za rfl ?_
 refine zb ?_;refine yf ?_;refine xo (σ:=Nat) (fun i=>1 - i) (fun i=>i≤0) (fun i=>[(13,I64 0),(0,NIL),(1,NIL)]) (fun _=>[]) [12] rfl (0) ?_ ?_ ?_
 ·refine ⟨[],rfl,yb,ya,?_,?_⟩ <;> (repeat' first | exact trivial | exact yc | exact yd | exact z9 rfl | refine zn ?_ ?_ | refine zk rfl ?_ ?_ | refine zj ?_ ?_ | refine ye rfl ?_ | fail) <;> first | exact yv | (skip)
 ·(try dsimp only);omega
 rintro i hi;refine ze zc [] rfl ?_;refine za rfl ?_;refine zb ?_;refine zo ?_;refine yq rfl ?_;refine y7 ?_;refine ze zc [] rfl ?_;refine za rfl ?_;refine zb ?_;refine yr ?_;exact ⟨trivial,_,rfl,Cv.eq (by first | rfl | (simp [*];done)) rfl⟩
theorem fsame_p (n : List Int) (b : List UInt8) (hn : n.length≤1000000) : CallP Tryd.prog 66 [.agg [cIf n,strT b,NIL],.agg [cIf n,strT b,NIL]] (BL true):=by
 have h1:=eqI_p n hn
 have h2:=eqN_p
 refine CallP.intro2 yw yw ?_;refine CallT.intro zc Tryd.func66 rfl (by kernel_rfl) (Nat.le_of_ble_eq_true rfl) ?_;refine ze zc [2,3] rfl ?_;iterate 2 refine yx rfl rfl ?_
 refine za rfl ?_;refine zb ?_;refine ze zc [] rfl ?_;iterate 4 refine za rfl ?_
 refine z6 rfl rfl rfl (h1) ?_;refine za rfl ?_;refine' zx (d:=16) [_,_,_,_,_,_] rfl ?_ rfl ?_
 rotate_left
 ·refine zw rfl rfl (fun hb1_5=>?_) (fun hb1_5=>?_)
  ·have ghb1_5:=hb1_5
   try simp only [zf,Bool.not_true,Bool.not_false] at ghb1_5
   refine za rfl ?_;refine zd rfl rfl hb1_5 ?_;refine za rfl ?_;refine zd rfl rfl hb1_5 ?_;refine za rfl ?_;refine zd rfl rfl hb1_5 ?_;refine za rfl ?_;refine zd rfl rfl hb1_5 ?_;refine za rfl ?_;refine zh rfl (fun _=>rfl) ?_;exact zb ⟨rfl,rfl⟩
  ·refine zl rfl rfl hb1_5 ?_;iterate 3 refine zl rfl rfl hb1_5 ?_
   exact zh rfl (fun h=>absurd (h.symm.trans hb1_5) (by decide)) (zb ⟨rfl,rfl⟩)
 refine za rfl ?_;refine' zx (d:=23) [_,_,_,_,_,_] rfl ?_ rfl ?_
 rotate_left
 ·refine zw rfl rfl (fun hb1_12=>?_) (fun hb1_12=>?_)
  ·have ghb1_12:=hb1_12
   try simp only [zf,Bool.not_true,Bool.not_false] at ghb1_12
   refine za rfl ?_;refine zd rfl rfl hb1_12 ?_;refine za rfl ?_;refine zd rfl rfl hb1_12 ?_;refine za rfl ?_;refine zd rfl rfl hb1_12 ?_;refine za rfl ?_;refine zd rfl rfl hb1_12 ?_;refine z6 rfl rfl rfl (h2) ?_;refine zh rfl (fun _=>rfl) ?_;exact zb ⟨rfl,rfl⟩
  ·refine zl rfl rfl hb1_12 ?_;iterate 3 refine zl rfl rfl hb1_12 ?_
   exact zh rfl (fun h=>absurd (h.symm.trans hb1_12) (by decide)) (zb ⟨rfl,rfl⟩)
 refine za rfl ?_;refine zb ?_;refine yr ?_;exact ⟨trivial,_,rfl,Cv.eq (by first | rfl | (simp [*];done)) rfl⟩
theorem zcy (a : List Rq) (ha : a.length≤1000000) (hb : ∀ r∈a,r.n.length≤1000000) : CallP Tryd.prog 34 [rqN a,rqN a] (BL true):=by
 refine CallP.intro2 yw yw ?_;refine CallT.intro zc Tryd.func34 rfl (by kernel_rfl) (Nat.le_of_ble_eq_true rfl) ?_;refine ze zc [] rfl ?_;refine za rfl ?_;refine zb ?_;refine zo ?_;refine ze zc [] rfl ?_;iterate 5 refine za rfl ?_
 refine zb ?_;refine zi rfl (fun hc0=>?_) (fun hc0=>?_)
 ·exact absurd hc0 (by simp)
 ·(try simp only [zf] at hc0)
  refine zt ?_;refine zo ?_;refine ze zc [] rfl ?_;iterate 3 refine za rfl ?_
  refine zb ?_;refine yf ?_;refine xo (σ:=Nat) (fun i=>a.length - i) (fun i=>i≤a.length) (fun i=>[(13,I64 i),(0,rqN a),(1,rqN a)]) (fun _=>[]) [12] rfl (0) ?_ ?_ ?_
  ·refine ⟨[],rfl,yb,ya,?_,?_⟩ <;> (repeat' first | exact trivial | exact yc | exact yd | exact z9 rfl | refine zn ?_ ?_ | refine zk rfl ?_ ?_ | refine zj ?_ ?_ | refine ye rfl ?_ | fail) <;> first | exact yv | (skip)
  ·(try dsimp only);omega
  rintro i hi;refine ze zc [] rfl ?_;refine za rfl ?_;refine zb ?_;refine zo ?_;refine zi rfl (fun hc1=>?_) (fun hc1=>?_)
  ·(try simp only [zf] at hc1);have hil : i < a.length:=(by omega);have hm : a[i]!∈a:=List.mem_iff_getElem?.2 ⟨i,getE hil⟩;have hfs:=fsame_p (a[i]!).n (a[i]!).b (hb _ hm)
   refine zt ?_;refine zo ?_;refine yf ?_;refine ze zc [] rfl ?_;iterate 2 refine za rfl ?_
   refine zb ?_;refine yu zc [] [_,_,_,_,_,_,_,_,_,_,_,_,_,_,_,_,_,_,_,_,_,_,_,_,_,_,_,_,_,_,_,_,_,_,_,_,_,_,_,_,_,_,_,_,_,_,_] rfl yj yj ?_;iterate 2 refine za rfl ?_
   refine zr rfl rfl rfl rfl rfl rfl zu ?_;refine za rfl ?_;refine zm rfl rfl yn ?_;iterate 2 refine za rfl ?_
   refine zr rfl rfl rfl rfl rfl rfl zu ?_;refine za rfl ?_;refine zm rfl rfl yn ?_;iterate 2 refine za rfl ?_
   refine' zx (d:=62) [_,_,_,_,_,_,_,_,_,_,_,_,_,_,_,_,_,_,_,_,_,_,_,_,_,_,_,_,_,_,_,_,_,_,_] rfl ?_ rfl ?_
   rotate_left
   ·refine zw rfl rfl (fun hb6_11=>?_) (fun hb6_11=>?_)
    ·have ghb6_11:=hb6_11
     try simp only [zf,Bool.not_true,Bool.not_false] at ghb6_11
     refine za rfl ?_;refine zd rfl rfl hb6_11 ?_;refine za rfl ?_;refine zd rfl rfl hb6_11 ?_;refine zr rfl rfl rfl rfl rfl rfl zu ?_;refine zd rfl rfl hb6_11 ?_;refine za rfl ?_;refine zd rfl rfl hb6_11 ?_;refine zm rfl rfl yn ?_;refine zd rfl rfl hb6_11 ?_;refine za rfl ?_;refine zd rfl rfl hb6_11 ?_;refine za rfl ?_;refine zd rfl rfl hb6_11 ?_;refine zr rfl rfl rfl rfl rfl rfl zu ?_;refine zd rfl rfl hb6_11 ?_;refine za rfl ?_;refine zd rfl rfl hb6_11 ?_;refine zm rfl rfl yn ?_;refine zd rfl rfl hb6_11 ?_;refine za rfl ?_;refine zd rfl rfl hb6_11 ?_;refine za rfl ?_;refine zd rfl rfl hb6_11 ?_;refine zr rfl rfl rfl rfl rfl rfl zu ?_;refine zd rfl rfl hb6_11 ?_;refine za rfl ?_;refine zd rfl rfl hb6_11 ?_;refine zm rfl rfl yn ?_;refine zd rfl rfl hb6_11 ?_;refine za rfl ?_;refine zd rfl rfl hb6_11 ?_;refine za rfl ?_;refine zd rfl rfl hb6_11 ?_;refine za rfl ?_;refine zd rfl rfl hb6_11 ?_;refine zr rfl rfl rfl rfl rfl rfl zu ?_;refine zd rfl rfl hb6_11 ?_;refine za rfl ?_;refine zd rfl rfl hb6_11 ?_;refine zm rfl rfl yn ?_;refine zd rfl rfl hb6_11 ?_;refine za rfl ?_;refine zd rfl rfl hb6_11 ?_;refine za rfl ?_;refine zd rfl rfl hb6_11 ?_;refine zr rfl rfl rfl rfl rfl rfl zu ?_;refine zd rfl rfl hb6_11 ?_;refine za rfl ?_;refine zd rfl rfl hb6_11 ?_;refine zm rfl rfl yn ?_;refine zd rfl rfl hb6_11 ?_;refine za rfl ?_;refine zd rfl rfl hb6_11 ?_;refine za rfl ?_;refine zd rfl rfl hb6_11 ?_;refine zr rfl rfl rfl rfl rfl rfl zu ?_;refine zd rfl rfl hb6_11 ?_;refine za rfl ?_;refine zd rfl rfl hb6_11 ?_
     refine zm rfl rfl yn ?_;refine zd rfl rfl hb6_11 ?_;refine za rfl ?_;refine zd rfl rfl hb6_11 ?_;refine z6 rfl rfl rfl (hfs) ?_;refine zd rfl rfl hb6_11 ?_;refine za rfl ?_;refine yz rfl (fun _=>rfl) ?_;exact zb ⟨rfl,rfl⟩
    ·refine zl rfl rfl hb6_11 ?_;iterate 32 refine zl rfl rfl hb6_11 ?_
     exact yz rfl (fun h=>absurd (h.symm.trans hb6_11) (by decide)) (zb ⟨rfl,rfl⟩)
   iterate 2 refine zb ?_
   refine zi rfl (fun hc2=>?_) (fun hc2=>?_)
   ·exact absurd hc2 (by simp)
   ·(try simp only [zf] at hc2)
    refine zt ?_;refine z4 zc [] rfl ?_;refine xg rfl rfl zu ?_;refine za rfl ?_;refine zb ?_;refine ⟨i + 1,by (try dsimp only);omega,?_,(by refine ⟨[],rfl,yb,ya,?_,?_⟩ <;> (repeat' first | exact trivial | exact yc | exact yd | exact z9 rfl | refine zn ?_ ?_ | refine zk rfl ?_ ?_ | refine zj ?_ ?_ | refine ye rfl ?_ | fail) <;> first | exact yv | (exact Cv.pure rfl))⟩
    (try dsimp only);omega
  ·(try simp only [zf] at hc1)
   refine y7 ?_;refine ze zc [] rfl ?_;refine za rfl ?_;refine zb ?_;refine yr ?_;exact ⟨trivial,_,rfl,Cv.eq (by first | rfl | (simp [*];done)) rfl⟩
/- the manager that asks -/
end

section
open Go.RowKit
def visH (fl : Bool) (F : Hp) : Hp:=if fl then F else List.replicate F.length .d
theorem zh0 (fl : Bool) (F : Hp) : (visH fl F).length = F.length:=by unfold visH;cases fl <;> simp
theorem zb3 : ∀ (n b : Nat),blkH (List.replicate n .d) b = .d
 | 0,_=>rfl
 | n + 1,0=>rfl
 | n + 1,b + 1=>zb3 n b
def wOkG : List Wr→Hp→Prop
 | [],_=>True
 | (b,o,xs) :: W,F=>match lookH F b with
  | some cs=>o + xs.length≤cs.length∧xs.all cellB = true∧wOkG W (setH F b (.c (putL cs o xs)))
  | none=>False
theorem zap {b o : Nat} {xs : List T} : ∀ (W V : List Wr) (F : Hp),wOkG (W ++ (b,o,xs) :: V) F→∃ cs,lookH (appW W F) b = some cs∧o + xs.length≤cs.length∧xs.all cellB = true∧appW (W ++ [(b,o,xs)]) F = setH (appW W F) b (.c (putL cs o xs))
 | [],V,F,h=>by
  simp only [List.nil_append,wOkG] at h
  split at h
  ·rename_i cs hc
   exact ⟨cs,hc,h.1,h.2.1,by simp only [List.nil_append,appW,hc]⟩
  ·exact h.elim
 | (b',o',xs') :: W,V,F,h=>by
  simp only [List.cons_append,wOkG] at h
  split at h
  ·rename_i cs hc
   obtain ⟨cs2,k1,k2,k3,k4⟩:=zap W V _ h.2.2
   refine ⟨cs2,?_,k2,k3,?_⟩
   ·simp only [appW,hc];exact k1
   ·simp only [List.cons_append,appW,hc];exact k4
  ·exact h.elim
inductive RunT [Dr] (P : Program) (tab : Tab) (im : List Nat) (ops : Array Oper) : List Oper→Env→Hp→List Stp→List Bool→List (Option Wr)→Env→Hp→Prop
 | nil (E : Env) (F : Hp) : RunT P tab im ops [] E F [] [] [] E F
 | one {o : Oper} {l : List Oper} {E : Env} {F : Hp} {s : Stp} {f : Bool} {r : List Stp} {fs : List Bool} {ws : List (Option Wr)} {E' : Env} {F' : Hp} (h : StpOk P tab im ops o E (visH f F) s)
   (k : RunT P tab im ops l (E.put o.dst s.t) (F ++ newsOf s.nb) r fs ws E' F') : RunT P tab im ops (o :: l) E F (s :: r) (f :: fs) (none :: ws) E' F'
 | sto {o : Oper} {l : List Oper} {E : Env} {F : Hp} {t : Nat} {a x : Operand} {b q : Nat} {tx : T} {i : TyI} {r : List Stp} {fs : List Bool} {ws : List (Option Wr)} {E' : Env} {F' : Hp} (hg : o.guard = none) (hd : o.dst = none) (ho : o.op = .store t a x) (hT : tab t = some i) (ha : E.opd a = some (.ptr b q)) (hx : E.opd x = some tx)
   (hl : (flat tx).length = i.sz) (k : RunT P tab im ops l E F r fs ws E' F') : RunT P tab im ops (o :: l) E F (⟨.v undef,none⟩ :: r) (false :: fs) (some (b,q,flat tx) :: ws) E' F'
theorem zj2 [Dr] {P : Program} {tab : Tab} {im : List Nat} {ops : Array Oper} {l : List Oper} {E : Env} {F : Hp} {r : List Stp} {fs : List Bool} {ws : List (Option Wr)} {E' : Env} {F' : Hp} (h : RunT P tab im ops l E F r fs ws E' F') :
  r.length = l.length∧fs.length = l.length∧ws.length = l.length∧E' = envAt l r E l.length∧F' = hpAt r F l.length∧
   (∀ k o s f w,l[k]? = some o→r[k]? = some s→fs[k]? = some f→ws[k]? = some w→StpS P tab im ops o (envAt l r E k) (visH f (hpAt r F k)) s w):=by
 induction h with
 | nil E F=>exact ⟨rfl,rfl,rfl,rfl,rfl,fun k o s f w h=>by simp at h⟩
 | @one o l E F s f r fs ws E' F' h k ih=>
  obtain ⟨h1,h2,h3,h4,h5,h6⟩:=ih
  refine ⟨by simp [h1],by simp [h2],by simp [h3],h4,h5,fun j o' s' f' w ho hs' hh hw=>?_⟩
  cases j with
  | zero=>simp at ho hs' hh hw;subst ho hs' hh hw;exact h
  | succ j=>exact h6 j o' s' f' w (by simpa using ho) (by simpa using hs') (by simpa using hh) (by simpa using hw)
 | @sto o l E F t a x b q tx i r fs ws E' F' hg hd ho hT ha hx hl k ih=>
  obtain ⟨h1,h2,h3,h4,h5,h6⟩:=ih
  refine ⟨by simp [h1],by simp [h2],by simp [h3],?_,?_,fun j o' s' f' w ho' hs' hh hw=>?_⟩
  ·rw [h4];show _ = envAt l r (E.put o.dst _) l.length;rw [hd];rfl
  ·rw [h5];show _ = hpAt r (F ++ newsOf none) l.length;simp [newsOf]
  ·cases j with
   | zero=>simp at ho' hs' hh hw;subst ho' hs' hh hw;exact ⟨rfl,hg,hd,t,a,x,tx,i,ho,hT,ha,hx,rfl,hl⟩
   | succ j=>
    have:=h6 j o' s' f' w (by simpa using ho') (by simpa using hs') (by simpa using hh) (by simpa using hw)
    have e : envAt (o :: l) (⟨.v undef,none⟩ :: r) E (j + 1) = envAt l r E j:=by show envAt l r (E.put o.dst _) j = _;rw [hd];rfl
    have e2 : hpAt (⟨.v undef,none⟩ :: r) F (j + 1) = hpAt r F j:=by show hpAt r (F ++ newsOf none) j = _;simp [newsOf]
    rw [e,e2];exact this
def lateB (l : List Oper) (fs : List Bool) : Bool:=(List.range l.length).all fun k'=>!stB l[k']? || (List.range fs.length).all fun k=>!(fs.getD k false) || ((masks l []).getD k' 0).testBit k
section
variable {z : Bool} {P : Program} {tab : Tab} {n m kb lb : Nat} {l : List Oper} {E : Env} {H : Hp} {r : List Stp} {fs : List Bool} {ws : List (Option Wr)} {X0 : Nat→Prop} {M0 : Mp} {im : List Nat}
structure RunG [Dr] (P : Program) (tab : Tab) (im : List Nat) (l : List Oper) (m : Nat) (E : Env) (H : Hp) (r : List Stp) (fs : List Bool) (ws : List (Option Wr)) : Prop where
 rl : r.length = (l.take m).length
 hl : fs.length = (l.take m).length
 wl : ws.length = (l.take m).length
 st : ∀ k o s f w,(l.take m)[k]? = some o→r[k]? = some s→fs[k]? = some f→ws[k]? = some w→StpS P tab im l.toArray o (envAt (l.take m) r E k) (visH f (hpAt r H k)) s w
 ok : wOkG (ws.filterMap id) (hpAt r H r.length)
 late : lateB l fs = true
theorem JdS.lookT [Dr] {L : Nat→Prop} {a : Act} {M : Mp} {j : Nat} (hO : OrdB l m) (hF : RunG P tab im l m E H r fs ws) (h : JdS n kb (l.take m) r ws E H X0 j L a M) (hc : Closed l L) {k : Nat} (hk : ¬ L k) {f : Bool} (hkk : fs[k]? = some f) : LookAt M (lookH (visH f (hpAt r H k))):=by
 have hkl : k < (l.take m).length:=by rw [← hF.hl];exact (List.getElem?_eq_some_iff.1 hkk).1
 intro b B O cells hb hcc
 cases f with
 | false=>rw [xl] at hcc;unfold visH at hcc;rw [if_neg (by decide),zb3] at hcc;cases hcc
 | true=>
  have hcc' : lookH (hpAt r H k) b = some cells:=hcc
  refine Sim.look h.sim b B O cells hb ?_;have hd:=h.sim.D_of hb
  rw [xl] at hcc'
  rw [v8]
  unfold lookG
  rw [if_pos hd,u0 _ _ fun w hw e=>?_]
  ·have hlt : b < (hpAt r H k).length:=xi (by rw [hcc'];simp)
   have hkeep:=(w6 (r:=r) (H:=H) k r.length (by have:=hF.rl;omega) (Nat.le_refl _)).2 b hlt
   rw [hkeep];exact hcc'
  ·obtain ⟨i,hi⟩:=List.getElem?_of_mem hw
   have hij : i < j:=by
    have:=(List.getElem?_eq_some_iff.1 hi).1
    rw [List.length_take] at this;omega
   rw [List.getElem?_take,if_pos hij] at hi
   have hlt : i < cntW ws ws.length:=by unfold cntW;rw [List.take_length];exact (List.getElem?_eq_some_iff.1 hi).1
   obtain ⟨k',w',q1,q2,q3⟩:=t7 hlt
   have hL : L k':=(h.cnt k' w' q2).2 (by omega)
   have hk'l : k' < (l.take m).length:=by rw [← hF.wl];exact q1
   have hol : l[k']? = some (l.take m)[k']:=by have:=List.getElem?_eq_getElem hk'l;rw [List.getElem?_take] at this;split at this;exact this;cases this
   have hst:=hF.st k' _ _ _ _ (List.getElem?_eq_getElem hk'l) (List.getElem?_eq_getElem (by rw [hF.rl];exact hk'l)) (List.getElem?_eq_getElem (by rw [hF.hl];exact hk'l)) q2
   obtain ⟨b',q',xs'⟩:=w'
   obtain ⟨-,-,-,t',x',y',tx',i',hoc',-⟩:=hst
   have hlate:=hF.late
   unfold lateB at hlate
   rw [List.all_eq_true] at hlate
   have h1:=hlate k' (List.mem_range.2 (List.getElem?_eq_some_iff.1 hol).1)
   have hsb : stB l[k']? = true:=by rw [hol];generalize (l.take m)[k'] = ok at hoc';simp [stB,hoc']
   rw [hsb] at h1
   simp only [Bool.not_true,Bool.false_or] at h1
   rw [List.all_eq_true] at h1
   have h2:=h1 k (List.mem_range.2 (List.getElem?_eq_some_iff.1 hkk).1)
   have hfk : fs.getD k false = true:=by simp [List.getD,hkk]
   rw [hfk] at h2
   simp only [Bool.not_true,Bool.false_or] at h2
   exact hk (ue hO.back hc k' hL k h2)
theorem JdS.stepT [Dr] (hT : TabOk P tab) (hO : OrdB l m) (hch : chainB l m = true) (hF : RunG P tab im l m E H r fs ws)
  {L : Nat→Prop} {a : Act} {M : Mp} {j : Nat} (h : JdS n kb (l.take m) r ws E H X0 j L a M) (hc : Closed l L) {k : Nat} {o : Oper} (ho : (l.take m)[k]? = some o) (hk : ¬ L k) (hpre : ∀ e∈o.after,Region.binds .any e = true→L e.on) (hd : ∀ d,o.dst = some d→d < n)
  {r0 : Option Nat} {Q : Exit→Act→World→Prop} {K : Act→World→Prop} (hK : ∀ a' M' j',Evo X0 M M'→JdS n kb (l.take m) r ws E H X0 j' (fun i=>L i∨i = k) a' M'→K a' M'.w) : wpOpIn (FW r0) 0 P l.toArray Q k K a M.w:=by
 have hr:=hF.rl
 have hkl : k < (l.take m).length:=(List.getElem?_eq_some_iff.1 ho).1
 have hol : l[k]? = some o:=by rw [List.getElem?_take] at ho;split at ho;exact ho;cases ho
 have hkm : k < m:=by rw [List.length_take] at hkl;omega
 have hs' : r[k]? = some r[k]:=List.getElem?_eq_getElem (by omega)
 obtain ⟨f',hh'⟩ : ∃ x,fs[k]? = some x:=⟨_,List.getElem?_eq_getElem (by rw [hF.hl];omega)⟩
 obtain ⟨w,hw'⟩ : ∃ x,ws[k]? = some x:=⟨_,List.getElem?_eq_getElem (by rw [hF.wl];omega)⟩
 have hstp:=hF.st k o _ _ _ ho hs' hh' hw'
 generalize r[k] = s at hs' hstp
 have hlook:=h.lookT hO hF hc hk hh'
 have hrd:=fun (d : Nat) (t : T)=>h.read hO hr hc ho hk hpre (d:=d) (t:=t)
 have hop : ∀ x∈o.op.operands.toList,∀ t,(envAt (l.take m) r E k).opd x = some t→Rep M t (a.eval x):=by
  intro x hx t ht
  cases x with
  | tmp d=>
   obtain ⟨u,h1,h2⟩:=hrd d t (by simp only [readsOf,Oper.looksAt,List.mem_append,List.mem_filterMap];exact .inl ⟨.tmp d,hx,rfl⟩) ht
   have : a.eval (.tmp d) = u:=by show a.tmps.getD d undef = u;simp [h1]
   rw [this];exact h2
  | const v=>simp only [Env.opd] at ht;injection ht with ht;subst ht;exact qq v
  | func f=>simp only [Env.opd] at ht;injection ht with ht;subst ht;exact ⟨[],[],rfl,rfl,rfl⟩
  | global g=>simp only [Env.opd] at ht;injection ht with ht;subst ht;exact rfl
 unfold wpOpIn
 simp only [List.getElem?_toArray,hol]
 cases w with
 | some w=>
  obtain ⟨b,q,xs⟩:=w
  obtain ⟨rfl,hg,hdn,t,x,y,tx,i,hoc,hti,hx,hy,rfl,hxl⟩:=hstp
  have hw : Region.wanted o (yielded l.toArray a.tmps) = true:=by simp [Region.wanted,hg]
  rw [hw,if_pos rfl]
  have hix:=zhg hw'
  have hij : cntW ws k = j:=by
   have h1 : ¬ cntW ws k < j:=fun hh=>hk ((h.cnt k _ hw').2 hh)
   refine Nat.le_antisymm (Nat.le_of_not_lt fun hh=>?_) (by omega)
   obtain ⟨k',w',q1,q2,q3⟩:=t7 hh
   have hk'l : k' < (l.take m).length:=by rw [← hF.wl];exact (List.getElem?_eq_some_iff.1 q2).1
   have ho' : (l.take m)[k']? = some (l.take m)[k']:=List.getElem?_eq_getElem hk'l
   have hst':=hF.st k' _ _ _ _ ho' (List.getElem?_eq_getElem (by omega)) (List.getElem?_eq_getElem (by rw [hF.hl];omega)) q2
   obtain ⟨b',q',xs'⟩:=w'
   obtain ⟨-,-,-,t',x',y',tx',i',hoc',-⟩:=hst'
   have hol' : l[k']? = some (l.take m)[k']:=by have:=ho';rw [List.getElem?_take] at this;split at this;exact this;cases this
   have hL:=wx hO.back hc hol hpre (zdl hch hkm q1 hol hol' hoc hoc')
   have:=(h.cnt k' _ q2).1 hL
   omega
  rw [hij] at hix
  have hsp : ws.filterMap id = (ws.filterMap id).take j ++ (b,q,flat tx) :: (ws.filterMap id).drop (j + 1):=by
   have h1:=(List.getElem?_eq_some_iff.1 hix)
   rw [← h1.2,← List.drop_eq_getElem_cons h1.1,List.take_append_drop]
  have hok:=hF.ok
  rw [hsp] at hok
  obtain ⟨cs,k1,k2,k3,k4⟩:=zap _ _ _ hok
  have htk : (ws.filterMap id).take (j + 1) = (ws.filterMap id).take j ++ [(b,q,flat tx)]:=by rw [List.take_add_one,hix];rfl
  have hrx:=hop x (by rw [hoc];simp [Op.operands]) _ hx
  have hry:=hop y (by rw [hoc];simp [Op.operands]) _ hy
  have hbb : b < H.length∨made r H L b:=by obtain ⟨B,O,hb,-⟩:=hrx;exact h.sim.D_of hb
  have hbk : lookG r H (appW ((ws.filterMap id).take j) (hpAt r H r.length)) L b = .c cs:=by unfold lookG;rw [if_pos hbb];exact xl.1 k1
  obtain ⟨M',e1,e2,e3⟩:=Sim.stored (P:=P) hT h.sim hti hbk hrx hry hxl k2 k3
  have hnd : ∀ c,o.op≠.defer c:=by rw [hoc];simp
  refine wh hnd ?_;obtain ⟨dst,op,ty,pos,after,guard⟩:=o
  simp only at hoc hdn
  subst hoc hdn
  have hrr : (execOp a.eval ⟨none,.store t x y,ty,pos,after,guard⟩).run P M.w = .ok .skip M'.w:=by simp [execOp,e1]
  rw [hrr]
  refine hK _ _ (j + 1) e2 (h.next hO ho hs' hk hd e2 (e3.congr (fun c=>?_) (fun c=>by rw [xq hs' rfl])) (u:=undef) rfl (fun k2' w2 hw2=>?_) (fun w2 hw2=>?_))
  ·rw [wn hs' rfl,htk,k4]
   unfold lookG updL
   by_cases hcb : c = b
   ·subst hcb;rw [if_pos hbb,if_pos rfl,wr _ _ _ _ (x7 k1),if_pos rfl]
   ·rw [if_neg hcb]
    dsimp only
    by_cases hcd : c < H.length∨made r H L c
    ·rw [if_pos hcd,if_pos hcd,wr _ _ _ _ (x7 k1),if_neg hcb]
    ·rw [if_neg hcd,if_neg hcd]
  ·rw [h.cnt k2' w2 hw2]
   constructor
   ·rintro (q1 | rfl) <;> omega
   ·intro hh
    by_cases h2 : cntW ws k2' < j
    ·exact .inl h2
    ·refine .inr ?_;rcases Nat.lt_trichotomy k2' k with q1 | q1 | q1
     ·have:=rf q1 hw2;omega
     ·exact q1
     ·have:=rf q1 hw';omega
  ·rw [htk] at hw2
   rcases List.mem_append.1 hw2 with q1 | q1
   ·exact (h.mkd w2 q1).imp id se
   ·rw [List.mem_singleton] at q1;subst q1;exact hbb.imp id se
 | none=>
  have hcn : ∀ k' w,ws[k']? = some (some w)→((L k'∨k' = k)↔cntW ws k' < j):=fun k' w hwk=>by
   rw [← h.cnt k' w hwk]
   exact ⟨fun hh=>hh.resolve_right (fun e=>by subst e;rw [hw'] at hwk;injection hwk with hwk;cases hwk),Or.inl⟩
  have hmk : ∀ w∈(ws.filterMap id).take j,w.1 < H.length∨made r H (fun i=>L i∨i = k) w.1:=fun w hw=>(h.mkd w hw).imp id se
  have hgd : ∀ g want d b,o.guard = some (g,want)→(l.toArray[g]?).bind (·.dst) = some d→(envAt (l.take m) r E k).get d = some (.v (.bool b))→yielded l.toArray a.tmps g = some b:=by
   intro g want d b hg hgd hb
   have hgd' : (l[g]?.bind fun x=>x.dst) = some d:=by simpa using hgd
   obtain ⟨u,h1,h2⟩:=hrd d _ (by simp [readsOf,Oper.looksAt,hg];exact .inr hgd') hb
   obtain rfl:=h2
   simp [yielded,hgd',h1]
  rcases hstp with ⟨h1,h2,g,want,d,x,hg,hgdst,hb,hne⟩ | ⟨hg,hst⟩
  ·have hw : Region.wanted o (yielded l.toArray a.tmps) = false:=by
    have hgd' : (l[g]?.bind fun x=>x.dst) = some d:=by simpa using hgdst
    obtain ⟨u,q1,q2⟩:=hrd d _ (by simp [readsOf,Oper.looksAt,hg];exact .inr hgd') hb
    obtain rfl:=q2
    have hy : yielded l.toArray a.tmps g = match u with | .bool b=>some b | _=>none:=by simp only [yielded,List.getElem?_toArray,hgd',Option.bind_some,q1];cases u <;> rfl
    simp only [Region.wanted,hg,hy]
    cases u <;> first | rfl | skip
    rename_i b
    cases b <;> cases want <;> first | rfl | exact absurd rfl hne
   rw [hw]
   refine ⟨fun _ _=>trivial,hK _ M j (Evo.refl _ _) (h.next hO ho hs' hk hd (Evo.refl _ _) (h.sim.congr (fun b=>wn hs' h2 b) fun b=>by rw [xq hs' h2]) (by rw [h1];rfl) hcn hmk)⟩
  ·have hw : Region.wanted o (yielded l.toArray a.tmps) = true:=by
    rcases hg with hg | ⟨g,want,d,hg,hgdst,hb⟩
    ·simp [Region.wanted,hg]
    ·have hy:=hgd g want d want hg hgdst hb
     simp [Region.wanted,hg,hy]
   rw [hw,if_pos rfl]
   have hnd : ∀ c,o.op≠.defer c:=by
    rcases hst with ⟨t,nb,hm,-⟩ | ⟨f,args,ats,g,fs,cs,ts,hoc,-⟩
    ·exact zaa hm
    ·rw [hoc];simp
   refine wh hnd ?_;rcases hst with ⟨t,nb,hm,hst⟩ | ⟨f,args,ats,g,fs,cs,ts,hoc,hf,hts,hcall,hnb⟩
   ·have hmk':=zab (M:=M) (ρ':=a.eval) hT hlook hop hm
    rcases hst with ⟨hst,hnb⟩ | ⟨⟨e,cs⟩,rfl,hst,hnb⟩
    case inr=>
     obtain ⟨u,w',q1,q2,q3,q4⟩:=pc h.sim hmk' (qx hm)
     rw [q1]
     exact hK _ _ j q2 (h.next hO ho hs' hk hd q2 ((h.sim.world q2 q3).congr (fun b=>wn hs' hnb b) fun b=>by rw [xq hs' hnb]) (by rw [hst];exact q4) hcn hmk)
    subst hst
    cases nb with
    | none=>
     obtain ⟨u,h1,h2⟩:=hmk'
     rw [h1]
     exact hK _ M j (Evo.refl _ _) (h.next hO ho hs' hk hd (Evo.refl _ _) (h.sim.congr (fun b=>wn hs' hnb b) fun b=>by rw [xq hs' hnb]) h2 hcn hmk)
    | some p=>
     obtain ⟨e,cs⟩:=p
     simp only [Option.map_some] at hnb
     rw [zh0] at hmk'
     obtain ⟨u,ar,h1,h2,h3⟩:=hmk'
     rw [h1]
     have hid : ¬ (hpAt r H k).length < H.length:=by have:=(w0 (r:=r) (H:=H) (k:=k) (by omega)).1;omega
     have hnd' : ¬ made r H L (hpAt r H k).length:=by
      rintro ⟨j',s',q1,q2,q3,q4⟩;exact hk (zgf q1 q2 hs' (by rw [hnb];simp) q4 ▸ q3)
     have hnd : ¬ ((hpAt r H k).length < H.length∨made r H L (hpAt r H k).length):=fun hh=>hh.elim hid hnd'
     obtain ⟨Ev,S,hsh⟩:=h.sim.new (nx:=(hpAt r H k).length) hnd (w:={ M.w with heap:=M.w.heap.push (.cells ar e) }) rfl rfl ⟨rfl,fun _=>Nat.le_refl _⟩ rfl (fun j _ hj=>by simp at hj) h2
     have hmade : ∀ b,made r H (fun j=>L j∨j = k) b↔made r H L b∨b = (hpAt r H k).length:=fun b=>by
      constructor
      ·rintro ⟨j,s',q1,q2,q3 | q3,q4⟩
       ·exact .inl ⟨j,s',q1,q2,q3,q4⟩
       ·subst q3;exact .inr q4.symm
      ·rintro (⟨j,s',q1,q2,q3,q4⟩ | q)
       ·exact ⟨j,s',q1,q2,.inl q3,q4⟩
       ·exact ⟨k,s,hs',by rw [hnb];simp,.inr rfl,q.symm⟩
     refine hK _ (newM M _ _) j Ev (h.next hO ho hs' hk hd Ev (S.congr (fun b=>?_) (fun b=>?_)) (h3 _ (if_pos rfl) hsh) hcn hmk)
     ·unfold lookG
      by_cases hb : b = (hpAt r H k).length
      ·subst hb
       rw [if_pos (.inr ((hmade _).2 (.inr rfl))),if_pos rfl,u0 _ _ fun w hw e=>?_]
       ·exact (r8 hs' hnb).2
       ·have:=h.mkd w hw
        rw [e] at this
        exact hnd this
      ·rw [if_neg hb]
       by_cases hbD : b < H.length∨made r H L b
       ·rw [if_pos hbD,if_pos (hbD.imp id fun hh=>(hmade b).2 (.inl hh))]
       ·rw [if_neg hbD,if_neg fun hh=>hbD (hh.imp id fun q=>((hmade b).1 q).resolve_right hb)]
     ·rw [hmade,or_assoc]
   ·obtain ⟨dst,op,ty,pos,after,guard⟩:=o
    simp only at hoc hop hd
    subst hoc
    obtain ⟨us,vs,e1,r1,r2⟩:=hop f (by simp [Op.operands,Call.operands]) _ hf
    have r3:=vw (M:=M) (ρ':=a.eval) _ _ (fun x hx t ht=>hop x (by simp [Op.operands,Call.operands];exact .inr (by simpa using hx)) t ht) hts
    have hrr : (execOp a.eval ⟨dst,.call ⟨.value f,args,ats⟩,ty,pos,after,guard⟩).run P M.w = .ok (.enter g (us ++ args.toList.map a.eval ++ vs).toArray) M.w:=by
     simp only [execOp,resolve,Sem.run_bind,e1,Deferred.ofValue,Sem.run_pure,Result.andThen_ok,invoke]
     rw [ve _ _ _ hcall.2.2.1,← v1]
     simp
    rw [hrr]
    refine ⟨fun hh=>(by cases hh),callsIn_wide.2 ((hcall.run X0 M _ h.sim.bnd h.sim.glo (RepL.append (RepL.append r1 r3) r2)).mono ?_)⟩
    rintro e w' ⟨u,rfl,k1,k2,k3⟩;exact hK _ _ j k1 (h.next hO ho hs' hk hd k1 ((h.sim.world k1 k3).congr (fun b=>wn hs' hnb b) fun b=>by rw [xq hs' hnb]) k2 hcn hmk)
theorem JdS.finT [Dr] {L : Nat→Prop} {a : Act} {M : Mp} {j : Nat} (hO : OrdB l m) (hF : RunG P tab im l m E H r fs ws) (h : JdS n kb (l.take m) r ws E H X0 j L a M) (hL : ∀ k,k < (l.take m).length→L k) : St n kb (envAt (l.take m) r E (l.take m).length) (appW (ws.filterMap id) (hpAt r H (l.take m).length)) X0 a M:=by
 have hr:=hF.rl
 have hdis : ∀ (i j : Nat) (oi oj : Oper),(l.take m)[i]? = some oi→(l.take m)[j]? = some oj→i≠j→∀ d,oi.dst = some d→oj.dst≠some d:=fun i j oi oj hi hj hij d hdi=>(hO.pair j oj i oi hj hi hij d hdi).1
 have hmd : ∀ b,made r H L b↔¬ b < H.length∧b < (hpAt r H r.length).length:=fun b=>by
  constructor
  ·rintro ⟨k,s,q1,q2,-,q4⟩;have hk:=(List.getElem?_eq_some_iff.1 q1).1
   obtain ⟨cs,hcs⟩:=Option.ne_none_iff_exists'.1 q2
   have h1:=(r8 (H:=H) q1 hcs).1
   have h2:=(w6 (r:=r) (H:=H) (k + 1) r.length hk (Nat.le_refl _)).1
   have h3:=(w0 (r:=r) (H:=H) (k:=k) (by omega)).1
   omega
  ·rintro ⟨h1,h2⟩;obtain ⟨j,s,q1,q2,q3,q4⟩:=za3 (Nat.le_refl _) h2 h1
   exact ⟨j,s,q2,q3,hL j (by omega),q4⟩
 have htk : (ws.filterMap id).take j = ws.filterMap id:=by
  refine List.take_of_length_le (Nat.le_of_not_lt fun hh=>?_)
  have e : (ws.filterMap id).length = cntW ws ws.length:=by unfold cntW;rw [List.take_length]
  rw [e] at hh
  obtain ⟨k',w,q1,q2,q3⟩:=t7 hh
  have:=(h.cnt k' w q2).1 (hL k' (by rw [← hF.wl];exact q1))
  omega
 refine ⟨fun d t ht=>?_,h.sz,h.df,h.ge,h.sim.congr (fun b=>?_) (fun b=>?_)⟩
 ·obtain ⟨g1,g2⟩:=sg (E:=E) (d:=d) hr (Nat.le_refl _) hdis
  by_cases hw : ∃ j oj,j < (l.take m).length∧(l.take m)[j]? = some oj∧oj.dst = some d
  ·obtain ⟨j,oj,hj,hoj,hdj⟩:=hw
   have hs : r[j]? = some r[j]:=List.getElem?_eq_getElem (by omega)
   rw [g1 j oj _ hj hoj hs hdj] at ht
   injection ht with ht;subst ht
   exact h.slot j oj _ d hoj hs (hL j hj) hdj
  ·rw [g2 fun j oj hj hoj hdj=>hw ⟨j,oj,hj,hoj,hdj⟩] at ht
   exact h.old d t ht fun j oj hoj _ hdj=>hw ⟨j,oj,(List.getElem?_eq_some_iff.1 hoj).1,hoj,hdj⟩
 ·rw [← hr,htk]
  unfold lookG
  by_cases hb : b < H.length∨made r H L b
  ·rw [if_pos hb]
  ·rw [if_neg hb]
   refine Classical.byContradiction fun hne=>hb ?_;have hlt:=xi hne
   rw [rg] at hlt
   by_cases hbH : b < H.length
   ·exact .inl hbH
   ·exact .inr ((hmd b).2 ⟨hbH,hlt⟩)
 ·rw [← hr,rg,hmd]
  have:=(w0 (r:=r) (H:=H) (k:=r.length) (Nat.le_refl _)).1
  omega
theorem zha [Dr] (hT : TabOk P tab) (hO : OrdB l m) (hch : chainB l m = true) (hd : dstB n l = true) (hF : RunG P tab im l m E H r fs ws)
  {r0 : Option Nat} {Q : Exit→Act→World→Prop} (hQ : ∀ a M,Evo X0 M0 M→St n kb (envAt (l.take m) r E (l.take m).length) (appW (ws.filterMap id) (hpAt r H (l.take m).length)) X0 a M→wpListIn (FW r0) 0 P l.toArray Q (l.drop m) a M.w) :
  ∀ (fuel : Nat) (listed : Array Bool) (a : Act) (M : Mp) (j : Nat),leftB l listed≤fuel→listed.size = l.length→Closed l (lsd listed)→(∀ k,m≤k→¬ lsd listed k)→Evo X0 M0 M→JdS n kb (l.take m) r ws E H X0 j (lsd listed) a M→wpAnyIn (FW r0) 0 P .any l.toArray Q fuel listed a M.w:=by
 have hml : (l.take m).length = m:=by rw [List.length_take];have:=hO.le;omega
 intro fuel
 have fin : ∀ (fuel : Nat) (listed : Array Bool) (a : Act) (M : Mp) (j : Nat),leftB l listed≤fuel→listed.size = l.length→(∀ k,m≤k→¬ lsd listed k)→(∀ k,k < m→lsd listed k)→Evo X0 M0 M→JdS n kb (l.take m) r ws E H X0 j (lsd listed) a M→wpAnyIn (FW r0) 0 P .any l.toArray Q fuel listed a M.w:=by
  intro fuel listed a M j hf hsz hno hall hE hJ
  refine qf hO fuel listed m a M.w ?_ hsz (Nat.le_refl _) hO.le (fun k=>⟨fun h=>?_,hall k⟩) (hQ a M hE (hJ.finT hO hF fun k hk=>hall k (by omega)))
  ·have h1 : leftB l listed = l.length - m:=by
    unfold leftB
    have e : List.range l.length = List.range m ++ (List.range (l.length - m)).map (m + ·):=by
     rw [← List.range_add,show m + (l.length - m) = l.length from by have:=hO.le;omega]
    rw [e,List.countP_append]
    have e1 : (List.range m).countP (fun k=>!listed.getD k false) = 0:=by
     rw [List.countP_eq_zero]
     intro k hk
     have:=hall k (List.mem_range.1 hk)
     unfold lsd at this
     simpa using this
    have e2 : ((List.range (l.length - m)).map (m + ·)).countP (fun k=>!listed.getD k false) = l.length - m:=by
     rw [List.countP_eq_length.2]
     ·simp
     ·intro k hk
      rw [List.mem_map] at hk
      obtain ⟨q,-,rfl⟩:=hk
      have:=hno (m + q) (by omega)
      unfold lsd at this
      simpa using this
    omega
   omega
  ·exact Nat.lt_of_not_le fun hk=>hno k hk h
 induction fuel with
 | zero=>
  intro listed a M j hf hsz hc hno hE hJ
  by_cases hall : ∀ k,k < m→lsd listed k
  ·exact fin 0 listed a M j hf hsz hno hall hE hJ
  ·exfalso
   have h0 : leftB l listed = 0:=by omega
   unfold leftB at h0
   rw [List.countP_eq_zero] at h0
   apply hall
   intro k hk
   have:=h0 k (List.mem_range.2 (by have:=hO.le;omega))
   unfold lsd
   simpa using this
 | succ fuel ih=>
  intro listed a M j hf hsz hc hno hE hJ
  by_cases hall : ∀ k,k < m→lsd listed k
  ·exact fin _ listed a M j hf hsz hno hall hE hJ
  ·have hnext : ∃ i o,i < m∧l[i]? = some o∧¬ lsd listed i∧∀ e∈o.after,Region.binds .any e = true→lsd listed e.on:=by
    have hex : ∃ k,k < m∧¬ lsd listed k:=by
     apply Classical.byContradiction
     intro h
     exact hall fun k hk=>Classical.byContradiction fun hn=>h ⟨k,hk,hn⟩
    obtain ⟨i,⟨h1,h2⟩,hmin⟩:=vp hex
    have hile : i < l.length:=by have:=hO.le;omega
    have ho : l[i]? = some l[i]:=List.getElem?_eq_getElem hile
    refine ⟨i,_,h1,ho,h2,fun e he hb=>?_⟩
    have hlt:=tf l 0 i _ hO.back ho e he hb
    exact Classical.byContradiction fun hn=>by have:=hmin e.on ⟨by omega,hn⟩;omega
   refine ⟨fun hr0=>?_,fun i hi=>?_⟩
   ·obtain ⟨i,o,h1,h2,h3,h4⟩:=hnext
    have:=sv hsz h2 h3 h4
    rw [hr0] at this;cases this
   ·obtain ⟨o,ho,hn,hp⟩:=vv hsz hi
    have hil:=(List.getElem?_eq_some_iff.1 ho).1
    have him : i < m:=by
     refine Nat.lt_of_not_le fun hmi=>?_
     apply hall
     intro k hk
     exact wx hO.back hc ho hp (hO.full i hmi hil k (by omega))
    have hop : (l.take m)[i]? = some o:=by rw [List.getElem?_take,if_pos him];exact ho
    have hdo : ∀ d,o.dst = some d→d < n:=fun d hdd=>by
     unfold dstB at hd
     rw [List.all_eq_true] at hd
     have:=hd o (List.mem_of_getElem? ho)
     rw [hdd] at this;simpa using this
    refine JdS.stepT hT hO hch hF hJ hc hop hn hp hdo fun a' M' j' hE' hJ'=>?_
    have hiff : ∀ k,lsd (listed.setIfInBounds i true) k↔lsd listed k∨k = i:=sf (by omega)
    have hfun : lsd (listed.setIfInBounds i true) = fun k=>lsd listed k∨k = i:=funext fun k=>propext (hiff k)
    refine ih _ a' M' j' ?_ (by simpa using hsz) (fun k ok hok hk e he hb=>?_) (fun k hk h=>?_) (hE.trans hE') (by rw [hfun];exact hJ')
    ·have:=s8 hsz hil hn;omega
    ·rw [hiff] at hk ⊢
     rcases hk with hk | rfl
     ·exact .inl (hc k ok hok hk e he hb)
     ·rw [ho] at hok;injection hok with hok;subst hok;exact .inl (hp e he hb)
    ·rcases (hiff k).1 h with h | h
     ·exact hno k hk h
     ·omega
theorem zi6 [Dr] {id : Nat} {QT : Exit → Env → Hp → Prop} (hT : TabOk P tab) (im : List Nat) (m : Nat) (hm : P.follows .mixedOrders = true) (hB : drawB n m l = true) (hch : chainB l m = true)
    (h : ∃ r fs ws E' F', RunT P tab im l.toArray (l.take m) E H r fs ws E' F' ∧ lateB l fs = true ∧ wOkG (ws.filterMap (·)) F' ∧ vcSeq P tab im (l.map (·.dst)) (l.drop m) E' (appW (ws.filterMap (·)) F') (QT .normal)) : VC z P n lb (.region id l.toArray true) QT E H := by
  intro X0 M a r0 kb hz hs
  obtain ⟨hO, hd⟩ := zc5 hB
  obtain ⟨r, fs, ws, E', F', hrun, hlate, hok, hk⟩ := h
  obtain ⟨h1, h2, h3, h4, h5, h6⟩ := zj2 hrun
  have hF : RunG P tab im l m E H r fs ws := ⟨h1, h2, h3, h6, by rw [h1, ← h5]; exact hok, hlate⟩
  refine wpIn_region_any hm ?_
  let M1 : Mp := ⟨M.β, M.X, { M.w with drawn := M.w.drawn + 1 }⟩
  have hE1 : Evo X0 M M1 := ⟨fun _ _ h => h, fun _ _ h => h, fun _ _ _ => rfl, fun _ _ h => h, rfl, ⟨rfl, fun _ => Nat.le_succ _⟩, rfl, Nat.le_refl _⟩
  have hs1 : St n kb E H X0 a M1 := ⟨fun d t ht => by obtain ⟨u, q1, q2⟩ := hs.tm d t ht; exact ⟨u, q1, Rep.stays hE1.stays _ _ q2⟩, hs.sz, hs.df.evo hE1, hs.ge, hs.sim.world hE1 fun _ _ => rfl⟩
  have hno : ∀ k, ¬ lsd (Array.replicate l.toArray.size false) k := fun k hk => by
    unfold lsd at hk
    by_cases hlt : k < l.length
    · simp [hlt] at hk
    · simp [hlt] at hk
  have hmd : ∀ b, ¬ made r H (lsd (Array.replicate l.toArray.size false)) b := fun b ⟨k, s, _, _, hk, _⟩ => hno k hk
  have := zha (r0 := r0) (X0 := X0) (M0 := M) (Q := Lift n kb lb X0 M QT) hT hO hch hd hF (fun a' M' hE' hs' => by
    rw [← h4, ← h5] at hs'
    refine u5 (im := im) hT _ ?_ hs' (fun E2 H2 a2 M2 k1 k2 k3 => ⟨E2, H2, M2, k1, rfl, (hE'.trans k2).toK lb, k3⟩) hk
    unfold dstB at hd ⊢
    rw [List.all_eq_true] at hd ⊢
    exact fun o ho => hd o (List.mem_of_mem_drop ho)) l.toArray.size (Array.replicate l.toArray.size false) a M1 0 (Nat.le_trans List.countP_le_length (by simp)) (by simp) (fun k o _ hk => absurd hk (hno k)) (fun k _ => hno k) hE1
    ⟨hs1.sim.congr (fun b => by
        unfold lookG
        rw [List.take_zero]
        by_cases hb : b < H.length
        · rw [if_pos (.inl hb)]; exact (w0 (Nat.le_refl _)).2 b hb
        · rw [if_neg fun hh => hh.elim hb (hmd b)]
          exact Classical.byContradiction fun hne => hb (xi fun e => hne (by rw [e]))) (fun b => ⟨fun h => h.elim (fun h => h) fun h => absurd h (hmd b), .inl⟩),
     fun k o s d _ _ hk => absurd hk (hno k), fun d t ht _ => hs1.tm d t ht, hs1.sz, hs1.df, hs1.ge, fun k w _ => ⟨fun hk => absurd hk (hno k), fun hh => by omega⟩, fun w hw => by rw [List.take_zero] at hw; cases hw⟩
  exact this
end
def VT [Dr] (P : Program) (tab : Tab) (im : List Nat) (ops : Array Oper) (l : List Oper) (E : Env) (F : Hp) (W : List Wr) (fl : List Bool) (K : Env→Hp→List Bool→Prop) : Prop:=
 ∀ E2,Sub E E2→∃ r fs ws E' F',RunT P tab im ops l E2 F r fs ws E' F'∧wOkG (W ++ ws.filterMap (·)) F'∧∃ E1,Sub E1 E'∧K E1 (appW (W ++ ws.filterMap (·)) F') (fl ++ fs)
section
variable {z : Bool} {P : Program} {tab : Tab} {n lb : Nat} {im : List Nat} {ops : Array Oper} {l : List Oper} {E : Env} {F : Hp} {W : List Wr} {fl : List Bool} {K : Env→Hp→List Bool→Prop}
theorem vi [Dr] (hw : wOkG W F) (h : K E (appW W F) fl) : VT P tab im ops [] E F W fl K:=fun E2 he=>
 ⟨[],[],[],E2,F,.nil _ _,by simpa using hw,E,he,by simpa using h⟩
theorem vg [Dr] {t : Nat} {a x : Operand} {ty : TypeId} {pos : String} {after : Array Edge} {b q : Nat} {tx : T} {i : TyI} (hT : tab t = some i) (ha : E.opd a = some (.ptr b q)) (hx : E.opd x = some tx) (hl : (flat tx).length = i.sz) (k : VT P tab im ops l E F (W ++ [(b,q,flat tx)]) (fl ++ [false]) K) : VT P tab im ops (⟨none,.store t a x,ty,pos,after,none⟩ :: l) E F W fl K:=fun E2 he=>by
 obtain ⟨r,fs,ws,E',F',h1,h2,E1,h3,h4⟩:=k _ he
 refine ⟨⟨.v undef,none⟩ :: r,false :: fs,some (b,q,flat tx) :: ws,E',F',.sto rfl rfl rfl hT (he.opd ha) (he.opd hx) hl h1,?_,E1,h3,?_⟩
 ·simpa using h2
 ·simpa using h4
theorem zib [Dr] {f : Bool} {l1 l2 : List Oper} {E1 : Env} {H1 : Hp} {H0 : Hp} {r1 : List Stp} (h : Run P tab im ops l1 E H0 r1 E1 H1) (hno : H1 = H0) (hf : H0 = visH f F) : ∀ {r : List Stp} {fs : List Bool} {ws : List (Option Wr)} {E' : Env} {F' : Hp},RunT P tab im ops l2 E1 F r fs ws E' F'→
  ∃ r' fs' ws',RunT P tab im ops (l1 ++ l2) E F r' fs' ws' E' F'∧ws'.filterMap (·) = ws.filterMap (·)∧fs' = List.replicate l1.length f ++ fs:=by
 induction h with
 | nil E H=>intro r fs ws E' F' k;exact ⟨r,fs,ws,k,rfl,rfl⟩
 | @cons o l E H s r1 E1 H1 h k ih=>
  intro r fs ws E' F' k2
  obtain ⟨x,hx⟩:=zfw k
  have e : newsOf s.nb = []:=by
   rw [hno,List.append_assoc] at hx
   have:=List.append_cancel_left (show H ++ [] = H ++ (newsOf s.nb ++ x) by rw [List.append_nil];exact hx)
   exact (List.append_eq_nil_iff.1 this.symm).1
  rw [e,List.append_nil] at k ih
  obtain ⟨r',fs',ws',g1,g2,g3⟩:=ih hno hf k2
  refine ⟨s :: r',f :: fs',none :: ws',.one (hf ▸ h) (by rw [e,List.append_nil];exact g1),by simpa using g2,by rw [g3];rfl⟩
theorem xd [Dr] {l1 l2 : List Oper} (f : Bool) (hl : l = l1 ++ l2) (h : VX true P tab im (ops.toList.map (·.dst)) l1 E (visH f F) fun E1 H1=>H1 = visH f F∧VT P tab im ops l2 E1 F W (fl ++ List.replicate l1.length f) K) : VT P tab im ops l E F W fl K:=fun E2 he=>by
 subst hl
 obtain ⟨r1,E1,H1,hr,E3,he3,hh,hv⟩:=v7 (ops:=ops) _ _ _ (h E2 he)
 obtain ⟨r,fs,ws,E',F',k1,k2,E4,k3,k4⟩:=hv _ he3
 obtain ⟨r',fs',ws',g1,g2,g3⟩:=zib (f:=f) hr hh rfl k1
 exact ⟨r',fs',ws',E',F',g1,by rw [g2];exact k2,E4,k3,by rw [g2,g3,← List.append_assoc];exact k4⟩
end
section
variable {z : Bool} {P : Program} {tab : Tab} {n lb : Nat} {E : Env} {H : Hp} {QT : Exit→Env→Hp→Prop}
theorem v6 [Dr] {id : Nat} {l l2 : List Oper} (hT : TabOk P tab) (im : List Nat) (l1 : List Oper) (fl : List Bool) (hl : l = l1 ++ l2) (hm : P.follows .mixedOrders = true) (hB : drawB n l1.length l = true) (hch : chainB l l1.length = true) (hlt : lateB l fl = true) (h : VT P tab im l.toArray l1 E H [] [] fun E H f=>f = fl∧VX false P tab im (l.map (·.dst)) l2 E H (QT .normal)) : VC z P n lb (.region id l.toArray true) QT E H:=by
 have e1 : l.take l1.length = l1:=by rw [hl,List.take_left]
 have e2 : l.drop l1.length = l2:=by rw [hl,List.drop_left]
 obtain ⟨r,fs,ws,E',F',h1,h2,E1,h3,h5,h4⟩:=h E (Sub.refl E)
 have h5' : fs = fl:=by simpa using h5
 refine zb8 (zi6 hT im l1.length hm hB hch ⟨r,fs,ws,E',F',by rw [e1];exact h1,by rw [h5'];exact hlt,by simpa using h2,?_⟩)
 rw [e2]
 have:=h4 E' h3
 simpa using this
theorem v3 [Dr] {id : Nat} {l l2 : List Oper} {c : Code} (hT : TabOk P tab) (im : List Nat) (l1 : List Oper) (fl : List Bool) (hl : l = l1 ++ l2) (hm : P.follows .mixedOrders = true) (hB : drawB n l1.length l = true) (hch : chainB l l1.length = true) (hlt : lateB l fl = true) (h : VT P tab im l.toArray l1 E H [] [] fun E H f=>f = fl∧VX false P tab im (l.map (·.dst)) l2 E H fun E H=>VC z P n lb c QT E H) : VC z P n lb (.seq (.region id l.toArray true) c) QT E H:=zo (v6 hT im l1 fl hl hm hB hch hlt h)
end
end

section
open Go.RowKit
set_option maxRecDepth 10000
set_option maxHeartbeats 1000000
abbrev D32 (n : Int) : T:=.v (.int .u32 n)
def cD : Cd Int:=⟨1,fun n=>[D32 n],fun _=>rfl,fun _=>rfl,fun _=>rfl,by decide⟩
theorem ziy : cD.sz = 1:=rfl
section
variable {q : Bool} {P : Program} {tab : Tab} {im : List Nat} {ds : List (Option Nat)} {l : List Oper} {E : Env} {H : Hp} {K : Env→Hp→Prop} {d : Nat} {ty : TypeId} {pos : String} {after : Array Edge}
/- numbers that are none below zero -/
theorem ym [Dr] {x y : Operand} {t t2 : Nat} {a b : Nat} (hx : E.opd x = some (I64 (a : Int))) (hy : E.opd y = some (I64 (b : Int))) (h : a + b≤4611686018427387904) (k : VX q P tab im ds l ((d,I64 ((a + b : Nat) : Int)) :: E) H K) : VX q P tab im ds (⟨some d,.binOp .add t x y t2,ty,pos,after,none⟩ :: l) E H K:=
 xg hx hy (by omega) (by rw [← Int.natCast_add];exact k)
theorem yo [Dr] {x y : Operand} {t t2 : Nat} {a b : Nat} (hx : E.opd x = some (I64 (a : Int))) (hy : E.opd y = some (I64 (b : Int))) (h : b≤a∧a≤4611686018427387904) (k : VX q P tab im ds l ((d,I64 ((a - b : Nat) : Int)) :: E) H K) : VX q P tab im ds (⟨some d,.binOp .sub t x y t2,ty,pos,after,none⟩ :: l) E H K:=
 pq hx hy (by omega) (by rw [← Int.natCast_sub h.1];exact k)
theorem th [Dr] {x y : Operand} {t t2 : Nat} {a b : Nat} (hx : E.opd x = some (I64 (a : Int))) (hy : E.opd y = some (I64 (b : Int))) (h : a * b≤4611686018427387904) (k : VX q P tab im ds l ((d,I64 ((a * b : Nat) : Int)) :: E) H K) : VX q P tab im ds (⟨some d,.binOp .mul t x y t2,ty,pos,after,none⟩ :: l) E H K:=
 zhp hx hy (by rw [← Int.natCast_mul];omega) (by rw [← Int.natCast_mul];exact k)
theorem wz [Dr] {x y : Operand} {t t2 : Nat} {a b : Nat} (hx : E.opd x = some (I64 (a : Int))) (hy : E.opd y = some (I64 (b : Int))) (h : 0 < b) (h2 : a≤4611686018427387904) (k : VX q P tab im ds l ((d,I64 ((a / b : Nat) : Int)) :: E) H K) : VX q P tab im ds (⟨some d,.binOp .quo t x y t2,ty,pos,after,none⟩ :: l) E H K:=by
 refine za (t:=I64 ((a / b : Nat) : Int)) ?_ k
 have hb : ¬ ((b : Nat) : Int) = 0:=by omega
 have hle : a / b≤a:=Nat.div_le_self _ _
 have e : ((a : Nat) : Int).tdiv ((b : Nat) : Int) = ((a / b : Nat) : Int):=(Int.ofNat_tdiv a b).symm
 generalize a / b = c at *
 simp only [opM,hx,hy,mBin,binInt]
 rw [if_neg hb,if_pos trivial,e,w4 (by omega)]
 rfl
end
def swp (l : List Int) (i j : Nat) : List Int:=(l.set i l[j]!).set j l[i]!
theorem putD {s : List Int} {m : Nat} {v : Int} (h : m < s.length) : putL (encL cD s) (m * 1) [D32 v] = encL cD (s.set m v):=by
 have:=zdi cD s m 0 s[m]! v [D32 v] (getE h) (Nat.le_refl _) rfl
 rw [ziy,Nat.add_zero] at this
 exact this
theorem zjv (l : List Int) (i j : Nat) : (swp l i j).length = l.length:=by unfold swp;simp
theorem wi {l : List Int} {i j : Nat} (hi : i < l.length) (hj : j < l.length) : putL (putL (encL cD l) (i * 1) [D32 l[j]!]) (j * 1) [D32 l[i]!] = encL cD (swp l i j):=by
 rw [putD hi,putD (by simpa using hj)];rfl
theorem zfp (l : List Int) {i j : Nat} (hi : i < l.length) (hj : j < l.length) (a : Int) : (swp l i j).count a = l.count a:=by
 unfold swp
 have h1:=List.count_set (a:=l[j]!) (b:=a) (l:=l) hi
 have h2:=List.count_set (a:=l[i]!) (b:=a) (l:=l.set i l[j]!) (i:=j) (by simpa using hj)
 have e1 : l[i] = l[i]!:=(getElem!_pos l i hi).symm
 have e2 : l[j] = l[j]!:=(getElem!_pos l j hj).symm
 have e3 : (l.set i l[j]!)[j]'(by simpa using hj) = l[j]!:=by
  rw [List.getElem_set]
  split
  ·rfl
  ·exact e2
 have hpos : l[i]! = a→0 < l.count a:=fun h=>by
  rw [← h,List.count_pos_iff,← e1];exact List.getElem_mem hi
 rw [h2,h1,e1,e3]
 clear h1 h2 e1 e2 e3
 generalize l[i]! = x at *
 generalize l[j]! = y at *
 by_cases p : x = a <;> by_cases q : y = a <;> simp [p,q] <;> (try (have:=hpos p;omega))
theorem xx {l : List Int} {i j : Nat} (hi : i < l.length) (hj : j < l.length) : (swp l i j).Perm l:=List.perm_iff_count.2 fun a=>zfp l hi hj a
theorem fitD {m : List Int} {j : Nat} {v : Int} (h : j < m.length) : j * 1 + (flat (D32 v)).length≤(encL cD m).length:=by
 rw [xa,ziy];show j * 1 + 1≤m.length * 1;omega
theorem fitP {m : List Int} {i j : Nat} {v : Int} (hi : i < m.length) (h : j < m.length) : j * 1 + 1≤(putL (encL cD m) (i * 1) (flat (D32 v))).length:=by
 rw [show flat (D32 v) = [D32 v] from rfl,putD hi]
 exact fitD (v:=0) (by simpa using h)
theorem zdc (x : Int) : CallP Tryd.prog 155 [D32 x] (BL false):=by
 refine CallP.intro2 yw yw ?_;refine CallT.intro zc Tryd.func155 rfl (by kernel_rfl) (Nat.le_of_ble_eq_true rfl) ?_;refine ze zc [] rfl ?_;refine za rfl ?_;refine zb ?_;refine ze zc [] rfl ?_;iterate 4 refine za rfl ?_
 refine zb ?_;refine yr ?_;exact ⟨trivial,_,rfl,Cv.eq (by first | rfl | (simp [*];done)) rfl⟩
theorem wq (x y : Int) : CallP Tryd.prog 136 [D32 x,D32 y] (BL (decide (x < y))):=by
 have h1:=zdc x
 have h2:=zdc y
 refine CallP.intro2 yw yw ?_;refine CallT.intro zc Tryd.func136 rfl (by kernel_rfl) (Nat.le_of_ble_eq_true rfl) ?_;refine ze zc [] rfl ?_;refine za rfl ?_;refine zb ?_;refine ze zc [] rfl ?_;refine za rfl ?_;refine z6 rfl rfl rfl (h1) ?_;refine za rfl ?_;refine' zx (d:=11) [_,_,_,_] rfl ?_ rfl ?_
 rotate_left
 ·refine zw rfl rfl (fun hb1_2=>?_) (fun hb1_2=>?_)
  ·have ghb1_2:=hb1_2
   try simp only [zf,Bool.not_true,Bool.not_false] at ghb1_2
   refine za rfl ?_;refine zd rfl rfl hb1_2 ?_;refine z6 rfl rfl rfl (h2) ?_;refine zd rfl rfl hb1_2 ?_;refine za rfl ?_;refine zh rfl (fun _=>rfl) ?_;exact zb ⟨rfl,rfl⟩
  ·refine zl rfl rfl hb1_2 ?_;refine zl rfl rfl hb1_2 ?_;exact zh rfl (fun h=>absurd (h.symm.trans hb1_2) (by decide)) (zb ⟨rfl,rfl⟩)
 refine za rfl ?_;refine' zx (d:=16) [_,_,_,_] rfl ?_ rfl ?_
 rotate_left
 ·refine zw rfl rfl (fun hb1_7=>?_) (fun hb1_7=>?_)
  ·have ghb1_7:=hb1_7
   try simp only [zf,Bool.not_true,Bool.not_false] at ghb1_7
   refine za rfl ?_;refine zd rfl rfl hb1_7 ?_;refine za rfl ?_;refine zd rfl rfl hb1_7 ?_;refine za rfl ?_;refine yz rfl (fun _=>rfl) ?_;exact zb ⟨rfl,rfl⟩
  ·refine zl rfl rfl hb1_7 ?_;refine zl rfl rfl hb1_7 ?_;exact yz rfl (fun h=>absurd (h.symm.trans hb1_7) (by decide)) (zb ⟨rfl,rfl⟩)
 refine za rfl ?_;refine zb ?_;refine yr ?_;exact ⟨trivial,_,rfl,Cv.eq (by first | rfl | (simp [*];done)) rfl⟩
abbrev srtQ (l : List Int) : T→Hp→Prop:=fun t H'=>t = .tup []∧∃ l' : List Int,l'.Perm l∧H' = [.c (encL cD l')]
theorem ins_t (l : List Int) (N a b : Nat) (hN : l.length = N) (hab : a≤b) (hb : b≤N) (hl : N≤1000000) :
  CallT Tryd.prog 130 [.slc 0 0 N 1 none,I64 a,I64 b] [.c (encL cD l)] (srtQ l):=by
 refine CallT.intro zc Tryd.func130 rfl (by kernel_rfl) (Nat.le_of_ble_eq_true rfl) ?_;refine ze zc [] rfl ?_;refine za rfl ?_;refine ym (b:=1) rfl rfl zu ?_;refine za rfl ?_;refine zb ?_;refine yf ?_;refine wa (σ1:=Nat) (σ2:=List Int) (fun i _=>b - i) (fun i m=>a + 1≤i∧(i≤b∨i = a + 1)∧m.Perm l) (fun i _=>[(6,I64 i),(0,.slc 0 0 N 1 none)]) (fun _ m=>[.c (encL cD m)]) [1,2] rfl ((a + 1)) (l) ?_ ?_ ?_
 ·refine ⟨[some 0],rfl,yb,ya,?_,?_⟩ <;> (repeat' first | exact trivial | exact yc | exact yd | exact z9 rfl | refine zn ?_ ?_ | refine zk rfl ?_ ?_ | refine zj ?_ ?_ | refine ye rfl ?_ | fail) <;> first | exact yv | (exact CvL.pure (zg _ _))
 ·exact ⟨by omega,.inr rfl,.refl _⟩
 rintro i m ⟨h1,h2,hp⟩;refine zo ?_;refine ze zc [] rfl ?_;iterate 3 refine za rfl ?_
 refine zb ?_;refine zi rfl (fun hc0=>?_) (fun hc0=>?_)
 ·(try simp only [zf] at hc0);have hib : i < b:=(by omega);have hml:=hp.length_eq
  refine zt ?_;refine zo ?_;refine yf ?_;refine ze zc [] rfl ?_;iterate 2 refine za rfl ?_
  refine zb ?_;refine yf ?_;refine wa (σ1:=Nat) (σ2:=List Int) (fun j _=>j) (fun j m'=>a≤j∧j≤i∧m'.Perm l) (fun j _=>[(7,I64 j),(0,.slc 0 0 N 1 none),(6,I64 i)]) (fun _ m'=>[.c (encL cD m')]) [1,2] rfl (i) (m) ?_ ?_ ?_
  ·refine ⟨[some 0],rfl,yb,ya,?_,?_⟩ <;> (repeat' first | exact trivial | exact yc | exact yd | exact z9 rfl | refine zn ?_ ?_ | refine zk rfl ?_ ?_ | refine zj ?_ ?_ | refine ye rfl ?_ | fail) <;> first | exact yv | (exact CvL.pure (zg _ _))
  ·exact ⟨by omega,by omega,hp⟩
  rintro j m' ⟨k1,k2,kp⟩;refine zo ?_;refine yu zc [] [_,_,_,_,_,_,_,_,_,_,_,_,_,_,_] rfl yj yj ?_;iterate 4 refine za rfl ?_
  refine' zx (d:=30) [_,_,_,_,_,_,_,_,_,_,_] rfl ?_ rfl ?_
  rotate_left
  ·refine zw rfl rfl (fun hb4_3=>?_) (fun hb4_3=>?_)
   ·have ghb4_3:=hb4_3
    try simp only [zf,Bool.not_true,Bool.not_false] at ghb4_3
    have hml':=kp.length_eq;have hja : a < j:=(by omega)
    refine za rfl ?_;refine zd rfl rfl hb4_3 ?_;refine za rfl ?_;refine zd rfl rfl hb4_3 ?_;refine z5 rfl rfl rfl rfl rfl rfl rfl zu ?_;refine zd rfl rfl hb4_3 ?_;refine yh rfl rfl rfl yn ?_;refine zd rfl rfl hb4_3 ?_;refine za rfl ?_;refine zd rfl rfl hb4_3 ?_;refine za rfl ?_;refine zd rfl rfl hb4_3 ?_;refine yo (b:=1) rfl rfl zu ?_;refine zd rfl rfl hb4_3 ?_;refine z5 rfl rfl rfl rfl rfl rfl rfl zu ?_;refine zd rfl rfl hb4_3 ?_;refine yh rfl rfl rfl yn ?_;refine zd rfl rfl hb4_3 ?_;refine z6 rfl rfl rfl (wq _ _) ?_;refine zh rfl (fun _=>rfl) ?_;exact zb ⟨rfl,rfl⟩
   ·refine zl rfl rfl hb4_3 ?_;iterate 8 refine zl rfl rfl hb4_3 ?_
    exact zh rfl (fun h=>absurd (h.symm.trans hb4_3) (by decide)) (zb ⟨rfl,rfl⟩)
  iterate 2 refine zb ?_
  refine zi rfl (fun hc1=>?_) (fun hc1=>?_)
  ·(try simp only [zf] at hc1);have hja : a < j:=(by omega);have hml':=kp.length_eq
   refine zt ?_;refine zo ?_;refine yf ?_;refine v6 zc [] [_,_,_,_,_,_,_,_,_,_,_,_,_,_,_,_] [true,true,false,false,false,true,true,true,true,true,true,true,true,true,true,false] rfl yj yj yj yj ?_;refine xd true (l1:=[_,_]) rfl ?_;iterate 2 refine za rfl ?_
   refine zb ⟨rfl,?_⟩
   refine xd false (l1:=[_,_,_]) rfl ?_;iterate 2 refine za rfl ?_
   refine yo (b:=1) rfl rfl zu ?_;refine zb ⟨rfl,?_⟩
   refine xd true (l1:=[_,_,_,_,_,_,_,_,_,_]) rfl ?_;iterate 2 refine za rfl ?_
   refine yo (b:=1) rfl rfl zu ?_;refine z5 rfl rfl rfl rfl rfl rfl rfl zu ?_;refine yh rfl rfl rfl yn ?_;iterate 2 refine za rfl ?_
   refine z5 rfl rfl rfl rfl rfl rfl rfl zu ?_;refine yh rfl rfl rfl yn ?_;refine z5 rfl rfl rfl rfl rfl rfl rfl zu ?_;refine zb ⟨rfl,?_⟩
   refine vg rfl rfl rfl rfl ?_;refine vi (⟨fitD zu,rfl,trivial⟩) ⟨rfl,?_⟩
   refine z5 rfl rfl rfl rfl rfl rfl rfl zu ?_;refine zp rfl rfl rfl rfl rfl (fitP zu zu) rfl ?_;refine zb ?_;refine z4 zc [] rfl ?_;refine za rfl ?_;refine yo (b:=1) rfl rfl zu ?_;refine za rfl ?_;refine zb ?_;refine ⟨j - 1,swp m' j (j - 1),by (try dsimp only);omega,?_,(by refine ⟨[some 0],rfl,yb,ya,?_,?_⟩ <;> (repeat' first | exact trivial | exact yc | exact yd | exact z9 rfl | refine zn ?_ ?_ | refine zk rfl ?_ ?_ | refine zj ?_ ?_ | refine ye rfl ?_ | fail) <;> first | exact yv | (first | exact Cv.eq (congrArg I64 (by omega)) rfl | exact CvL.eq (wi (by omega) (by omega)) (zg _ _)))⟩
   exact ⟨by omega,by omega,(xx (by omega) (by omega)).trans kp⟩
  ·(try simp only [zf] at hc1)
   refine y7 ?_;refine z4 zc [] rfl ?_;refine za rfl ?_;refine ym (b:=1) rfl rfl zu ?_;refine za rfl ?_;refine zb ?_;refine ⟨i + 1,m',by (try dsimp only);omega,?_,(by refine ⟨[some 0],rfl,yb,ya,?_,?_⟩ <;> (repeat' first | exact trivial | exact yc | exact yd | exact z9 rfl | refine zn ?_ ?_ | refine zk rfl ?_ ?_ | refine zj ?_ ?_ | refine ye rfl ?_ | fail) <;> first | exact yv | (first | exact Cv.slc rfl (.inl rfl) | exact CvL.pure (zg _ _)))⟩
   exact ⟨by omega,by omega,kp⟩
 ·(try simp only [zf] at hc0)
  refine y7 ?_;exact ⟨trivial,_,rfl,rfl,m,hp,rfl⟩
end

section
open Go.RowKit
set_option maxRecDepth 10000
set_option maxHeartbeats 1000000
theorem zjd (l : List Int) (N lo hi first : Nat) (hN : l.length = N) (h : first + hi≤N) (hlo : lo≤N) (hl : N≤1000000) :
  CallT Tryd.prog 150 [.slc 0 0 N 1 none,I64 lo,I64 hi,I64 first] [.c (encL cD l)] (srtQ l):=by
 refine CallT.intro zc Tryd.func150 rfl (by kernel_rfl) (Nat.le_of_ble_eq_true rfl) ?_;refine ze zc [] rfl ?_;iterate 2 refine za rfl ?_
 refine zb ?_;refine yf ?_;refine wa (σ1:=Nat) (σ2:=List Int) (fun r _=>hi - r) (fun r m=>r≤N∧m.Perm l) (fun r _=>[(8,I64 r),(0,.slc 0 0 N 1 none)]) (fun _ m=>[.c (encL cD m)]) [2,3] rfl (lo) (l) ?_ ?_ ?_
 ·refine ⟨[some 0],rfl,yb,ya,?_,?_⟩ <;> (repeat' first | exact trivial | exact yc | exact yd | exact z9 rfl | refine zn ?_ ?_ | refine zk rfl ?_ ?_ | refine zj ?_ ?_ | refine ye rfl ?_ | fail) <;> first | exact yv | (exact CvL.pure (zg _ _))
 ·exact ⟨by omega,.refl _⟩
 rintro r m ⟨h1,hp⟩;refine yf ?_;refine ze zc [] rfl ?_;refine za rfl ?_;refine th (a:=2) rfl rfl zu ?_;refine ym (b:=1) rfl rfl zu ?_;refine za rfl ?_;refine zb ?_;refine zo ?_;refine ze zc [] rfl ?_;iterate 3 refine za rfl ?_
 refine zb ?_;refine zi rfl (fun hc0=>?_) (fun hc0=>?_)
 ·(try simp only [zf] at hc0)
  refine y7 ?_;exact ⟨trivial,_,rfl,rfl,m,hp,rfl⟩
 ·(try simp only [zf] at hc0);have hch : 2 * r + 1 < hi:=(by omega);have hml:=hp.length_eq
  refine zt ?_;refine zo ?_;refine yu zc [] [_,_,_,_,_,_,_,_,_,_,_,_,_,_,_,_,_,_,_,_] rfl yj yj ?_;refine za rfl ?_;refine ym (b:=1) rfl rfl zu ?_;iterate 3 refine za rfl ?_
  refine' zx (d:=36) [_,_,_,_,_,_,_,_,_,_,_,_,_,_,_] rfl ?_ rfl ?_
  rotate_left
  ·refine zw rfl rfl (fun hb3_4=>?_) (fun hb3_4=>?_)
   ·have ghb3_4:=hb3_4
    try simp only [zf,Bool.not_true,Bool.not_false] at ghb3_4
    have hcc : 2 * r + 1 + 1 < hi:=(by omega)
    refine za rfl ?_;refine zd rfl rfl hb3_4 ?_;refine za rfl ?_;refine zd rfl rfl hb3_4 ?_;refine za rfl ?_;refine zd rfl rfl hb3_4 ?_;refine ym rfl rfl zu ?_;refine zd rfl rfl hb3_4 ?_;refine z5 rfl rfl rfl rfl rfl rfl rfl zu ?_;refine zd rfl rfl hb3_4 ?_;refine yh rfl rfl rfl yn ?_;refine zd rfl rfl hb3_4 ?_;refine za rfl ?_;refine zd rfl rfl hb3_4 ?_;refine za rfl ?_;refine zd rfl rfl hb3_4 ?_;refine za rfl ?_;refine zd rfl rfl hb3_4 ?_;refine ym rfl rfl zu ?_;refine zd rfl rfl hb3_4 ?_;refine ym (b:=1) rfl rfl zu ?_;refine zd rfl rfl hb3_4 ?_;refine z5 rfl rfl rfl rfl rfl rfl rfl zu ?_;refine zd rfl rfl hb3_4 ?_;refine yh rfl rfl rfl yn ?_;refine zd rfl rfl hb3_4 ?_;refine z6 rfl rfl rfl (wq _ _) ?_;refine zh rfl (fun _=>rfl) ?_;exact zb ⟨rfl,rfl⟩
   ·refine zl rfl rfl hb3_4 ?_;iterate 12 refine zl rfl rfl hb3_4 ?_
    exact zh rfl (fun h=>absurd (h.symm.trans hb3_4) (by decide)) (zb ⟨rfl,rfl⟩)
  iterate 2 refine zb ?_
  refine zi rfl (fun hc1=>?_) (fun hc1=>?_)
  ·(try simp only [zf] at hc1);have hcc : 2 * r + 1 + 1 < hi:=(by omega)
   refine z4 zc [] rfl ?_;refine za rfl ?_;refine ym (b:=1) rfl rfl zu ?_;refine za rfl ?_;refine zb ?_;refine zo ?_;refine yu zc [] [_,_,_,_,_,_,_,_,_,_,_,_,_,_] rfl yj yj ?_;iterate 3 refine za rfl ?_
   refine ym rfl rfl zu ?_;refine z5 rfl rfl rfl rfl rfl rfl rfl zu ?_;refine yh rfl rfl rfl yn ?_;iterate 3 refine za rfl ?_
   refine ym rfl rfl zu ?_;refine z5 rfl rfl rfl rfl rfl rfl rfl zu ?_;refine yh rfl rfl rfl yn ?_;refine z6 rfl rfl rfl (wq _ _) ?_;refine za rfl ?_;iterate 2 refine zb ?_
   refine zi rfl (fun hc2=>?_) (fun hc2=>?_)
   ·(try simp only [zf] at hc2)
    refine yr ?_;exact ⟨trivial,_,rfl,rfl,m,hp,rfl⟩
   ·(try simp only [zf] at hc2)
    refine zt ?_;refine v3 zc [] [_,_,_,_,_,_,_,_,_,_,_,_,_,_,_,_,_,_,_,_,_,_] [true,true,true,true,false,false,false,false,true,true,true,true,true,true,true,true,true,true,true,true,true,false] rfl yj yj yj yj ?_;refine xd true (l1:=[_,_,_,_]) rfl ?_;iterate 3 refine za rfl ?_
    refine ym rfl rfl zu ?_;refine zb ⟨rfl,?_⟩
    refine xd false (l1:=[_,_,_,_]) rfl ?_;iterate 3 refine za rfl ?_
    refine ym rfl rfl zu ?_;refine zb ⟨rfl,?_⟩
    refine xd true (l1:=[_,_,_,_,_,_,_,_,_,_,_,_,_]) rfl ?_;iterate 3 refine za rfl ?_
    refine ym rfl rfl zu ?_;refine z5 rfl rfl rfl rfl rfl rfl rfl zu ?_;refine yh rfl rfl rfl yn ?_;iterate 3 refine za rfl ?_
    refine ym rfl rfl zu ?_;refine z5 rfl rfl rfl rfl rfl rfl rfl zu ?_;refine yh rfl rfl rfl yn ?_;refine z5 rfl rfl rfl rfl rfl rfl rfl zu ?_;refine zb ⟨rfl,?_⟩
    refine vg rfl rfl rfl rfl ?_;refine vi (⟨fitD zu,rfl,trivial⟩) ⟨rfl,?_⟩
    refine z5 rfl rfl rfl rfl rfl rfl rfl zu ?_;refine zp rfl rfl rfl rfl rfl (fitP zu zu) rfl ?_;refine zb ?_;refine z4 zc [] rfl ?_;iterate 2 refine za rfl ?_
    refine zb ?_;refine ⟨2 * r + 1 + 1,swp m (first + r) (first + (2 * r + 1 + 1)),by (try dsimp only);omega,?_,(by refine ⟨[some 0],rfl,yb,ya,?_,?_⟩ <;> (repeat' first | exact trivial | exact yc | exact yd | exact z9 rfl | refine zn ?_ ?_ | refine zk rfl ?_ ?_ | refine zj ?_ ?_ | refine ye rfl ?_ | fail) <;> first | exact yv | (first | exact Cv.slc rfl (.inl rfl) | exact CvL.eq (wi (by omega) (by omega)) (zg _ _)))⟩
    exact ⟨by omega,(xx (by omega) (by omega)).trans hp⟩
  ·(try simp only [zf] at hc1)
   refine zt ?_;refine zo ?_;refine yu zc [] [_,_,_,_,_,_,_,_,_,_,_,_,_,_] rfl yj yj ?_;iterate 3 refine za rfl ?_
   refine ym rfl rfl zu ?_;refine z5 rfl rfl rfl rfl rfl rfl rfl zu ?_;refine yh rfl rfl rfl yn ?_;iterate 3 refine za rfl ?_
   refine ym rfl rfl zu ?_;refine z5 rfl rfl rfl rfl rfl rfl rfl zu ?_;refine yh rfl rfl rfl yn ?_;refine z6 rfl rfl rfl (wq _ _) ?_;refine za rfl ?_;iterate 2 refine zb ?_
   refine zi rfl (fun hc2=>?_) (fun hc2=>?_)
   ·(try simp only [zf] at hc2)
    refine yr ?_;exact ⟨trivial,_,rfl,rfl,m,hp,rfl⟩
   ·(try simp only [zf] at hc2)
    refine zt ?_;refine v3 zc [] [_,_,_,_,_,_,_,_,_,_,_,_,_,_,_,_,_,_,_,_,_,_] [true,true,true,true,false,false,false,false,true,true,true,true,true,true,true,true,true,true,true,true,true,false] rfl yj yj yj yj ?_;refine xd true (l1:=[_,_,_,_]) rfl ?_;iterate 3 refine za rfl ?_
    refine ym rfl rfl zu ?_;refine zb ⟨rfl,?_⟩
    refine xd false (l1:=[_,_,_,_]) rfl ?_;iterate 3 refine za rfl ?_
    refine ym rfl rfl zu ?_;refine zb ⟨rfl,?_⟩
    refine xd true (l1:=[_,_,_,_,_,_,_,_,_,_,_,_,_]) rfl ?_;iterate 3 refine za rfl ?_
    refine ym rfl rfl zu ?_;refine z5 rfl rfl rfl rfl rfl rfl rfl zu ?_;refine yh rfl rfl rfl yn ?_;iterate 3 refine za rfl ?_
    refine ym rfl rfl zu ?_;refine z5 rfl rfl rfl rfl rfl rfl rfl zu ?_;refine yh rfl rfl rfl yn ?_;refine z5 rfl rfl rfl rfl rfl rfl rfl zu ?_;refine zb ⟨rfl,?_⟩
    refine vg rfl rfl rfl rfl ?_;refine vi (⟨fitD zu,rfl,trivial⟩) ⟨rfl,?_⟩
    refine z5 rfl rfl rfl rfl rfl rfl rfl zu ?_;refine zp rfl rfl rfl rfl rfl (fitP zu zu) rfl ?_;refine zb ?_;refine z4 zc [] rfl ?_;iterate 2 refine za rfl ?_
    refine zb ?_;refine ⟨2 * r + 1,swp m (first + r) (first + (2 * r + 1)),by (try dsimp only);omega,?_,(by refine ⟨[some 0],rfl,yb,ya,?_,?_⟩ <;> (repeat' first | exact trivial | exact yc | exact yd | exact z9 rfl | refine zn ?_ ?_ | refine zk rfl ?_ ?_ | refine zj ?_ ?_ | refine ye rfl ?_ | fail) <;> first | exact yv | (first | exact Cv.slc rfl (.inl rfl) | exact CvL.eq (wi (by omega) (by omega)) (zg _ _)))⟩
    exact ⟨by omega,(xx (by omega) (by omega)).trans hp⟩
theorem heap_t (l : List Int) (N a b : Nat) (hN : l.length = N) (hab : a + 1≤b) (hb : b≤N) (hl : N≤1000000) :
  CallT Tryd.prog 131 [.slc 0 0 N 1 none,I64 a,I64 b] [.c (encL cD l)] (srtQ l):=by
 refine CallT.intro zc Tryd.func131 rfl (by kernel_rfl) (Nat.le_of_ble_eq_true rfl) ?_;refine ze zc [] rfl ?_;iterate 2 refine za rfl ?_
 refine zb ?_;refine ze zc [] rfl ?_;refine za rfl ?_;refine zb ?_;refine ze zc [] rfl ?_;iterate 2 refine za rfl ?_
 refine yo rfl rfl zu ?_;refine za rfl ?_;refine zb ?_;refine zo ?_;refine ze zc [] rfl ?_;refine za rfl ?_;refine yo (b:=1) rfl rfl zu ?_;refine wz (b:=2) rfl rfl zu zu ?_;refine za rfl ?_;refine zb ?_;refine yf ?_;refine wa (σ1:=Nat) (σ2:=List Int) (fun k _=>k) (fun k m=>k≤b - a∧m.Perm l) (fun k _=>[(9,I64 ((k : Int) - 1)),(0,.slc 0 0 N 1 none)]) (fun _ m=>[.c (encL cD m)]) [6,7,8] rfl (((b - a - 1) / 2 + 1)) (l) ?_ ?_ ?_
 ·refine ⟨[some 0],rfl,yb,ya,?_,?_⟩ <;> (repeat' first | exact trivial | exact yc | exact yd | exact z9 rfl | refine zn ?_ ?_ | refine zk rfl ?_ ?_ | refine zj ?_ ?_ | refine ye rfl ?_ | fail) <;> first | exact yv | (first | exact Cv.slc rfl (.inl rfl) | exact CvL.pure (zg _ _) | exact Cv.eq (congrArg I64 (by omega)) rfl)
 ·exact ⟨by omega,.refl _⟩
 rintro k m ⟨h1,hp⟩;refine zo ?_;refine ze zc [] rfl ?_;iterate 2 refine za rfl ?_
 refine zb ?_;refine zi rfl (fun hc0=>?_) (fun hc0=>?_)
 ·(try simp only [zf] at hc0);have hml:=hp.length_eq;obtain ⟨i,rfl⟩ : ∃ i,k = i + 1:=⟨k - 1,by omega⟩;rw [show (((i + 1 : Nat) : Int) - 1) = (i : Int) from by omega]
  refine zt ?_;refine zo ?_;refine yf ?_;refine z4 zc [] rfl ?_;iterate 4 refine za rfl ?_
  refine zq rfl rfl (CallT.frame (zjd m N i (b - a) a zu zu zu hl) [0] rfl z3 z3 ?_)
  rintro _ _ ⟨rfl,m',hp',rfl⟩;refine frK zy zy ?_;refine zb ?_;refine z4 zc [] rfl ?_;refine za rfl ?_;refine pq rfl rfl zu ?_;refine za rfl ?_;refine zb ?_;refine ⟨i,m',by (try dsimp only);omega,?_,(by refine ⟨[some 0],rfl,yb,ya,?_,?_⟩ <;> (repeat' first | exact trivial | exact yc | exact yd | exact z9 rfl | refine zn ?_ ?_ | refine zk rfl ?_ ?_ | refine zj ?_ ?_ | refine ye rfl ?_ | fail) <;> first | exact yv | (first | exact Cv.slc rfl (.inl rfl) | exact CvL.pure (zg _ _) | exact Cv.pure rfl))⟩
  exact ⟨by omega,hp'.trans hp⟩
 ·(try simp only [zf] at hc0)
  refine y7 ?_;refine ze zc [] rfl ?_;refine za rfl ?_;refine yo (b:=1) rfl rfl zu ?_;refine za rfl ?_;refine zb ?_;refine yf ?_;refine wa (σ1:=Nat) (σ2:=List Int) (fun k _=>k) (fun k m=>k≤b - a∧m.Perm l) (fun k _=>[(10,I64 ((k : Int) - 1)),(0,.slc 0 0 N 1 none)]) (fun _ m=>[.c (encL cD m)]) [6,7] rfl ((b - a)) (m) ?_ ?_ ?_
  ·refine ⟨[some 0],rfl,yb,ya,?_,?_⟩ <;> (repeat' first | exact trivial | exact yc | exact yd | exact z9 rfl | refine zn ?_ ?_ | refine zk rfl ?_ ?_ | refine zj ?_ ?_ | refine ye rfl ?_ | fail) <;> first | exact yv | (first | exact Cv.slc rfl (.inl rfl) | exact CvL.pure (zg _ _) | exact Cv.eq (congrArg I64 (by omega)) rfl)
  ·exact ⟨by omega,hp⟩
  rintro k2 m2 ⟨h2,hp2⟩;refine zo ?_;refine ze zc [] rfl ?_;iterate 2 refine za rfl ?_
  refine zb ?_;refine zi rfl (fun hc1=>?_) (fun hc1=>?_)
  ·(try simp only [zf] at hc1);have hml2:=hp2.length_eq;obtain ⟨i,rfl⟩ : ∃ i,k2 = i + 1:=⟨k2 - 1,by omega⟩;rw [show (((i + 1 : Nat) : Int) - 1) = (i : Int) from by omega]
   refine zt ?_;refine zo ?_;refine yf ?_;refine v3 zc [] [_,_,_,_,_,_,_,_,_,_,_,_,_,_,_,_,_,_] [true,true,false,false,false,false,true,true,true,true,true,true,true,true,true,true,true,false] rfl yj yj yj yj ?_;refine xd true (l1:=[_,_]) rfl ?_;iterate 2 refine za rfl ?_
   refine zb ⟨rfl,?_⟩
   refine xd false (l1:=[_,_,_,_]) rfl ?_;iterate 3 refine za rfl ?_
   refine ym rfl rfl zu ?_;refine zb ⟨rfl,?_⟩
   refine xd true (l1:=[_,_,_,_,_,_,_,_,_,_,_]) rfl ?_;iterate 3 refine za rfl ?_
   refine ym rfl rfl zu ?_;refine z5 rfl rfl rfl rfl rfl rfl rfl zu ?_;refine yh rfl rfl rfl yn ?_;iterate 2 refine za rfl ?_
   refine z5 rfl rfl rfl rfl rfl rfl rfl zu ?_;refine yh rfl rfl rfl yn ?_;refine z5 rfl rfl rfl rfl rfl rfl rfl zu ?_;refine zb ⟨rfl,?_⟩
   refine vg rfl rfl rfl rfl ?_;refine vi (⟨fitD zu,rfl,trivial⟩) ⟨rfl,?_⟩
   refine z5 rfl rfl rfl rfl rfl rfl rfl zu ?_;refine zp rfl rfl rfl rfl rfl (fitP zu zu) rfl ?_;refine zb ?_;refine z7 ([(0,.slc 0 0 N 1 none)]) ([.c (encL cD (swp m2 a (a + i)))]) [6,7,10] rfl (by refine ⟨[some 0],rfl,yb,ya,?_,?_⟩ <;> (repeat' first | exact trivial | exact yc | exact yd | exact z9 rfl | refine zn ?_ ?_ | refine zk rfl ?_ ?_ | refine zj ?_ ?_ | refine ye rfl ?_ | fail) <;> first | exact yv | (first | exact Cv.slc rfl (.inl rfl) | exact CvL.eq (wi zu zu) (zg _ _))) ?_
   refine z4 zc [] rfl ?_;iterate 4 refine za rfl ?_
   refine zq rfl rfl (CallT.frame (zjd (swp m2 a (a + i)) N 0 i a (by rw [zjv];omega) zu zu hl) [0] rfl z3 z3 ?_)
   rintro _ _ ⟨rfl,m',hp',rfl⟩;refine frK zy zy ?_;refine zb ?_;refine z4 zc [] rfl ?_;refine za rfl ?_;refine pq rfl rfl zu ?_;refine za rfl ?_;refine zb ?_;refine ⟨i,m',by (try dsimp only);omega,?_,(by refine ⟨[some 0],rfl,yb,ya,?_,?_⟩ <;> (repeat' first | exact trivial | exact yc | exact yd | exact z9 rfl | refine zn ?_ ?_ | refine zk rfl ?_ ?_ | refine zj ?_ ?_ | refine ye rfl ?_ | fail) <;> first | exact yv | (first | exact Cv.slc rfl (.inl rfl) | exact CvL.pure (zg _ _) | exact Cv.pure rfl))⟩
   exact ⟨by omega,hp'.trans ((xx (by omega) (by omega)).trans hp2)⟩
  ·(try simp only [zf] at hc1)
   refine y7 ?_;exact ⟨trivial,_,rfl,rfl,m2,hp2,rfl⟩
theorem rev_t (l : List Int) (N a b : Nat) (hN : l.length = N) (hab : a + 1≤b) (hb : b≤N) (hl : N≤1000000) :
  CallT Tryd.prog 134 [.slc 0 0 N 1 none,I64 a,I64 b] [.c (encL cD l)] (srtQ l):=by
 refine CallT.intro zc Tryd.func134 rfl (by kernel_rfl) (Nat.le_of_ble_eq_true rfl) ?_;refine ze zc [] rfl ?_;iterate 2 refine za rfl ?_
 refine zb ?_;refine ze zc [] rfl ?_;refine za rfl ?_;refine yo (b:=1) rfl rfl zu ?_;refine za rfl ?_;refine zb ?_;refine yf ?_;refine vy (σ1:=Nat) (σ2:=Nat) (σ3:=List Int) (fun i j _=>j + 1 - i) (fun i j m=>i≤N∧j < b∧m.Perm l) (fun i j _=>[(6,I64 i),(7,I64 j),(0,.slc 0 0 N 1 none)]) (fun _ _ m=>[.c (encL cD m)]) [] rfl (a) ((b - 1)) (l) ?_ ?_ ?_
 ·refine ⟨[some 0],rfl,yb,ya,?_,?_⟩ <;> (repeat' first | exact trivial | exact yc | exact yd | exact z9 rfl | refine zn ?_ ?_ | refine zk rfl ?_ ?_ | refine zj ?_ ?_ | refine ye rfl ?_ | fail) <;> first | exact yv | (exact CvL.pure (zg _ _))
 ·exact ⟨by omega,by omega,.refl _⟩
 rintro i j m ⟨h1,h2,hp⟩;refine zo ?_;refine ze zc [] rfl ?_;iterate 3 refine za rfl ?_
 refine zb ?_;refine zi rfl (fun hc0=>?_) (fun hc0=>?_)
 ·(try simp only [zf] at hc0);have hml:=hp.length_eq
  refine zt ?_;refine yf ?_;refine v3 zc [] [_,_,_,_,_,_,_,_,_,_,_,_,_,_] [true,true,false,false,true,true,true,true,true,true,true,true,true,false] rfl yj yj yj yj ?_;refine xd true (l1:=[_,_]) rfl ?_;iterate 2 refine za rfl ?_
  refine zb ⟨rfl,?_⟩
  refine xd false (l1:=[_,_]) rfl ?_;iterate 2 refine za rfl ?_
  refine zb ⟨rfl,?_⟩
  refine xd true (l1:=[_,_,_,_,_,_,_,_,_]) rfl ?_;iterate 2 refine za rfl ?_
  refine z5 rfl rfl rfl rfl rfl rfl rfl zu ?_;refine yh rfl rfl rfl yn ?_;iterate 2 refine za rfl ?_
  refine z5 rfl rfl rfl rfl rfl rfl rfl zu ?_;refine yh rfl rfl rfl yn ?_;refine z5 rfl rfl rfl rfl rfl rfl rfl zu ?_;refine zb ⟨rfl,?_⟩
  refine vg rfl rfl rfl rfl ?_;refine vi (⟨fitD zu,rfl,trivial⟩) ⟨rfl,?_⟩
  refine z5 rfl rfl rfl rfl rfl rfl rfl zu ?_;refine zp rfl rfl rfl rfl rfl (fitP zu zu) rfl ?_;refine zb ?_;refine ze zc [] rfl ?_;refine za rfl ?_;refine ym (b:=1) rfl rfl zu ?_;refine za rfl ?_;refine zb ?_;refine z4 zc [] rfl ?_;refine za rfl ?_;refine yo (b:=1) rfl rfl zu ?_;refine za rfl ?_;refine zb ?_;refine ⟨i + 1,j - 1,swp m i j,by (try dsimp only);omega,?_,(by refine ⟨[some 0],rfl,yb,ya,?_,?_⟩ <;> (repeat' first | exact trivial | exact yc | exact yd | exact z9 rfl | refine zn ?_ ?_ | refine zk rfl ?_ ?_ | refine zj ?_ ?_ | refine ye rfl ?_ | fail) <;> first | exact yv | (first | exact Cv.slc rfl (.inl rfl) | exact CvL.eq (wi (by omega) (by omega)) (zg _ _)))⟩
  exact ⟨by omega,by omega,(xx (by omega) (by omega)).trans hp⟩
 ·(try simp only [zf] at hc0)
  refine y7 ?_;exact ⟨trivial,_,rfl,rfl,m,hp,rfl⟩
end

section
open Go.RowKit
set_option maxRecDepth 10000
set_option maxHeartbeats 2000000
theorem uh (l : List Int) (N a b pv : Nat) (hN : l.length = N) (hab : a + 1≤b) (hb : b≤N) (hpv : a≤pv∧pv < b) (hl : N≤1000000) :
  CallT Tryd.prog 137 [.slc 0 0 N 1 none,I64 a,I64 b,I64 pv] [.c (encL cD l)] (fun t H'=>∃ (p : Nat) (l' : List Int),a + 1≤p∧p≤b∧t = I64 p∧l'.Perm l∧H' = [.c (encL cD l')]):=by
 refine CallT.intro zc Tryd.func137 rfl (by kernel_rfl) (Nat.le_of_ble_eq_true rfl) ?_;refine ze zc [] rfl ?_;refine za rfl ?_;refine zb ?_;refine v3 zc [] [_,_,_,_,_,_,_,_,_,_,_,_,_,_] [true,true,false,false,true,true,true,true,true,true,true,true,true,false] rfl yj yj yj yj ?_;refine xd true (l1:=[_,_]) rfl ?_;iterate 2 refine za rfl ?_
 refine zb ⟨rfl,?_⟩
 refine xd false (l1:=[_,_]) rfl ?_;iterate 2 refine za rfl ?_
 refine zb ⟨rfl,?_⟩
 refine xd true (l1:=[_,_,_,_,_,_,_,_,_]) rfl ?_;iterate 2 refine za rfl ?_
 refine z5 rfl rfl rfl rfl rfl rfl rfl zu ?_;refine yh rfl rfl rfl yn ?_;iterate 2 refine za rfl ?_
 refine z5 rfl rfl rfl rfl rfl rfl rfl zu ?_;refine yh rfl rfl rfl yn ?_;refine z5 rfl rfl rfl rfl rfl rfl rfl zu ?_;refine zb ⟨rfl,?_⟩
 refine vg rfl rfl rfl rfl ?_;refine vi (⟨fitD zu,rfl,trivial⟩) ⟨rfl,?_⟩
 refine z5 rfl rfl rfl rfl rfl rfl rfl zu ?_;refine zp rfl rfl rfl rfl rfl (fitP zu zu) rfl ?_;refine zb ?_;refine z7 ([(0,.slc 0 0 N 1 none)]) ([.c (encL cD (swp l a pv))]) [1,2] rfl (by refine ⟨[some 0],rfl,yb,ya,?_,?_⟩ <;> (repeat' first | exact trivial | exact yc | exact yd | exact z9 rfl | refine zn ?_ ?_ | refine zk rfl ?_ ?_ | refine zj ?_ ?_ | refine ye rfl ?_ | fail) <;> first | exact yv | (first | exact Cv.slc rfl (.inl rfl) | exact CvL.eq (wi zu zu) (zg _ _))) ?_
 refine ze zc [] rfl ?_;refine za rfl ?_;refine ym (b:=1) rfl rfl zu ?_;refine za rfl ?_;refine yo (b:=1) rfl rfl zu ?_;iterate 2 refine za rfl ?_
 refine zb ?_;refine zo ?_;refine yf ?_;refine vy (σ1:=Nat) (σ2:=Nat) (σ3:=List Int) (fun i j _=>j + 2 - i) (fun i j m=>a + 1≤i∧a≤j∧j + 1≤b∧i≤j + 2∧i≤b∧m.Perm l) (fun i j _=>[(9,I64 i),(10,I64 j),(0,.slc 0 0 N 1 none)]) (fun _ _ m=>[.c (encL cD m)]) [1] rfl ((a + 1)) ((b - 1)) ((swp l a pv)) ?_ ?_ ?_
 ·refine ⟨[some 0],rfl,yb,ya,?_,?_⟩ <;> (repeat' first | exact trivial | exact yc | exact yd | exact z9 rfl | refine zn ?_ ?_ | refine zk rfl ?_ ?_ | refine zj ?_ ?_ | refine ye rfl ?_ | fail) <;> first | exact yv | (first | exact CvL.pure (zg _ _))
 ·exact ⟨by omega,by omega,by omega,by omega,by omega,xx (by omega) (by omega)⟩
 rintro i j m ⟨h1,h2,h3,h4,h5,hp⟩;refine yf ?_;refine zo ?_;refine yf ?_;refine xo (σ:=Nat) (fun i2=>j + 2 - i2) (fun i2=>a + 1≤i2∧i≤i2∧i2≤j + 2∧i2≤b) (fun i2=>[(9,I64 i2),(10,I64 j),(0,.slc 0 0 N 1 none)]) (fun _=>[.c (encL cD m)]) [1] rfl (i) ?_ ?_ ?_
 ·refine ⟨[some 0],rfl,yb,ya,?_,?_⟩ <;> (repeat' first | exact trivial | exact yc | exact yd | exact z9 rfl | refine zn ?_ ?_ | refine zk rfl ?_ ?_ | refine zj ?_ ?_ | refine ye rfl ?_ | fail) <;> first | exact yv | (first | exact CvL.pure (zg _ _))
 ·exact ⟨by omega,by omega,by omega,by omega⟩
 rintro i2 ⟨k1,k2,k3,k4⟩;refine zo ?_;refine yu zc [] [_,_,_,_,_,_,_,_,_,_,_,_,_,_,_] rfl yj yj ?_;iterate 4 refine za rfl ?_
 refine' zx (d:=43) [_,_,_,_,_,_,_,_,_,_,_] rfl ?_ rfl ?_
 rotate_left
 ·refine zw rfl rfl (fun hb3_3=>?_) (fun hb3_3=>?_)
  ·have ghb3_3:=hb3_3
   try simp only [zf,Bool.not_true,Bool.not_false] at ghb3_3
   have hml:=hp.length_eq;have hij : i2≤j:=(by omega)
   refine za rfl ?_;refine zd rfl rfl hb3_3 ?_;refine za rfl ?_;refine zd rfl rfl hb3_3 ?_;refine z5 rfl rfl rfl rfl rfl rfl rfl zu ?_;refine zd rfl rfl hb3_3 ?_;refine yh rfl rfl rfl yn ?_;refine zd rfl rfl hb3_3 ?_;refine za rfl ?_;refine zd rfl rfl hb3_3 ?_;refine za rfl ?_;refine zd rfl rfl hb3_3 ?_;refine z5 rfl rfl rfl rfl rfl rfl rfl zu ?_;refine zd rfl rfl hb3_3 ?_;refine yh rfl rfl rfl yn ?_;refine zd rfl rfl hb3_3 ?_;refine z6 rfl rfl rfl (wq _ _) ?_;refine zd rfl rfl hb3_3 ?_;refine za rfl ?_;refine zh rfl (fun _=>rfl) ?_;exact zb ⟨rfl,rfl⟩
  ·refine zl rfl rfl hb3_3 ?_;iterate 8 refine zl rfl rfl hb3_3 ?_
   exact zh rfl (fun h=>absurd (h.symm.trans hb3_3) (by decide)) (zb ⟨rfl,rfl⟩)
 iterate 2 refine zb ?_
 refine zi rfl (fun hc0=>?_) (fun hc0=>?_)
 ·(try simp only [zf] at hc0);have hij : i2≤j:=(by omega)
  refine zt ?_;refine yf ?_;refine z4 zc [] rfl ?_;refine za rfl ?_;refine ym (b:=1) rfl rfl zu ?_;refine za rfl ?_;refine zb ?_;refine ⟨i2 + 1,by (try dsimp only);omega,?_,(by refine ⟨[some 0],rfl,yb,ya,?_,?_⟩ <;> (repeat' first | exact trivial | exact yc | exact yd | exact z9 rfl | refine zn ?_ ?_ | refine zk rfl ?_ ?_ | refine zj ?_ ?_ | refine ye rfl ?_ | fail) <;> first | exact yv | (first | exact Cv.slc rfl (.inl rfl) | exact CvL.pure (zg _ _) | exact Cv.pure rfl))⟩
  exact ⟨by omega,by omega,by omega,by omega⟩
 ·(try simp only [zf] at hc0)
  refine y7 ?_;refine zo ?_;refine yf ?_;refine xo (σ:=Nat) (fun j2=>j2) (fun j2=>a≤j2∧j2≤j∧i2≤j2 + 2) (fun j2=>[(9,I64 i2),(10,I64 j2),(0,.slc 0 0 N 1 none)]) (fun _=>[.c (encL cD m)]) [1] rfl (j) ?_ ?_ ?_
  ·refine ⟨[some 0],rfl,yb,ya,?_,?_⟩ <;> (repeat' first | exact trivial | exact yc | exact yd | exact z9 rfl | refine zn ?_ ?_ | refine zk rfl ?_ ?_ | refine zj ?_ ?_ | refine ye rfl ?_ | fail) <;> first | exact yv | (first | exact CvL.pure (zg _ _))
  ·exact ⟨by omega,by omega,by omega⟩
  rintro j2 ⟨q1,q2,q3⟩;refine zo ?_;refine yu zc [] [_,_,_,_,_,_,_,_,_,_,_,_,_,_] rfl yj yj ?_;iterate 4 refine za rfl ?_
  refine' zx (d:=59) [_,_,_,_,_,_,_,_,_,_] rfl ?_ rfl ?_
  rotate_left
  ·refine zw rfl rfl (fun hb5_3=>?_) (fun hb5_3=>?_)
   ·have ghb5_3:=hb5_3
    try simp only [zf,Bool.not_true,Bool.not_false] at ghb5_3
    have hml:=hp.length_eq;have hij : i2≤j2:=(by omega)
    refine za rfl ?_;refine zd rfl rfl hb5_3 ?_;refine za rfl ?_;refine zd rfl rfl hb5_3 ?_;refine z5 rfl rfl rfl rfl rfl rfl rfl zu ?_;refine zd rfl rfl hb5_3 ?_;refine yh rfl rfl rfl yn ?_;refine zd rfl rfl hb5_3 ?_;refine za rfl ?_;refine zd rfl rfl hb5_3 ?_;refine za rfl ?_;refine zd rfl rfl hb5_3 ?_;refine z5 rfl rfl rfl rfl rfl rfl rfl zu ?_;refine zd rfl rfl hb5_3 ?_;refine yh rfl rfl rfl yn ?_;refine zd rfl rfl hb5_3 ?_;refine z6 rfl rfl rfl (wq _ _) ?_;refine zh rfl (fun _=>rfl) ?_;exact zb ⟨rfl,rfl⟩
   ·refine zl rfl rfl hb5_3 ?_;iterate 7 refine zl rfl rfl hb5_3 ?_
    exact zh rfl (fun h=>absurd (h.symm.trans hb5_3) (by decide)) (zb ⟨rfl,rfl⟩)
  iterate 2 refine zb ?_
  refine zi rfl (fun hc1=>?_) (fun hc1=>?_)
  ·(try simp only [zf] at hc1);have hij : i2≤j2:=(by omega)
   refine zt ?_;refine yf ?_;refine z4 zc [] rfl ?_;refine za rfl ?_;refine yo (b:=1) rfl rfl zu ?_;refine za rfl ?_;refine zb ?_;refine ⟨j2 - 1,by (try dsimp only);omega,?_,(by refine ⟨[some 0],rfl,yb,ya,?_,?_⟩ <;> (repeat' first | exact trivial | exact yc | exact yd | exact z9 rfl | refine zn ?_ ?_ | refine zk rfl ?_ ?_ | refine zj ?_ ?_ | refine ye rfl ?_ | fail) <;> first | exact yv | (first | exact Cv.slc rfl (.inl rfl) | exact CvL.pure (zg _ _) | exact Cv.pure rfl))⟩
   exact ⟨by omega,by omega,by omega⟩
  ·(try simp only [zf] at hc1)
   refine y7 ?_;refine zo ?_;refine ze zc [] rfl ?_;iterate 3 refine za rfl ?_
   refine zb ?_;refine zi rfl (fun hc2=>?_) (fun hc2=>?_)
   ·(try simp only [zf] at hc2)
    refine y7 ?_;refine ze zc [] rfl ?_;iterate 2 refine za rfl ?_
    refine zb ?_;refine yr ?_;exact ⟨trivial,_,rfl,i2,m,by omega,by omega,rfl,hp,rfl⟩
   ·(try simp only [zf] at hc2);have hml:=hp.length_eq;have hij : i2≤j2:=(by omega)
    refine zt ?_;refine v3 zc [] [_,_,_,_,_,_,_,_,_,_,_,_,_,_] [true,true,false,false,true,true,true,true,true,true,true,true,true,false] rfl yj yj yj yj ?_;refine xd true (l1:=[_,_]) rfl ?_;iterate 2 refine za rfl ?_
    refine zb ⟨rfl,?_⟩
    refine xd false (l1:=[_,_]) rfl ?_;iterate 2 refine za rfl ?_
    refine zb ⟨rfl,?_⟩
    refine xd true (l1:=[_,_,_,_,_,_,_,_,_]) rfl ?_;iterate 2 refine za rfl ?_
    refine z5 rfl rfl rfl rfl rfl rfl rfl zu ?_;refine yh rfl rfl rfl yn ?_;iterate 2 refine za rfl ?_
    refine z5 rfl rfl rfl rfl rfl rfl rfl zu ?_;refine yh rfl rfl rfl yn ?_;refine z5 rfl rfl rfl rfl rfl rfl rfl zu ?_;refine zb ⟨rfl,?_⟩
    refine vg rfl rfl rfl rfl ?_;refine vi (⟨fitD zu,rfl,trivial⟩) ⟨rfl,?_⟩
    refine z5 rfl rfl rfl rfl rfl rfl rfl zu ?_;refine zp rfl rfl rfl rfl rfl (fitP zu zu) rfl ?_;refine zb ?_;refine ze zc [] rfl ?_;refine za rfl ?_;refine ym (b:=1) rfl rfl zu ?_;refine za rfl ?_;refine zb ?_;refine z4 zc [] rfl ?_;refine za rfl ?_;refine yo (b:=1) rfl rfl zu ?_;refine za rfl ?_;refine zb ?_;refine ⟨i2 + 1,j2 - 1,swp m i2 j2,by (try dsimp only);omega,?_,(by refine ⟨[some 0],rfl,yb,ya,?_,?_⟩ <;> (repeat' first | exact trivial | exact yc | exact yd | exact z9 rfl | refine zn ?_ ?_ | refine zk rfl ?_ ?_ | refine zj ?_ ?_ | refine ye rfl ?_ | fail) <;> first | exact yv | (first | exact Cv.slc rfl (.inl rfl) | exact CvL.eq (wi (by omega) (by omega)) (zg _ _)))⟩
    exact ⟨by omega,by omega,by omega,by omega,by omega,(xx (by omega) (by omega)).trans hp⟩
theorem r7 (l : List Int) (N a b pv : Nat) (hN : l.length = N) (hab : a + 1≤b) (hb : b≤N) (hpv : a≤pv∧pv < b) (hl : N≤1000000) :
  CallT Tryd.prog 138 [.slc 0 0 N 1 none,I64 a,I64 b,I64 pv] [.c (encL cD l)] (fun t H'=>∃ (p : Nat) (q : Bool) (l' : List Int),a≤p∧p < b∧t = .tup [I64 p,BL q]∧l'.Perm l∧H' = [.c (encL cD l')]):=by
 obtain ⟨m,hm⟩ : ∃ m,m = swp l a pv:=⟨_,rfl⟩
 have hp : m.Perm l:=by rw [hm];exact xx (by omega) (by omega)
 refine CallT.intro zc Tryd.func138 rfl (by kernel_rfl) (Nat.le_of_ble_eq_true rfl) ?_;refine ze zc [] rfl ?_;iterate 2 refine za rfl ?_
 refine zb ?_;refine v3 zc [] [_,_,_,_,_,_,_,_,_,_,_,_,_,_] [true,true,false,false,true,true,true,true,true,true,true,true,true,false] rfl yj yj yj yj ?_;refine xd true (l1:=[_,_]) rfl ?_;iterate 2 refine za rfl ?_
 refine zb ⟨rfl,?_⟩
 refine xd false (l1:=[_,_]) rfl ?_;iterate 2 refine za rfl ?_
 refine zb ⟨rfl,?_⟩
 refine xd true (l1:=[_,_,_,_,_,_,_,_,_]) rfl ?_;iterate 2 refine za rfl ?_
 refine z5 rfl rfl rfl rfl rfl rfl rfl zu ?_;refine yh rfl rfl rfl yn ?_;iterate 2 refine za rfl ?_
 refine z5 rfl rfl rfl rfl rfl rfl rfl zu ?_;refine yh rfl rfl rfl yn ?_;refine z5 rfl rfl rfl rfl rfl rfl rfl zu ?_;refine zb ⟨rfl,?_⟩
 refine vg rfl rfl rfl rfl ?_;refine vi (⟨fitD zu,rfl,trivial⟩) ⟨rfl,?_⟩
 refine z5 rfl rfl rfl rfl rfl rfl rfl zu ?_;refine zp rfl rfl rfl rfl rfl (fitP zu zu) rfl ?_;refine zb ?_;refine z7 ([(0,.slc 0 0 N 1 none)]) ([.c (encL cD m)]) [1,2] rfl (by refine ⟨[some 0],rfl,yb,ya,?_,?_⟩ <;> (repeat' first | exact trivial | exact yc | exact yd | exact z9 rfl | refine zn ?_ ?_ | refine zk rfl ?_ ?_ | refine zj ?_ ?_ | refine ye rfl ?_ | fail) <;> first | exact yv | (first | exact Cv.slc rfl (.inl rfl) | (rw [hm];exact CvL.eq (wi zu zu) (zg _ _)))) ?_
 refine ze zc [] rfl ?_;refine za rfl ?_;refine ym (b:=1) rfl rfl zu ?_;refine za rfl ?_;refine yo (b:=1) rfl rfl zu ?_;iterate 2 refine za rfl ?_
 refine zb ?_;refine zo ?_;refine yf ?_;refine xo (σ:=Nat) (fun i2=>b - i2) (fun i2=>a + 1≤i2∧i2≤b) (fun i2=>[(10,I64 i2),(0,.slc 0 0 N 1 none)]) (fun _=>[.c (encL cD m)]) [1,11] rfl ((a + 1)) ?_ ?_ ?_
 ·refine ⟨[some 0],rfl,yb,ya,?_,?_⟩ <;> (repeat' first | exact trivial | exact yc | exact yd | exact z9 rfl | refine zn ?_ ?_ | refine zk rfl ?_ ?_ | refine zj ?_ ?_ | refine ye rfl ?_ | fail) <;> first | exact yv | (first | exact CvL.pure (zg _ _))
 ·exact ⟨by omega,by omega⟩
 rintro i2 ⟨k1,k4⟩;refine zo ?_;refine yu zc [] [_,_,_,_,_,_,_,_,_,_,_,_,_,_] rfl yj yj ?_;iterate 4 refine za rfl ?_
 refine' zx (d:=43) [_,_,_,_,_,_,_,_,_,_] rfl ?_ rfl ?_
 rotate_left
 ·refine zw rfl rfl (fun hb3_3=>?_) (fun hb3_3=>?_)
  ·have ghb3_3:=hb3_3
   try simp only [zf,Bool.not_true,Bool.not_false] at ghb3_3
   have hml:=hp.length_eq;have hij : i2≤b - 1:=(by omega)
   refine za rfl ?_;refine zd rfl rfl hb3_3 ?_;refine za rfl ?_;refine zd rfl rfl hb3_3 ?_;refine z5 rfl rfl rfl rfl rfl rfl rfl zu ?_;refine zd rfl rfl hb3_3 ?_;refine yh rfl rfl rfl yn ?_;refine zd rfl rfl hb3_3 ?_;refine za rfl ?_;refine zd rfl rfl hb3_3 ?_;refine za rfl ?_;refine zd rfl rfl hb3_3 ?_;refine z5 rfl rfl rfl rfl rfl rfl rfl zu ?_;refine zd rfl rfl hb3_3 ?_;refine yh rfl rfl rfl yn ?_;refine zd rfl rfl hb3_3 ?_;refine z6 rfl rfl rfl (wq _ _) ?_;refine zh rfl (fun _=>rfl) ?_;exact zb ⟨rfl,rfl⟩
  ·refine zl rfl rfl hb3_3 ?_;iterate 7 refine zl rfl rfl hb3_3 ?_
   exact zh rfl (fun h=>absurd (h.symm.trans hb3_3) (by decide)) (zb ⟨rfl,rfl⟩)
 iterate 2 refine zb ?_
 refine zi rfl (fun hc0=>?_) (fun hc0=>?_)
 ·(try simp only [zf] at hc0);have hij : i2≤b - 1:=(by omega)
  refine zt ?_;refine yf ?_;refine z4 zc [] rfl ?_;refine za rfl ?_;refine ym (b:=1) rfl rfl zu ?_;refine za rfl ?_;refine zb ?_;refine ⟨i2 + 1,by (try dsimp only);omega,?_,(by refine ⟨[some 0],rfl,yb,ya,?_,?_⟩ <;> (repeat' first | exact trivial | exact yc | exact yd | exact z9 rfl | refine zn ?_ ?_ | refine zk rfl ?_ ?_ | refine zj ?_ ?_ | refine ye rfl ?_ | fail) <;> first | exact yv | (first | exact Cv.slc rfl (.inl rfl) | exact CvL.pure (zg _ _) | exact Cv.pure rfl))⟩
  exact ⟨by omega,by omega⟩
 ·(try simp only [zf] at hc0)
  refine y7 ?_;refine zo ?_;refine yf ?_;refine xo (σ:=Nat) (fun j2=>j2) (fun j2=>a≤j2∧j2≤b - 1∧i2≤j2 + 2) (fun j2=>[(10,I64 i2),(11,I64 j2),(0,.slc 0 0 N 1 none)]) (fun _=>[.c (encL cD m)]) [1] rfl ((b - 1)) ?_ ?_ ?_
  ·refine ⟨[some 0],rfl,yb,ya,?_,?_⟩ <;> (repeat' first | exact trivial | exact yc | exact yd | exact z9 rfl | refine zn ?_ ?_ | refine zk rfl ?_ ?_ | refine zj ?_ ?_ | refine ye rfl ?_ | fail) <;> first | exact yv | (first | exact CvL.pure (zg _ _))
  ·exact ⟨by omega,by omega,by omega⟩
  rintro j2 ⟨q1,q2,q3⟩;refine zo ?_;refine yu zc [] [_,_,_,_,_,_,_,_,_,_,_,_,_,_,_] rfl yj yj ?_;iterate 4 refine za rfl ?_
  refine' zx (d:=60) [_,_,_,_,_,_,_,_,_,_,_] rfl ?_ rfl ?_
  rotate_left
  ·refine zw rfl rfl (fun hb5_3=>?_) (fun hb5_3=>?_)
   ·have ghb5_3:=hb5_3
    try simp only [zf,Bool.not_true,Bool.not_false] at ghb5_3
    have hml:=hp.length_eq;have hij : i2≤j2:=(by omega)
    refine za rfl ?_;refine zd rfl rfl hb5_3 ?_;refine za rfl ?_;refine zd rfl rfl hb5_3 ?_;refine z5 rfl rfl rfl rfl rfl rfl rfl zu ?_;refine zd rfl rfl hb5_3 ?_;refine yh rfl rfl rfl yn ?_;refine zd rfl rfl hb5_3 ?_;refine za rfl ?_;refine zd rfl rfl hb5_3 ?_;refine za rfl ?_;refine zd rfl rfl hb5_3 ?_;refine z5 rfl rfl rfl rfl rfl rfl rfl zu ?_;refine zd rfl rfl hb5_3 ?_;refine yh rfl rfl rfl yn ?_;refine zd rfl rfl hb5_3 ?_;refine z6 rfl rfl rfl (wq _ _) ?_;refine zd rfl rfl hb5_3 ?_;refine za rfl ?_;refine zh rfl (fun _=>rfl) ?_;exact zb ⟨rfl,rfl⟩
   ·refine zl rfl rfl hb5_3 ?_;iterate 8 refine zl rfl rfl hb5_3 ?_
    exact zh rfl (fun h=>absurd (h.symm.trans hb5_3) (by decide)) (zb ⟨rfl,rfl⟩)
  iterate 2 refine zb ?_
  refine zi rfl (fun hc1=>?_) (fun hc1=>?_)
  ·(try simp only [zf] at hc1);have hij : i2≤j2:=(by omega)
   refine zt ?_;refine yf ?_;refine z4 zc [] rfl ?_;refine za rfl ?_;refine yo (b:=1) rfl rfl zu ?_;refine za rfl ?_;refine zb ?_;refine ⟨j2 - 1,by (try dsimp only);omega,?_,(by refine ⟨[some 0],rfl,yb,ya,?_,?_⟩ <;> (repeat' first | exact trivial | exact yc | exact yd | exact z9 rfl | refine zn ?_ ?_ | refine zk rfl ?_ ?_ | refine zj ?_ ?_ | refine ye rfl ?_ | fail) <;> first | exact yv | (first | exact Cv.slc rfl (.inl rfl) | exact CvL.pure (zg _ _) | exact Cv.pure rfl))⟩
   exact ⟨by omega,by omega,by omega⟩
  ·(try simp only [zf] at hc1)
   refine y7 ?_;refine zo ?_;refine ze zc [] rfl ?_;iterate 3 refine za rfl ?_
   refine zb ?_;refine zi rfl (fun hc2=>?_) (fun hc2=>?_)
   ·(try simp only [zf] at hc2);have hml:=hp.length_eq
    refine v3 zc [] [_,_,_,_,_,_,_,_,_,_,_,_,_,_] [true,true,false,false,true,true,true,true,true,true,true,true,true,false] rfl yj yj yj yj ?_;refine xd true (l1:=[_,_]) rfl ?_;iterate 2 refine za rfl ?_
    refine zb ⟨rfl,?_⟩
    refine xd false (l1:=[_,_]) rfl ?_;iterate 2 refine za rfl ?_
    refine zb ⟨rfl,?_⟩
    refine xd true (l1:=[_,_,_,_,_,_,_,_,_]) rfl ?_;iterate 2 refine za rfl ?_
    refine z5 rfl rfl rfl rfl rfl rfl rfl zu ?_;refine yh rfl rfl rfl yn ?_;iterate 2 refine za rfl ?_
    refine z5 rfl rfl rfl rfl rfl rfl rfl zu ?_;refine yh rfl rfl rfl yn ?_;refine z5 rfl rfl rfl rfl rfl rfl rfl zu ?_;refine zb ⟨rfl,?_⟩
    refine vg rfl rfl rfl rfl ?_;refine vi (⟨fitD zu,rfl,trivial⟩) ⟨rfl,?_⟩
    refine z5 rfl rfl rfl rfl rfl rfl rfl zu ?_;refine zp rfl rfl rfl rfl rfl (fitP zu zu) rfl ?_;refine zb ?_;refine ze zc [] rfl ?_;iterate 3 refine za rfl ?_
    refine zb ?_;refine yr ?_;exact ⟨trivial,_,rfl,j2,true,swp m j2 a,by omega,by omega,rfl,(xx (by omega) (by omega)).trans hp,congrArg (fun c=>([.c c] : Hp)) (wi (by omega) (by omega))⟩
   ·(try simp only [zf] at hc2);have hml:=hp.length_eq;have hij : i2≤j2:=(by omega)
    refine zt ?_;refine v3 zc [] [_,_,_,_,_,_,_,_,_,_,_,_,_,_] [true,true,false,false,true,true,true,true,true,true,true,true,true,false] rfl yj yj yj yj ?_;refine xd true (l1:=[_,_]) rfl ?_;iterate 2 refine za rfl ?_
    refine zb ⟨rfl,?_⟩
    refine xd false (l1:=[_,_]) rfl ?_;iterate 2 refine za rfl ?_
    refine zb ⟨rfl,?_⟩
    refine xd true (l1:=[_,_,_,_,_,_,_,_,_]) rfl ?_;iterate 2 refine za rfl ?_
    refine z5 rfl rfl rfl rfl rfl rfl rfl zu ?_;refine yh rfl rfl rfl yn ?_;iterate 2 refine za rfl ?_
    refine z5 rfl rfl rfl rfl rfl rfl rfl zu ?_;refine yh rfl rfl rfl yn ?_;refine z5 rfl rfl rfl rfl rfl rfl rfl zu ?_;refine zb ⟨rfl,?_⟩
    refine vg rfl rfl rfl rfl ?_;refine vi (⟨fitD zu,rfl,trivial⟩) ⟨rfl,?_⟩
    refine z5 rfl rfl rfl rfl rfl rfl rfl zu ?_;refine zp rfl rfl rfl rfl rfl (fitP zu zu) rfl ?_;refine zb ?_;refine z7 ([(0,.slc 0 0 N 1 none)]) ([.c (encL cD (swp m i2 j2))]) [1,10,11] rfl (by refine ⟨[some 0],rfl,yb,ya,?_,?_⟩ <;> (repeat' first | exact trivial | exact yc | exact yd | exact z9 rfl | refine zn ?_ ?_ | refine zk rfl ?_ ?_ | refine zj ?_ ?_ | refine ye rfl ?_ | fail) <;> first | exact yv | (first | exact Cv.slc rfl (.inl rfl) | exact CvL.eq (wi zu zu) (zg _ _))) ?_
    refine ze zc [] rfl ?_;refine za rfl ?_;refine ym (b:=1) rfl rfl zu ?_;refine za rfl ?_;refine zb ?_;refine ze zc [] rfl ?_;refine za rfl ?_;refine yo (b:=1) rfl rfl zu ?_;refine za rfl ?_;refine zb ?_;refine zo ?_;refine yf ?_;refine vy (σ1:=Nat) (σ2:=Nat) (σ3:=List Int) (fun i j _=>j + 2 - i) (fun i j m=>a + 1≤i∧a≤j∧j + 1≤b∧i≤j + 2∧i≤b∧m.Perm l) (fun i j _=>[(10,I64 i),(11,I64 j),(0,.slc 0 0 N 1 none)]) (fun _ _ m=>[.c (encL cD m)]) [1] rfl ((i2 + 1)) ((j2 - 1)) ((swp m i2 j2)) ?_ ?_ ?_
    ·refine ⟨[some 0],rfl,yb,ya,?_,?_⟩ <;> (repeat' first | exact trivial | exact yc | exact yd | exact z9 rfl | refine zn ?_ ?_ | refine zk rfl ?_ ?_ | refine zj ?_ ?_ | refine ye rfl ?_ | fail) <;> first | exact yv | (first | exact CvL.pure (zg _ _))
    ·exact ⟨by omega,by omega,by omega,by omega,by omega,(xx (by omega) (by omega)).trans hp⟩
    rintro i j m3 ⟨h1,h2,h3,h4,h5,hp3⟩;refine yf ?_;refine zo ?_;refine yf ?_;refine xo (σ:=Nat) (fun i3=>j + 2 - i3) (fun i3=>a + 1≤i3∧i≤i3∧i3≤j + 2∧i3≤b) (fun i3=>[(10,I64 i3),(11,I64 j),(0,.slc 0 0 N 1 none)]) (fun _=>[.c (encL cD m3)]) [1] rfl (i) ?_ ?_ ?_
    ·refine ⟨[some 0],rfl,yb,ya,?_,?_⟩ <;> (repeat' first | exact trivial | exact yc | exact yd | exact z9 rfl | refine zn ?_ ?_ | refine zk rfl ?_ ?_ | refine zj ?_ ?_ | refine ye rfl ?_ | fail) <;> first | exact yv | (first | exact CvL.pure (zg _ _))
    ·exact ⟨by omega,by omega,by omega,by omega⟩
    rintro i3 ⟨r1,r2,r3,r4⟩;refine zo ?_;refine yu zc [] [_,_,_,_,_,_,_,_,_,_,_,_,_,_] rfl yj yj ?_;iterate 4 refine za rfl ?_
    refine' zx (d:=112) [_,_,_,_,_,_,_,_,_,_] rfl ?_ rfl ?_
    rotate_left
    ·refine zw rfl rfl (fun hb13_3=>?_) (fun hb13_3=>?_)
     ·have ghb13_3:=hb13_3
      try simp only [zf,Bool.not_true,Bool.not_false] at ghb13_3
      have hml3:=hp3.length_eq;have hij : i3≤j:=(by omega)
      refine za rfl ?_;refine zd rfl rfl hb13_3 ?_;refine za rfl ?_;refine zd rfl rfl hb13_3 ?_;refine z5 rfl rfl rfl rfl rfl rfl rfl zu ?_;refine zd rfl rfl hb13_3 ?_;refine yh rfl rfl rfl yn ?_;refine zd rfl rfl hb13_3 ?_;refine za rfl ?_;refine zd rfl rfl hb13_3 ?_;refine za rfl ?_;refine zd rfl rfl hb13_3 ?_;refine z5 rfl rfl rfl rfl rfl rfl rfl zu ?_;refine zd rfl rfl hb13_3 ?_;refine yh rfl rfl rfl yn ?_;refine zd rfl rfl hb13_3 ?_;refine z6 rfl rfl rfl (wq _ _) ?_;refine zh rfl (fun _=>rfl) ?_;exact zb ⟨rfl,rfl⟩
     ·refine zl rfl rfl hb13_3 ?_;iterate 7 refine zl rfl rfl hb13_3 ?_
      exact zh rfl (fun h=>absurd (h.symm.trans hb13_3) (by decide)) (zb ⟨rfl,rfl⟩)
    iterate 2 refine zb ?_
    refine zi rfl (fun hc3=>?_) (fun hc3=>?_)
    ·(try simp only [zf] at hc3);have hij : i3≤j:=(by omega)
     refine zt ?_;refine yf ?_;refine z4 zc [] rfl ?_;refine za rfl ?_;refine ym (b:=1) rfl rfl zu ?_;refine za rfl ?_;refine zb ?_;refine ⟨i3 + 1,by (try dsimp only);omega,?_,(by refine ⟨[some 0],rfl,yb,ya,?_,?_⟩ <;> (repeat' first | exact trivial | exact yc | exact yd | exact z9 rfl | refine zn ?_ ?_ | refine zk rfl ?_ ?_ | refine zj ?_ ?_ | refine ye rfl ?_ | fail) <;> first | exact yv | (first | exact Cv.slc rfl (.inl rfl) | exact CvL.pure (zg _ _) | exact Cv.pure rfl))⟩
     exact ⟨by omega,by omega,by omega,by omega⟩
    ·(try simp only [zf] at hc3)
     refine y7 ?_;refine zo ?_;refine yf ?_;refine xo (σ:=Nat) (fun j3=>j3) (fun j3=>a≤j3∧j3≤j∧i3≤j3 + 2) (fun j3=>[(10,I64 i3),(11,I64 j3),(0,.slc 0 0 N 1 none)]) (fun _=>[.c (encL cD m3)]) [1] rfl (j) ?_ ?_ ?_
     ·refine ⟨[some 0],rfl,yb,ya,?_,?_⟩ <;> (repeat' first | exact trivial | exact yc | exact yd | exact z9 rfl | refine zn ?_ ?_ | refine zk rfl ?_ ?_ | refine zj ?_ ?_ | refine ye rfl ?_ | fail) <;> first | exact yv | (first | exact CvL.pure (zg _ _))
     ·exact ⟨by omega,by omega,by omega⟩
     rintro j3 ⟨s1,s2,s3⟩;refine zo ?_;refine yu zc [] [_,_,_,_,_,_,_,_,_,_,_,_,_,_,_] rfl yj yj ?_;iterate 4 refine za rfl ?_
     refine' zx (d:=129) [_,_,_,_,_,_,_,_,_,_,_] rfl ?_ rfl ?_
     rotate_left
     ·refine zw rfl rfl (fun hb15_3=>?_) (fun hb15_3=>?_)
      ·have ghb15_3:=hb15_3
       try simp only [zf,Bool.not_true,Bool.not_false] at ghb15_3
       have hml3:=hp3.length_eq;have hij : i3≤j3:=(by omega)
       refine za rfl ?_;refine zd rfl rfl hb15_3 ?_;refine za rfl ?_;refine zd rfl rfl hb15_3 ?_;refine z5 rfl rfl rfl rfl rfl rfl rfl zu ?_;refine zd rfl rfl hb15_3 ?_;refine yh rfl rfl rfl yn ?_;refine zd rfl rfl hb15_3 ?_;refine za rfl ?_;refine zd rfl rfl hb15_3 ?_;refine za rfl ?_;refine zd rfl rfl hb15_3 ?_;refine z5 rfl rfl rfl rfl rfl rfl rfl zu ?_;refine zd rfl rfl hb15_3 ?_;refine yh rfl rfl rfl yn ?_;refine zd rfl rfl hb15_3 ?_;refine z6 rfl rfl rfl (wq _ _) ?_;refine zd rfl rfl hb15_3 ?_;refine za rfl ?_;refine zh rfl (fun _=>rfl) ?_;exact zb ⟨rfl,rfl⟩
      ·refine zl rfl rfl hb15_3 ?_;iterate 8 refine zl rfl rfl hb15_3 ?_
       exact zh rfl (fun h=>absurd (h.symm.trans hb15_3) (by decide)) (zb ⟨rfl,rfl⟩)
     iterate 2 refine zb ?_
     refine zi rfl (fun hc4=>?_) (fun hc4=>?_)
     ·(try simp only [zf] at hc4);have hij : i3≤j3:=(by omega)
      refine zt ?_;refine yf ?_;refine z4 zc [] rfl ?_;refine za rfl ?_;refine yo (b:=1) rfl rfl zu ?_;refine za rfl ?_;refine zb ?_;refine ⟨j3 - 1,by (try dsimp only);omega,?_,(by refine ⟨[some 0],rfl,yb,ya,?_,?_⟩ <;> (repeat' first | exact trivial | exact yc | exact yd | exact z9 rfl | refine zn ?_ ?_ | refine zk rfl ?_ ?_ | refine zj ?_ ?_ | refine ye rfl ?_ | fail) <;> first | exact yv | (first | exact Cv.slc rfl (.inl rfl) | exact CvL.pure (zg _ _) | exact Cv.pure rfl))⟩
      exact ⟨by omega,by omega,by omega⟩
     ·(try simp only [zf] at hc4)
      refine y7 ?_;refine zo ?_;refine ze zc [] rfl ?_;iterate 3 refine za rfl ?_
      refine zb ?_;refine zi rfl (fun hc5=>?_) (fun hc5=>?_)
      ·have hml3:=hp3.length_eq
       refine y7 ?_;refine v3 zc [] [_,_,_,_,_,_,_,_,_,_,_,_,_,_] [true,true,false,false,true,true,true,true,true,true,true,true,true,false] rfl yj yj yj yj ?_;refine xd true (l1:=[_,_]) rfl ?_;iterate 2 refine za rfl ?_
       refine zb ⟨rfl,?_⟩
       refine xd false (l1:=[_,_]) rfl ?_;iterate 2 refine za rfl ?_
       refine zb ⟨rfl,?_⟩
       refine xd true (l1:=[_,_,_,_,_,_,_,_,_]) rfl ?_;iterate 2 refine za rfl ?_
       refine z5 rfl rfl rfl rfl rfl rfl rfl zu ?_;refine yh rfl rfl rfl yn ?_;iterate 2 refine za rfl ?_
       refine z5 rfl rfl rfl rfl rfl rfl rfl zu ?_;refine yh rfl rfl rfl yn ?_;refine z5 rfl rfl rfl rfl rfl rfl rfl zu ?_;refine zb ⟨rfl,?_⟩
       refine vg rfl rfl rfl rfl ?_;refine vi (⟨fitD zu,rfl,trivial⟩) ⟨rfl,?_⟩
       refine z5 rfl rfl rfl rfl rfl rfl rfl zu ?_;refine zp rfl rfl rfl rfl rfl (fitP zu zu) rfl ?_;refine zb ?_;refine ze zc [] rfl ?_;iterate 3 refine za rfl ?_
       refine zb ?_;refine yr ?_;exact ⟨trivial,_,rfl,j3,false,swp m3 j3 a,by omega,by omega,rfl,(xx (by omega) (by omega)).trans hp3,congrArg (fun c=>([.c c] : Hp)) (wi (by omega) (by omega))⟩
      ·(try simp only [zf] at hc5);have hml3:=hp3.length_eq;have hij : i3≤j3:=(by omega)
       refine zt ?_;refine v3 zc [] [_,_,_,_,_,_,_,_,_,_,_,_,_,_] [true,true,false,false,true,true,true,true,true,true,true,true,true,false] rfl yj yj yj yj ?_;refine xd true (l1:=[_,_]) rfl ?_;iterate 2 refine za rfl ?_
       refine zb ⟨rfl,?_⟩
       refine xd false (l1:=[_,_]) rfl ?_;iterate 2 refine za rfl ?_
       refine zb ⟨rfl,?_⟩
       refine xd true (l1:=[_,_,_,_,_,_,_,_,_]) rfl ?_;iterate 2 refine za rfl ?_
       refine z5 rfl rfl rfl rfl rfl rfl rfl zu ?_;refine yh rfl rfl rfl yn ?_;iterate 2 refine za rfl ?_
       refine z5 rfl rfl rfl rfl rfl rfl rfl zu ?_;refine yh rfl rfl rfl yn ?_;refine z5 rfl rfl rfl rfl rfl rfl rfl zu ?_;refine zb ⟨rfl,?_⟩
       refine vg rfl rfl rfl rfl ?_;refine vi (⟨fitD zu,rfl,trivial⟩) ⟨rfl,?_⟩
       refine z5 rfl rfl rfl rfl rfl rfl rfl zu ?_;refine zp rfl rfl rfl rfl rfl (fitP zu zu) rfl ?_;refine zb ?_;refine ze zc [] rfl ?_;refine za rfl ?_;refine ym (b:=1) rfl rfl zu ?_;refine za rfl ?_;refine zb ?_;refine z4 zc [] rfl ?_;refine za rfl ?_;refine yo (b:=1) rfl rfl zu ?_;refine za rfl ?_;refine zb ?_;refine ⟨i3 + 1,j3 - 1,swp m3 i3 j3,by (try dsimp only);omega,?_,(by refine ⟨[some 0],rfl,yb,ya,?_,?_⟩ <;> (repeat' first | exact trivial | exact yc | exact yd | exact z9 rfl | refine zn ?_ ?_ | refine zk rfl ?_ ?_ | refine zj ?_ ?_ | refine ye rfl ?_ | fail) <;> first | exact yv | (first | exact Cv.slc rfl (.inl rfl) | exact CvL.eq (wi (by omega) (by omega)) (zg _ _)))⟩
       exact ⟨by omega,by omega,by omega,by omega,by omega,(xx (by omega) (by omega)).trans hp3⟩
end

section
open Go.RowKit
set_option maxRecDepth 10000
set_option maxHeartbeats 4000000
theorem zc2 (l : List Int) (N a b : Nat) (hN : l.length = N) (hab : a + 1≤b) (hb : b≤N) (hl : N≤1000000) :
  CallT Tryd.prog 135 [.slc 0 0 N 1 none,I64 a,I64 b] [.c (encL cD l)] (fun t H'=>∃ (q : Bool) (l' : List Int),t = BL q∧l'.Perm l∧H' = [.c (encL cD l')]):=by
 refine CallT.intro zc Tryd.func135 rfl (by kernel_rfl) (Nat.le_of_ble_eq_true rfl) ?_;refine ze zc [] rfl ?_;refine za rfl ?_;refine zb ?_;refine ze zc [] rfl ?_;refine za rfl ?_;refine ym (b:=1) rfl rfl zu ?_;refine za rfl ?_;refine zb ?_;refine zo ?_;refine ze zc [] rfl ?_;refine za rfl ?_;refine zb ?_;refine yf ?_;refine vy (σ1:=Nat) (σ2:=Nat) (σ3:=List Int) (fun s _ _=>5 - s) (fun s i m=>s≤5∧a + 1≤i∧i≤b∧m.Perm l) (fun s i _=>[(8,I64 s),(7,I64 i),(0,.slc 0 0 N 1 none)]) (fun _ _ m=>[.c (encL cD m)]) [1,2] rfl (0) ((a + 1)) (l) ?_ ?_ ?_
 ·refine ⟨[some 0],rfl,yb,ya,?_,?_⟩ <;> (repeat' first | exact trivial | exact yc | exact yd | exact z9 rfl | refine zn ?_ ?_ | refine zk rfl ?_ ?_ | refine zj ?_ ?_ | refine ye rfl ?_ | fail) <;> first | exact yv | (first | exact CvL.pure (zg _ _))
 ·exact ⟨by omega,by omega,by omega,.refl _⟩
 rintro s i m ⟨h1,h2,h3,hp⟩;refine zo ?_;refine ze zc [] rfl ?_;iterate 2 refine za rfl ?_
 refine zb ?_;refine zi rfl (fun hc0=>?_) (fun hc0=>?_)
 ·(try simp only [zf] at hc0);have hs5 : s < 5:=(by omega)
  refine zt ?_;refine zo ?_;refine yf ?_;refine zo ?_;refine yf ?_;refine xo (σ:=Nat) (fun i2=>b - i2) (fun i2=>i≤i2∧i2≤b) (fun i2=>[(7,I64 i2),(8,I64 s),(0,.slc 0 0 N 1 none)]) (fun _=>[.c (encL cD m)]) [1,2] rfl (i) ?_ ?_ ?_
  ·refine ⟨[some 0],rfl,yb,ya,?_,?_⟩ <;> (repeat' first | exact trivial | exact yc | exact yd | exact z9 rfl | refine zn ?_ ?_ | refine zk rfl ?_ ?_ | refine zj ?_ ?_ | refine ye rfl ?_ | fail) <;> first | exact yv | (first | exact CvL.pure (zg _ _))
  ·exact ⟨by omega,by omega⟩
  rintro i2 ⟨k1,k2⟩;refine zo ?_;refine yu zc [] [_,_,_,_,_,_,_,_,_,_,_,_,_,_,_,_] rfl yj yj ?_;iterate 4 refine za rfl ?_
  refine' zx (d:=32) [_,_,_,_,_,_,_,_,_,_,_,_] rfl ?_ rfl ?_
  rotate_left
  ·refine zw rfl rfl (fun hb5_3=>?_) (fun hb5_3=>?_)
   ·have ghb5_3:=hb5_3
    try simp only [zf,Bool.not_true,Bool.not_false] at ghb5_3
    have hml:=hp.length_eq;have hib : i2 < b:=(by omega)
    refine za rfl ?_;refine zd rfl rfl hb5_3 ?_;refine za rfl ?_;refine zd rfl rfl hb5_3 ?_;refine z5 rfl rfl rfl rfl rfl rfl rfl zu ?_;refine zd rfl rfl hb5_3 ?_;refine yh rfl rfl rfl yn ?_;refine zd rfl rfl hb5_3 ?_;refine za rfl ?_;refine zd rfl rfl hb5_3 ?_;refine za rfl ?_;refine zd rfl rfl hb5_3 ?_;refine yo (b:=1) rfl rfl zu ?_;refine zd rfl rfl hb5_3 ?_;refine z5 rfl rfl rfl rfl rfl rfl rfl zu ?_;refine zd rfl rfl hb5_3 ?_;refine yh rfl rfl rfl yn ?_;refine zd rfl rfl hb5_3 ?_;refine z6 rfl rfl rfl (wq _ _) ?_;refine zd rfl rfl hb5_3 ?_;refine za rfl ?_;refine zh rfl (fun _=>rfl) ?_;exact zb ⟨rfl,rfl⟩
   ·refine zl rfl rfl hb5_3 ?_;iterate 9 refine zl rfl rfl hb5_3 ?_
    exact zh rfl (fun h=>absurd (h.symm.trans hb5_3) (by decide)) (zb ⟨rfl,rfl⟩)
  iterate 2 refine zb ?_
  refine zi rfl (fun hc1=>?_) (fun hc1=>?_)
  ·(try simp only [zf] at hc1);have hib : i2 < b:=(by omega)
   refine zt ?_;refine yf ?_;refine z4 zc [] rfl ?_;refine za rfl ?_;refine ym (b:=1) rfl rfl zu ?_;refine za rfl ?_;refine zb ?_;refine ⟨i2 + 1,by (try dsimp only);omega,?_,(by refine ⟨[some 0],rfl,yb,ya,?_,?_⟩ <;> (repeat' first | exact trivial | exact yc | exact yd | exact z9 rfl | refine zn ?_ ?_ | refine zk rfl ?_ ?_ | refine zj ?_ ?_ | refine ye rfl ?_ | fail) <;> first | exact yv | (first | exact Cv.slc rfl (.inl rfl) | exact CvL.pure (zg _ _) | exact Cv.pure rfl))⟩
   exact ⟨by omega,by omega⟩
  ·(try simp only [zf] at hc1)
   refine y7 ?_;refine zo ?_;refine ze zc [] rfl ?_;iterate 3 refine za rfl ?_
   refine zb ?_;refine zi rfl (fun hc2=>?_) (fun hc2=>?_)
   ·(try simp only [zf] at hc2)
    refine ze zc [] rfl ?_;refine za rfl ?_;refine zb ?_;refine yr ?_;exact ⟨trivial,_,rfl,true,m,rfl,hp,rfl⟩
   ·(try simp only [zf] at hc2);have hib : i2 < b:=(by omega);have hml:=hp.length_eq
    refine zt ?_;refine zo ?_;refine ze zc [] rfl ?_;iterate 2 refine za rfl ?_
    refine yo rfl rfl zu ?_;refine za rfl ?_;refine zb ?_;refine zi rfl (fun hc3=>?_) (fun hc3=>?_)
    ·(try simp only [zf] at hc3)
     refine ze zc [] rfl ?_;refine za rfl ?_;refine zb ?_;refine yr ?_;exact ⟨trivial,_,rfl,false,m,rfl,hp,rfl⟩
    ·(try simp only [zf] at hc3)
     refine zt ?_;refine v3 zc [] [_,_,_,_,_,_,_,_,_,_,_,_,_,_,_,_] [true,true,false,false,false,true,true,true,true,true,true,true,true,true,true,false] rfl yj yj yj yj ?_;refine xd true (l1:=[_,_]) rfl ?_;iterate 2 refine za rfl ?_
     refine zb ⟨rfl,?_⟩
     refine xd false (l1:=[_,_,_]) rfl ?_;iterate 2 refine za rfl ?_
     refine yo (b:=1) rfl rfl zu ?_;refine zb ⟨rfl,?_⟩
     refine xd true (l1:=[_,_,_,_,_,_,_,_,_,_]) rfl ?_;iterate 2 refine za rfl ?_
     refine yo (b:=1) rfl rfl zu ?_;refine z5 rfl rfl rfl rfl rfl rfl rfl zu ?_;refine yh rfl rfl rfl yn ?_;iterate 2 refine za rfl ?_
     refine z5 rfl rfl rfl rfl rfl rfl rfl zu ?_;refine yh rfl rfl rfl yn ?_;refine z5 rfl rfl rfl rfl rfl rfl rfl zu ?_;refine zb ⟨rfl,?_⟩
     refine vg rfl rfl rfl rfl ?_;refine vi (⟨fitD zu,rfl,trivial⟩) ⟨rfl,?_⟩
     refine z5 rfl rfl rfl rfl rfl rfl rfl zu ?_;refine zp rfl rfl rfl rfl rfl (fitP zu zu) rfl ?_;refine zb ?_;obtain ⟨m3,hm3⟩ : ∃ m3,m3 = swp m i2 (i2 - 1):=⟨_,rfl⟩;have hp3 : m3.Perm l:=(by rw [hm3];exact (xx (by omega) (by omega)).trans hp)
     refine z7 ([(0,.slc 0 0 N 1 none)]) ([.c (encL cD m3)]) [1,2,7,8] rfl (by refine ⟨[some 0],rfl,yb,ya,?_,?_⟩ <;> (repeat' first | exact trivial | exact yc | exact yd | exact z9 rfl | refine zn ?_ ?_ | refine zk rfl ?_ ?_ | refine zj ?_ ?_ | refine ye rfl ?_ | fail) <;> first | exact yv | (first | exact Cv.slc rfl (.inl rfl) | (rw [hm3];exact CvL.eq (wi zu zu) (zg _ _)))) ?_
     refine zo ?_;refine ze zc [] rfl ?_;iterate 2 refine za rfl ?_
     refine yo rfl rfl zu ?_;refine za rfl ?_;refine zb ?_;refine zi rfl (fun hc4=>?_) (fun hc4=>?_)
     ·(try simp only [zf] at hc4)
      refine ze zc [] rfl ?_;refine za rfl ?_;refine yo (b:=1) rfl rfl zu ?_;refine za rfl ?_;refine zb ?_;refine yf ?_;refine wa (σ1:=Nat) (σ2:=List Int) (fun j _=>j) (fun j m=>j < b∧m.Perm l) (fun j _=>[(9,I64 j),(7,I64 i2),(8,I64 s),(0,.slc 0 0 N 1 none)]) (fun _ m=>[.c (encL cD m)]) [1,2] rfl ((i2 - 1)) (m3) ?_ ?_ ?_
      ·refine ⟨[some 0],rfl,yb,ya,?_,?_⟩ <;> (repeat' first | exact trivial | exact yc | exact yd | exact z9 rfl | refine zn ?_ ?_ | refine zk rfl ?_ ?_ | refine zj ?_ ?_ | refine ye rfl ?_ | fail) <;> first | exact yv | (first | exact CvL.pure (zg _ _))
      ·exact ⟨by omega,hp3⟩
      rintro j m3 ⟨q1,hp3⟩;refine zo ?_;refine ze zc [] rfl ?_;iterate 2 refine za rfl ?_
      refine zb ?_;refine zi rfl (fun hc5=>?_) (fun hc5=>?_)
      ·(try simp only [zf] at hc5);have hj1 : 1≤j:=(by omega);have hml3:=hp3.length_eq
       refine zt ?_;refine zo ?_;refine yf ?_;refine zo ?_;refine yu zc [] [_,_,_,_,_,_,_,_,_,_,_] rfl yj yj ?_;iterate 2 refine za rfl ?_
       refine z5 rfl rfl rfl rfl rfl rfl rfl zu ?_;refine yh rfl rfl rfl yn ?_;iterate 2 refine za rfl ?_
       refine yo (b:=1) rfl rfl zu ?_;refine z5 rfl rfl rfl rfl rfl rfl rfl zu ?_;refine yh rfl rfl rfl yn ?_;refine z6 rfl rfl rfl (wq _ _) ?_;refine za rfl ?_;iterate 2 refine zb ?_
       refine zi rfl (fun hc6=>?_) (fun hc6=>?_)
       ·(try simp only [zf] at hc6)
        refine y7 ?_;refine ze zc [] rfl ?_;iterate 2 refine za rfl ?_
        refine yo rfl rfl zu ?_;refine za rfl ?_;refine zb ?_;refine zi rfl (fun hc7=>?_) (fun hc7=>?_)
        ·(try simp only [zf] at hc7)
         refine ze zc [] rfl ?_;refine za rfl ?_;refine ym (b:=1) rfl rfl zu ?_;refine za rfl ?_;refine zb ?_;refine yf ?_;refine wa (σ1:=Nat) (σ2:=List Int) (fun j _=>b - j) (fun j m=>1≤j∧m.Perm l) (fun j _=>[(10,I64 j),(7,I64 i2),(8,I64 s),(0,.slc 0 0 N 1 none)]) (fun _ m=>[.c (encL cD m)]) [1,2] rfl ((i2 + 1)) (m3) ?_ ?_ ?_
         ·refine ⟨[some 0],rfl,yb,ya,?_,?_⟩ <;> (repeat' first | exact trivial | exact yc | exact yd | exact z9 rfl | refine zn ?_ ?_ | refine zk rfl ?_ ?_ | refine zj ?_ ?_ | refine ye rfl ?_ | fail) <;> first | exact yv | (first | exact CvL.pure (zg _ _))
         ·exact ⟨by omega,hp3⟩
         rintro j m3 ⟨q1,hp3⟩;refine zo ?_;refine ze zc [] rfl ?_;iterate 3 refine za rfl ?_
         refine zb ?_;refine zi rfl (fun hc8=>?_) (fun hc8=>?_)
         ·(try simp only [zf] at hc8);have hjb : j < b:=(by omega);have hml3:=hp3.length_eq
          refine zt ?_;refine zo ?_;refine yf ?_;refine zo ?_;refine yu zc [] [_,_,_,_,_,_,_,_,_,_,_] rfl yj yj ?_;iterate 2 refine za rfl ?_
          refine z5 rfl rfl rfl rfl rfl rfl rfl zu ?_;refine yh rfl rfl rfl yn ?_;iterate 2 refine za rfl ?_
          refine yo (b:=1) rfl rfl zu ?_;refine z5 rfl rfl rfl rfl rfl rfl rfl zu ?_;refine yh rfl rfl rfl yn ?_;refine z6 rfl rfl rfl (wq _ _) ?_;refine za rfl ?_;iterate 2 refine zb ?_
          refine zi rfl (fun hc9=>?_) (fun hc9=>?_)
          ·(try simp only [zf] at hc9)
           refine y7 ?_;refine z4 zc [] rfl ?_;refine za rfl ?_;refine ym (b:=1) rfl rfl zu ?_;refine za rfl ?_;refine zb ?_;refine ⟨s + 1,i2,m3,by (try dsimp only);omega,?_,(by refine ⟨[some 0],rfl,yb,ya,?_,?_⟩ <;> (repeat' first | exact trivial | exact yc | exact yd | exact z9 rfl | refine zn ?_ ?_ | refine zk rfl ?_ ?_ | refine zj ?_ ?_ | refine ye rfl ?_ | fail) <;> first | exact yv | (first | exact Cv.slc rfl (.inl rfl) | exact CvL.pure (zg _ _) | exact Cv.pure rfl))⟩
           exact ⟨by omega,by omega,by omega,hp3⟩
          ·(try simp only [zf] at hc9)
           refine zt ?_;refine v6 zc [] [_,_,_,_,_,_,_,_,_,_,_,_,_,_,_,_] [true,true,false,false,false,true,true,true,true,true,true,true,true,true,true,false] rfl yj yj yj yj ?_;refine xd true (l1:=[_,_]) rfl ?_;iterate 2 refine za rfl ?_
           refine zb ⟨rfl,?_⟩
           refine xd false (l1:=[_,_,_]) rfl ?_;iterate 2 refine za rfl ?_
           refine yo (b:=1) rfl rfl zu ?_;refine zb ⟨rfl,?_⟩
           refine xd true (l1:=[_,_,_,_,_,_,_,_,_,_]) rfl ?_;iterate 2 refine za rfl ?_
           refine yo (b:=1) rfl rfl zu ?_;refine z5 rfl rfl rfl rfl rfl rfl rfl zu ?_;refine yh rfl rfl rfl yn ?_;iterate 2 refine za rfl ?_
           refine z5 rfl rfl rfl rfl rfl rfl rfl zu ?_;refine yh rfl rfl rfl yn ?_;refine z5 rfl rfl rfl rfl rfl rfl rfl zu ?_;refine zb ⟨rfl,?_⟩
           refine vg rfl rfl rfl rfl ?_;refine vi (⟨fitD zu,rfl,trivial⟩) ⟨rfl,?_⟩
           refine z5 rfl rfl rfl rfl rfl rfl rfl zu ?_;refine zp rfl rfl rfl rfl rfl (fitP zu zu) rfl ?_;refine zb ?_;refine z4 zc [] rfl ?_;refine za rfl ?_;refine ym (b:=1) rfl rfl zu ?_;refine za rfl ?_;refine zb ?_;refine ⟨j + 1,swp m3 j (j - 1),by (try dsimp only);omega,?_,(by refine ⟨[some 0],rfl,yb,ya,?_,?_⟩ <;> (repeat' first | exact trivial | exact yc | exact yd | exact z9 rfl | refine zn ?_ ?_ | refine zk rfl ?_ ?_ | refine zj ?_ ?_ | refine ye rfl ?_ | fail) <;> first | exact yv | (first | exact Cv.slc rfl (.inl rfl) | exact CvL.eq (wi (by omega) (by omega)) (zg _ _)))⟩
           exact ⟨by omega,(xx (by omega) (by omega)).trans hp3⟩
         ·(try simp only [zf] at hc8)
          refine y7 ?_;refine z4 zc [] rfl ?_;refine za rfl ?_;refine ym (b:=1) rfl rfl zu ?_;refine za rfl ?_;refine zb ?_;refine ⟨s + 1,i2,m3,by (try dsimp only);omega,?_,(by refine ⟨[some 0],rfl,yb,ya,?_,?_⟩ <;> (repeat' first | exact trivial | exact yc | exact yd | exact z9 rfl | refine zn ?_ ?_ | refine zk rfl ?_ ?_ | refine zj ?_ ?_ | refine ye rfl ?_ | fail) <;> first | exact yv | (first | exact Cv.slc rfl (.inl rfl) | exact CvL.pure (zg _ _) | exact Cv.pure rfl))⟩
          exact ⟨by omega,by omega,by omega,hp3⟩
        ·(try simp only [zf] at hc7)
         refine zt ?_;refine z4 zc [] rfl ?_;refine za rfl ?_;refine ym (b:=1) rfl rfl zu ?_;refine za rfl ?_;refine zb ?_;refine ⟨s + 1,i2,m3,by (try dsimp only);omega,?_,(by refine ⟨[some 0],rfl,yb,ya,?_,?_⟩ <;> (repeat' first | exact trivial | exact yc | exact yd | exact z9 rfl | refine zn ?_ ?_ | refine zk rfl ?_ ?_ | refine zj ?_ ?_ | refine ye rfl ?_ | fail) <;> first | exact yv | (first | exact Cv.slc rfl (.inl rfl) | exact CvL.pure (zg _ _) | exact Cv.pure rfl))⟩
         exact ⟨by omega,by omega,by omega,hp3⟩
       ·(try simp only [zf] at hc6)
        refine zt ?_;refine v6 zc [] [_,_,_,_,_,_,_,_,_,_,_,_,_,_,_,_] [true,true,false,false,false,true,true,true,true,true,true,true,true,true,true,false] rfl yj yj yj yj ?_;refine xd true (l1:=[_,_]) rfl ?_;iterate 2 refine za rfl ?_
        refine zb ⟨rfl,?_⟩
        refine xd false (l1:=[_,_,_]) rfl ?_;iterate 2 refine za rfl ?_
        refine yo (b:=1) rfl rfl zu ?_;refine zb ⟨rfl,?_⟩
        refine xd true (l1:=[_,_,_,_,_,_,_,_,_,_]) rfl ?_;iterate 2 refine za rfl ?_
        refine yo (b:=1) rfl rfl zu ?_;refine z5 rfl rfl rfl rfl rfl rfl rfl zu ?_;refine yh rfl rfl rfl yn ?_;iterate 2 refine za rfl ?_
        refine z5 rfl rfl rfl rfl rfl rfl rfl zu ?_;refine yh rfl rfl rfl yn ?_;refine z5 rfl rfl rfl rfl rfl rfl rfl zu ?_;refine zb ⟨rfl,?_⟩
        refine vg rfl rfl rfl rfl ?_;refine vi (⟨fitD zu,rfl,trivial⟩) ⟨rfl,?_⟩
        refine z5 rfl rfl rfl rfl rfl rfl rfl zu ?_;refine zp rfl rfl rfl rfl rfl (fitP zu zu) rfl ?_;refine zb ?_;refine z4 zc [] rfl ?_;refine za rfl ?_;refine yo (b:=1) rfl rfl zu ?_;refine za rfl ?_;refine zb ?_;refine ⟨j - 1,swp m3 j (j - 1),by (try dsimp only);omega,?_,(by refine ⟨[some 0],rfl,yb,ya,?_,?_⟩ <;> (repeat' first | exact trivial | exact yc | exact yd | exact z9 rfl | refine zn ?_ ?_ | refine zk rfl ?_ ?_ | refine zj ?_ ?_ | refine ye rfl ?_ | fail) <;> first | exact yv | (first | exact Cv.slc rfl (.inl rfl) | exact CvL.eq (wi (by omega) (by omega)) (zg _ _)))⟩
        exact ⟨by omega,(xx (by omega) (by omega)).trans hp3⟩
      ·(try simp only [zf] at hc5)
       refine y7 ?_;refine ze zc [] rfl ?_;iterate 2 refine za rfl ?_
       refine yo rfl rfl zu ?_;refine za rfl ?_;refine zb ?_;refine zi rfl (fun hc7=>?_) (fun hc7=>?_)
       ·(try simp only [zf] at hc7)
        refine ze zc [] rfl ?_;refine za rfl ?_;refine ym (b:=1) rfl rfl zu ?_;refine za rfl ?_;refine zb ?_;refine yf ?_;refine wa (σ1:=Nat) (σ2:=List Int) (fun j _=>b - j) (fun j m=>1≤j∧m.Perm l) (fun j _=>[(10,I64 j),(7,I64 i2),(8,I64 s),(0,.slc 0 0 N 1 none)]) (fun _ m=>[.c (encL cD m)]) [1,2] rfl ((i2 + 1)) (m3) ?_ ?_ ?_
        ·refine ⟨[some 0],rfl,yb,ya,?_,?_⟩ <;> (repeat' first | exact trivial | exact yc | exact yd | exact z9 rfl | refine zn ?_ ?_ | refine zk rfl ?_ ?_ | refine zj ?_ ?_ | refine ye rfl ?_ | fail) <;> first | exact yv | (first | exact CvL.pure (zg _ _))
        ·exact ⟨by omega,hp3⟩
        rintro j m3 ⟨q1,hp3⟩;refine zo ?_;refine ze zc [] rfl ?_;iterate 3 refine za rfl ?_
        refine zb ?_;refine zi rfl (fun hc8=>?_) (fun hc8=>?_)
        ·(try simp only [zf] at hc8);have hjb : j < b:=(by omega);have hml3:=hp3.length_eq
         refine zt ?_;refine zo ?_;refine yf ?_;refine zo ?_;refine yu zc [] [_,_,_,_,_,_,_,_,_,_,_] rfl yj yj ?_;iterate 2 refine za rfl ?_
         refine z5 rfl rfl rfl rfl rfl rfl rfl zu ?_;refine yh rfl rfl rfl yn ?_;iterate 2 refine za rfl ?_
         refine yo (b:=1) rfl rfl zu ?_;refine z5 rfl rfl rfl rfl rfl rfl rfl zu ?_;refine yh rfl rfl rfl yn ?_;refine z6 rfl rfl rfl (wq _ _) ?_;refine za rfl ?_;iterate 2 refine zb ?_
         refine zi rfl (fun hc9=>?_) (fun hc9=>?_)
         ·(try simp only [zf] at hc9)
          refine y7 ?_;refine z4 zc [] rfl ?_;refine za rfl ?_;refine ym (b:=1) rfl rfl zu ?_;refine za rfl ?_;refine zb ?_;refine ⟨s + 1,i2,m3,by (try dsimp only);omega,?_,(by refine ⟨[some 0],rfl,yb,ya,?_,?_⟩ <;> (repeat' first | exact trivial | exact yc | exact yd | exact z9 rfl | refine zn ?_ ?_ | refine zk rfl ?_ ?_ | refine zj ?_ ?_ | refine ye rfl ?_ | fail) <;> first | exact yv | (first | exact Cv.slc rfl (.inl rfl) | exact CvL.pure (zg _ _) | exact Cv.pure rfl))⟩
          exact ⟨by omega,by omega,by omega,hp3⟩
         ·(try simp only [zf] at hc9)
          refine zt ?_;refine v6 zc [] [_,_,_,_,_,_,_,_,_,_,_,_,_,_,_,_] [true,true,false,false,false,true,true,true,true,true,true,true,true,true,true,false] rfl yj yj yj yj ?_;refine xd true (l1:=[_,_]) rfl ?_;iterate 2 refine za rfl ?_
          refine zb ⟨rfl,?_⟩
          refine xd false (l1:=[_,_,_]) rfl ?_;iterate 2 refine za rfl ?_
          refine yo (b:=1) rfl rfl zu ?_;refine zb ⟨rfl,?_⟩
          refine xd true (l1:=[_,_,_,_,_,_,_,_,_,_]) rfl ?_;iterate 2 refine za rfl ?_
          refine yo (b:=1) rfl rfl zu ?_;refine z5 rfl rfl rfl rfl rfl rfl rfl zu ?_;refine yh rfl rfl rfl yn ?_;iterate 2 refine za rfl ?_
          refine z5 rfl rfl rfl rfl rfl rfl rfl zu ?_;refine yh rfl rfl rfl yn ?_;refine z5 rfl rfl rfl rfl rfl rfl rfl zu ?_;refine zb ⟨rfl,?_⟩
          refine vg rfl rfl rfl rfl ?_;refine vi (⟨fitD zu,rfl,trivial⟩) ⟨rfl,?_⟩
          refine z5 rfl rfl rfl rfl rfl rfl rfl zu ?_;refine zp rfl rfl rfl rfl rfl (fitP zu zu) rfl ?_;refine zb ?_;refine z4 zc [] rfl ?_;refine za rfl ?_;refine ym (b:=1) rfl rfl zu ?_;refine za rfl ?_;refine zb ?_;refine ⟨j + 1,swp m3 j (j - 1),by (try dsimp only);omega,?_,(by refine ⟨[some 0],rfl,yb,ya,?_,?_⟩ <;> (repeat' first | exact trivial | exact yc | exact yd | exact z9 rfl | refine zn ?_ ?_ | refine zk rfl ?_ ?_ | refine zj ?_ ?_ | refine ye rfl ?_ | fail) <;> first | exact yv | (first | exact Cv.slc rfl (.inl rfl) | exact CvL.eq (wi (by omega) (by omega)) (zg _ _)))⟩
          exact ⟨by omega,(xx (by omega) (by omega)).trans hp3⟩
        ·(try simp only [zf] at hc8)
         refine y7 ?_;refine z4 zc [] rfl ?_;refine za rfl ?_;refine ym (b:=1) rfl rfl zu ?_;refine za rfl ?_;refine zb ?_;refine ⟨s + 1,i2,m3,by (try dsimp only);omega,?_,(by refine ⟨[some 0],rfl,yb,ya,?_,?_⟩ <;> (repeat' first | exact trivial | exact yc | exact yd | exact z9 rfl | refine zn ?_ ?_ | refine zk rfl ?_ ?_ | refine zj ?_ ?_ | refine ye rfl ?_ | fail) <;> first | exact yv | (first | exact Cv.slc rfl (.inl rfl) | exact CvL.pure (zg _ _) | exact Cv.pure rfl))⟩
         exact ⟨by omega,by omega,by omega,hp3⟩
       ·(try simp only [zf] at hc7)
        refine zt ?_;refine z4 zc [] rfl ?_;refine za rfl ?_;refine ym (b:=1) rfl rfl zu ?_;refine za rfl ?_;refine zb ?_;refine ⟨s + 1,i2,m3,by (try dsimp only);omega,?_,(by refine ⟨[some 0],rfl,yb,ya,?_,?_⟩ <;> (repeat' first | exact trivial | exact yc | exact yd | exact z9 rfl | refine zn ?_ ?_ | refine zk rfl ?_ ?_ | refine zj ?_ ?_ | refine ye rfl ?_ | fail) <;> first | exact yv | (first | exact Cv.slc rfl (.inl rfl) | exact CvL.pure (zg _ _) | exact Cv.pure rfl))⟩
        exact ⟨by omega,by omega,by omega,hp3⟩
     ·(try simp only [zf] at hc4)
      refine zt ?_;refine ze zc [] rfl ?_;iterate 2 refine za rfl ?_
      refine yo rfl rfl zu ?_;refine za rfl ?_;refine zb ?_;refine zi rfl (fun hc7=>?_) (fun hc7=>?_)
      ·(try simp only [zf] at hc7)
       refine ze zc [] rfl ?_;refine za rfl ?_;refine ym (b:=1) rfl rfl zu ?_;refine za rfl ?_;refine zb ?_;refine yf ?_;refine wa (σ1:=Nat) (σ2:=List Int) (fun j _=>b - j) (fun j m=>1≤j∧m.Perm l) (fun j _=>[(10,I64 j),(7,I64 i2),(8,I64 s),(0,.slc 0 0 N 1 none)]) (fun _ m=>[.c (encL cD m)]) [1,2] rfl ((i2 + 1)) (m3) ?_ ?_ ?_
       ·refine ⟨[some 0],rfl,yb,ya,?_,?_⟩ <;> (repeat' first | exact trivial | exact yc | exact yd | exact z9 rfl | refine zn ?_ ?_ | refine zk rfl ?_ ?_ | refine zj ?_ ?_ | refine ye rfl ?_ | fail) <;> first | exact yv | (first | exact CvL.pure (zg _ _))
       ·exact ⟨by omega,hp3⟩
       rintro j m3 ⟨q1,hp3⟩;refine zo ?_;refine ze zc [] rfl ?_;iterate 3 refine za rfl ?_
       refine zb ?_;refine zi rfl (fun hc8=>?_) (fun hc8=>?_)
       ·(try simp only [zf] at hc8);have hjb : j < b:=(by omega);have hml3:=hp3.length_eq
        refine zt ?_;refine zo ?_;refine yf ?_;refine zo ?_;refine yu zc [] [_,_,_,_,_,_,_,_,_,_,_] rfl yj yj ?_;iterate 2 refine za rfl ?_
        refine z5 rfl rfl rfl rfl rfl rfl rfl zu ?_;refine yh rfl rfl rfl yn ?_;iterate 2 refine za rfl ?_
        refine yo (b:=1) rfl rfl zu ?_;refine z5 rfl rfl rfl rfl rfl rfl rfl zu ?_;refine yh rfl rfl rfl yn ?_;refine z6 rfl rfl rfl (wq _ _) ?_;refine za rfl ?_;iterate 2 refine zb ?_
        refine zi rfl (fun hc9=>?_) (fun hc9=>?_)
        ·(try simp only [zf] at hc9)
         refine y7 ?_;refine z4 zc [] rfl ?_;refine za rfl ?_;refine ym (b:=1) rfl rfl zu ?_;refine za rfl ?_;refine zb ?_;refine ⟨s + 1,i2,m3,by (try dsimp only);omega,?_,(by refine ⟨[some 0],rfl,yb,ya,?_,?_⟩ <;> (repeat' first | exact trivial | exact yc | exact yd | exact z9 rfl | refine zn ?_ ?_ | refine zk rfl ?_ ?_ | refine zj ?_ ?_ | refine ye rfl ?_ | fail) <;> first | exact yv | (first | exact Cv.slc rfl (.inl rfl) | exact CvL.pure (zg _ _) | exact Cv.pure rfl))⟩
         exact ⟨by omega,by omega,by omega,hp3⟩
        ·(try simp only [zf] at hc9)
         refine zt ?_;refine v6 zc [] [_,_,_,_,_,_,_,_,_,_,_,_,_,_,_,_] [true,true,false,false,false,true,true,true,true,true,true,true,true,true,true,false] rfl yj yj yj yj ?_;refine xd true (l1:=[_,_]) rfl ?_;iterate 2 refine za rfl ?_
         refine zb ⟨rfl,?_⟩
         refine xd false (l1:=[_,_,_]) rfl ?_;iterate 2 refine za rfl ?_
         refine yo (b:=1) rfl rfl zu ?_;refine zb ⟨rfl,?_⟩
         refine xd true (l1:=[_,_,_,_,_,_,_,_,_,_]) rfl ?_;iterate 2 refine za rfl ?_
         refine yo (b:=1) rfl rfl zu ?_;refine z5 rfl rfl rfl rfl rfl rfl rfl zu ?_;refine yh rfl rfl rfl yn ?_;iterate 2 refine za rfl ?_
         refine z5 rfl rfl rfl rfl rfl rfl rfl zu ?_;refine yh rfl rfl rfl yn ?_;refine z5 rfl rfl rfl rfl rfl rfl rfl zu ?_;refine zb ⟨rfl,?_⟩
         refine vg rfl rfl rfl rfl ?_;refine vi (⟨fitD zu,rfl,trivial⟩) ⟨rfl,?_⟩
         refine z5 rfl rfl rfl rfl rfl rfl rfl zu ?_;refine zp rfl rfl rfl rfl rfl (fitP zu zu) rfl ?_;refine zb ?_;refine z4 zc [] rfl ?_;refine za rfl ?_;refine ym (b:=1) rfl rfl zu ?_;refine za rfl ?_;refine zb ?_;refine ⟨j + 1,swp m3 j (j - 1),by (try dsimp only);omega,?_,(by refine ⟨[some 0],rfl,yb,ya,?_,?_⟩ <;> (repeat' first | exact trivial | exact yc | exact yd | exact z9 rfl | refine zn ?_ ?_ | refine zk rfl ?_ ?_ | refine zj ?_ ?_ | refine ye rfl ?_ | fail) <;> first | exact yv | (first | exact Cv.slc rfl (.inl rfl) | exact CvL.eq (wi (by omega) (by omega)) (zg _ _)))⟩
         exact ⟨by omega,(xx (by omega) (by omega)).trans hp3⟩
       ·(try simp only [zf] at hc8)
        refine y7 ?_;refine z4 zc [] rfl ?_;refine za rfl ?_;refine ym (b:=1) rfl rfl zu ?_;refine za rfl ?_;refine zb ?_;refine ⟨s + 1,i2,m3,by (try dsimp only);omega,?_,(by refine ⟨[some 0],rfl,yb,ya,?_,?_⟩ <;> (repeat' first | exact trivial | exact yc | exact yd | exact z9 rfl | refine zn ?_ ?_ | refine zk rfl ?_ ?_ | refine zj ?_ ?_ | refine ye rfl ?_ | fail) <;> first | exact yv | (first | exact Cv.slc rfl (.inl rfl) | exact CvL.pure (zg _ _) | exact Cv.pure rfl))⟩
        exact ⟨by omega,by omega,by omega,hp3⟩
      ·(try simp only [zf] at hc7)
       refine zt ?_;refine z4 zc [] rfl ?_;refine za rfl ?_;refine ym (b:=1) rfl rfl zu ?_;refine za rfl ?_;refine zb ?_;refine ⟨s + 1,i2,m3,by (try dsimp only);omega,?_,(by refine ⟨[some 0],rfl,yb,ya,?_,?_⟩ <;> (repeat' first | exact trivial | exact yc | exact yd | exact z9 rfl | refine zn ?_ ?_ | refine zk rfl ?_ ?_ | refine zj ?_ ?_ | refine ye rfl ?_ | fail) <;> first | exact yv | (first | exact Cv.slc rfl (.inl rfl) | exact CvL.pure (zg _ _) | exact Cv.pure rfl))⟩
       exact ⟨by omega,by omega,by omega,hp3⟩
 ·(try simp only [zf] at hc0)
  refine y7 ?_;refine ze zc [] rfl ?_;refine za rfl ?_;refine zb ?_;refine yr ?_;exact ⟨trivial,_,rfl,false,m,rfl,hp,rfl⟩
theorem zax (l : List Int) (N a b : Nat) (s : Int) (hN : l.length = N) (ha : a < N) (hb : b < N) (hl : N≤1000000) :
  CallT Tryd.prog 163 [.slc 0 0 N 1 none,I64 a,I64 b,.ptr 1 0] [.c (encL cD l),.c [I64 s]] (fun t H'=>∃ (x y : Nat) (s' : Int),((x = a∧y = b)∨(x = b∧y = a))∧t = .tup [I64 x,I64 y]∧H' = [.c (encL cD l),.c [I64 s']]):=by
 refine CallT.intro zc Tryd.func163 rfl (by kernel_rfl) (Nat.le_of_ble_eq_true rfl) ?_;refine ze zc [] rfl ?_;iterate 2 refine za rfl ?_
 refine zb ?_;refine zo ?_;refine yu zc [] [_,_,_,_,_,_,_,_,_] rfl yj yj ?_;iterate 2 refine za rfl ?_
 refine z5 rfl rfl rfl rfl rfl rfl rfl zu ?_;refine yh rfl rfl rfl yn ?_;iterate 2 refine za rfl ?_
 refine z5 rfl rfl rfl rfl rfl rfl rfl zu ?_;refine yh rfl rfl rfl yn ?_;refine z6 rfl rfl rfl (wq _ _) ?_;iterate 2 refine zb ?_
 refine zi rfl (fun hc0=>?_) (fun hc0=>?_)
 ·(try simp only [zf] at hc0)
  refine ze zc [] rfl ?_;iterate 5 refine za rfl ?_
  refine zp rfl rfl rfl rfl rfl xf rfl ?_;refine zb ?_;refine ze zc [] rfl ?_;iterate 4 refine za rfl ?_
  refine zb ?_;refine yr ?_;exact ⟨trivial,_,rfl,b,a,_,.inr ⟨rfl,rfl⟩,rfl,rfl⟩
 ·(try simp only [zf] at hc0)
  refine zt ?_;refine ze zc [] rfl ?_;iterate 4 refine za rfl ?_
  refine zb ?_;refine yr ?_;exact ⟨trivial,_,rfl,a,b,_,.inl ⟨rfl,rfl⟩,rfl,rfl⟩
theorem za0 (l : List Int) (N a b c : Nat) (s : Int) (hN : l.length = N) (ha : a < N) (hb : b < N) (hc : c < N) (hl : N≤1000000) :
  CallT Tryd.prog 154 [.slc 0 0 N 1 none,I64 a,I64 b,I64 c,.ptr 1 0] [.c (encL cD l),.c [I64 s]] (fun t H'=>∃ (x : Nat) (s' : Int),(x = a∨x = b∨x = c)∧t = I64 x∧H' = [.c (encL cD l),.c [I64 s']]):=by
 refine CallT.intro zc Tryd.func154 rfl (by kernel_rfl) (Nat.le_of_ble_eq_true rfl) ?_;refine ze zc [] rfl ?_;refine za rfl ?_;refine zb ?_;refine ze zc [] rfl ?_;iterate 4 refine za rfl ?_
 refine zq rfl rfl (CallT.frame (zax l N a b s hN ha hb hl) [0,1] rfl z3 z3 ?_)
 rintro _ _ ⟨x1,y1,s1,h1,rfl,rfl⟩;refine frK zy zy ?_;iterate 5 refine za rfl ?_
 refine zb ?_;refine ze zc [] rfl ?_;iterate 4 refine za rfl ?_
 refine zq rfl rfl (CallT.frame (zax l N y1 c s1 hN zu hc hl) [0,1] rfl z3 z3 ?_)
 rintro _ _ ⟨x2,y2,s2,h2,rfl,rfl⟩;refine frK zy zy ?_;iterate 5 refine za rfl ?_
 refine zb ?_;refine ze zc [] rfl ?_;iterate 4 refine za rfl ?_
 refine zq rfl rfl (CallT.frame (zax l N x1 x2 s2 hN zu zu hl) [0,1] rfl z3 z3 ?_)
 rintro _ _ ⟨x3,y3,s3,h3,rfl,rfl⟩;refine frK zy zy ?_;iterate 5 refine za rfl ?_
 refine zb ?_;refine ze zc [] rfl ?_;iterate 2 refine za rfl ?_
 refine zb ?_;refine yr ?_;exact ⟨trivial,_,rfl,y3,s3,by omega,rfl,rfl⟩
theorem za1 (l : List Int) (N a : Nat) (s : Int) (hN : l.length = N) (ha : 1≤a) (hb : a + 1 < N) (hl : N≤1000000) :
  CallT Tryd.prog 153 [.slc 0 0 N 1 none,I64 a,.ptr 1 0] [.c (encL cD l),.c [I64 s]] (fun t H'=>∃ (x : Nat) (s' : Int),(x = a - 1∨x = a∨x = a + 1)∧t = I64 x∧H' = [.c (encL cD l),.c [I64 s']]):=by
 have hm:=za0 l N (a - 1) a (a + 1) s hN (by omega) (by omega) hb hl
 refine CallT.intro zc Tryd.func153 rfl (by kernel_rfl) (Nat.le_of_ble_eq_true rfl) ?_;refine ze zc [] rfl ?_;refine za rfl ?_;refine zb ?_;refine ze zc [] rfl ?_;iterate 2 refine za rfl ?_
 refine yo (b:=1) rfl rfl zu ?_;iterate 2 refine za rfl ?_
 refine ym (b:=1) rfl rfl zu ?_;refine za rfl ?_;refine zq rfl rfl (CallT.frame (hm) [0,1] rfl z3 z3 ?_)
 rintro _ _ ⟨x,s1,h1,rfl,rfl⟩;refine frK zy zy ?_;refine za rfl ?_;refine zb ?_;refine yr ?_;exact ⟨trivial,_,rfl,x,s1,h1,rfl,rfl⟩
theorem zf3 (l : List Int) (N a b : Nat) (hN : l.length = N) (hab : a + 8≤b) (hb : b≤N) (hl : N≤1000000) :
  CallT Tryd.prog 133 [.slc 0 0 N 1 none,I64 a,I64 b] [.c (encL cD l)] (fun t H'=>∃ (p : Nat) (q : Int),a≤p∧p < b∧t = .tup [I64 p,I64 q]∧H' = [.c (encL cD l)]):=by
 by_cases h50 : 50≤b - a
 ·skip
  refine CallT.intro zc Tryd.func133 rfl (by kernel_rfl) (Nat.le_of_ble_eq_true rfl) ?_;refine ze zc [] rfl ?_;iterate 2 refine za rfl ?_
  refine zb ?_;refine ze zc [] rfl ?_;iterate 2 refine za rfl ?_
  refine yo rfl rfl zu ?_;refine za rfl ?_;refine zb ?_;refine ze zc [] rfl ?_;refine yk rfl rfl ?_;refine zb ?_;refine ze zc [] rfl ?_;iterate 2 refine za rfl ?_
  refine wz (b:=4) rfl rfl zu zu ?_;refine th (b:=1) rfl rfl zu ?_;refine ym rfl rfl zu ?_;refine za rfl ?_;refine zb ?_;refine ze zc [] rfl ?_;iterate 2 refine za rfl ?_
  refine wz (b:=4) rfl rfl zu zu ?_;refine th (b:=2) rfl rfl zu ?_;refine ym rfl rfl zu ?_;refine za rfl ?_;refine zb ?_;refine ze zc [] rfl ?_;iterate 2 refine za rfl ?_
  refine wz (b:=4) rfl rfl zu zu ?_;refine th (b:=3) rfl rfl zu ?_;refine ym rfl rfl zu ?_;refine za rfl ?_;refine zb ?_;refine zo ?_;refine ze zc [] rfl ?_;iterate 2 refine za rfl ?_
  refine zb ?_;refine zi rfl (fun hc0=>?_) (fun hc0=>?_)
  ·(try simp only [zf] at hc0)
   refine zo ?_;refine ze zc [] rfl ?_;iterate 2 refine za rfl ?_
   refine zb ?_;refine zi rfl (fun hc1=>?_) (fun hc1=>?_)
   ·(try simp only [zf] at hc1)
    refine ze zc [] rfl ?_;iterate 2 refine za rfl ?_
    refine zq rfl rfl (CallT.frame (za1 l N (a + (b - a) / 4 * 1) 0 hN zu zu hl) [0,1] rfl z3 z3 ?_)
    rintro _ _ ⟨x1,s1,h1,rfl,rfl⟩;refine frK zy zy ?_;refine za rfl ?_;refine zb ?_;refine ze zc [] rfl ?_;iterate 2 refine za rfl ?_
    refine zq rfl rfl (CallT.frame (za1 l N (a + (b - a) / 4 * 2) s1 hN zu zu hl) [0,1] rfl z3 z3 ?_)
    rintro _ _ ⟨x2,s2,h2,rfl,rfl⟩;refine frK zy zy ?_;refine za rfl ?_;refine zb ?_;refine z4 zc [] rfl ?_;iterate 2 refine za rfl ?_
    refine zq rfl rfl (CallT.frame (za1 l N (a + (b - a) / 4 * 3) s2 hN zu zu hl) [0,1] rfl z3 z3 ?_)
    rintro _ _ ⟨x3,s3,h3,rfl,rfl⟩;refine frK zy zy ?_;refine za rfl ?_;refine zb ?_;refine z4 zc [] rfl ?_;iterate 4 refine za rfl ?_
    refine zq rfl rfl (CallT.frame (za0 l N x1 x2 x3 s3 hN zu zu zu hl) [0,1] rfl z3 z3 ?_)
    rintro _ _ ⟨x,s4,h4,rfl,rfl⟩;refine frK zy zy ?_;refine za rfl ?_;refine zb ?_;refine ze zc [] rfl ?_;refine za rfl ?_;refine zb ?_;refine z7 ([(0,.slc 0 0 N 1 none)]) ([.c (encL cD l)]) [11,49] rfl (by refine ⟨[some 0],rfl,yb,ya,?_,?_⟩ <;> (repeat' first | exact trivial | exact yc | exact yd | exact z9 rfl | refine zn ?_ ?_ | refine zk rfl ?_ ?_ | refine zj ?_ ?_ | refine ye rfl ?_ | fail) <;> first | exact yv | (first | exact Cv.slc rfl (.inl rfl) | exact CvL.pure (zg _ _) | exact Cv.pure rfl)) ?_
    refine yf ?_;refine ze zc [] rfl ?_;iterate 2 refine za rfl ?_
    refine zb ?_;refine zi rfl (fun hc2=>?_) (fun hc2=>?_)
    ·(try simp only [zf] at hc2)
     refine ze zc [] rfl ?_;iterate 3 refine za rfl ?_
     refine zb ?_;refine yr ?_;exact ⟨trivial,_,rfl,x,_,by omega,by omega,rfl,rfl⟩
    ·(try simp only [zf] at hc2)
     refine ze zc [] rfl ?_;iterate 2 refine za rfl ?_
     refine zb ?_;refine zi rfl (fun hc3=>?_) (fun hc3=>?_)
     ·(try simp only [zf] at hc3)
      refine ze zc [] rfl ?_;iterate 3 refine za rfl ?_
      refine zb ?_;refine yr ?_;exact ⟨trivial,_,rfl,x,_,by omega,by omega,rfl,rfl⟩
     ·(try simp only [zf] at hc3)
      refine ze zc [] rfl ?_;iterate 3 refine za rfl ?_
      refine zb ?_;refine yr ?_;exact ⟨trivial,_,rfl,x,_,by omega,by omega,rfl,rfl⟩
   ·exfalso;(try simp only [zf] at hc1);omega
  ·exfalso;(try simp only [zf] at hc0);omega
 ·skip
  refine CallT.intro zc Tryd.func133 rfl (by kernel_rfl) (Nat.le_of_ble_eq_true rfl) ?_;refine ze zc [] rfl ?_;iterate 2 refine za rfl ?_
  refine zb ?_;refine ze zc [] rfl ?_;iterate 2 refine za rfl ?_
  refine yo rfl rfl zu ?_;refine za rfl ?_;refine zb ?_;refine ze zc [] rfl ?_;refine yk rfl rfl ?_;refine zb ?_;refine ze zc [] rfl ?_;iterate 2 refine za rfl ?_
  refine wz (b:=4) rfl rfl zu zu ?_;refine th (b:=1) rfl rfl zu ?_;refine ym rfl rfl zu ?_;refine za rfl ?_;refine zb ?_;refine ze zc [] rfl ?_;iterate 2 refine za rfl ?_
  refine wz (b:=4) rfl rfl zu zu ?_;refine th (b:=2) rfl rfl zu ?_;refine ym rfl rfl zu ?_;refine za rfl ?_;refine zb ?_;refine ze zc [] rfl ?_;iterate 2 refine za rfl ?_
  refine wz (b:=4) rfl rfl zu zu ?_;refine th (b:=3) rfl rfl zu ?_;refine ym rfl rfl zu ?_;refine za rfl ?_;refine zb ?_;refine zo ?_;refine ze zc [] rfl ?_;iterate 2 refine za rfl ?_
  refine zb ?_;refine zi rfl (fun hc0=>?_) (fun hc0=>?_)
  ·(try simp only [zf] at hc0)
   refine zo ?_;refine ze zc [] rfl ?_;iterate 2 refine za rfl ?_
   refine zb ?_;refine zi rfl (fun hc1=>?_) (fun hc1=>?_)
   ·exfalso;(try simp only [zf] at hc1);omega
   ·(try simp only [zf] at hc1)
    refine zt ?_;refine z4 zc [] rfl ?_;iterate 4 refine za rfl ?_
    refine zq rfl rfl (CallT.frame (za0 l N (a + (b - a) / 4 * 1) (a + (b - a) / 4 * 2) (a + (b - a) / 4 * 3) 0 hN zu zu zu hl) [0,1] rfl z3 z3 ?_)
    rintro _ _ ⟨x,s4,h4,rfl,rfl⟩;refine frK zy zy ?_;refine za rfl ?_;refine zb ?_;refine ze zc [] rfl ?_;refine za rfl ?_;refine zb ?_;refine z7 ([(0,.slc 0 0 N 1 none)]) ([.c (encL cD l)]) [11,49] rfl (by refine ⟨[some 0],rfl,yb,ya,?_,?_⟩ <;> (repeat' first | exact trivial | exact yc | exact yd | exact z9 rfl | refine zn ?_ ?_ | refine zk rfl ?_ ?_ | refine zj ?_ ?_ | refine ye rfl ?_ | fail) <;> first | exact yv | (first | exact Cv.slc rfl (.inl rfl) | exact CvL.pure (zg _ _) | exact Cv.pure rfl)) ?_
    refine yf ?_;refine ze zc [] rfl ?_;iterate 2 refine za rfl ?_
    refine zb ?_;refine zi rfl (fun hc2=>?_) (fun hc2=>?_)
    ·(try simp only [zf] at hc2)
     refine ze zc [] rfl ?_;iterate 3 refine za rfl ?_
     refine zb ?_;refine yr ?_;exact ⟨trivial,_,rfl,x,_,by omega,by omega,rfl,rfl⟩
    ·(try simp only [zf] at hc2)
     refine ze zc [] rfl ?_;iterate 2 refine za rfl ?_
     refine zb ?_;refine zi rfl (fun hc3=>?_) (fun hc3=>?_)
     ·(try simp only [zf] at hc3)
      refine ze zc [] rfl ?_;iterate 3 refine za rfl ?_
      refine zb ?_;refine yr ?_;exact ⟨trivial,_,rfl,x,_,by omega,by omega,rfl,rfl⟩
     ·(try simp only [zf] at hc3)
      refine ze zc [] rfl ?_;iterate 3 refine za rfl ?_
      refine zb ?_;refine yr ?_;exact ⟨trivial,_,rfl,x,_,by omega,by omega,rfl,rfl⟩
  ·exfalso;(try simp only [zf] at hc0);omega
end

section
open Go.RowKit
set_option maxRecDepth 10000
set_option maxHeartbeats 4000000
abbrev U64 (n : Int) : T:=.v (.int .u64 n)
def len8L : List UInt8:=[0,1,2,2] ++ List.replicate 4 3 ++ List.replicate 8 4 ++ List.replicate 16 5 ++ List.replicate 32 6 ++ List.replicate 64 7 ++ List.replicate 128 8
theorem zil : ∀ m : Fin 256,((⟨len8L.toArray⟩ : ByteArray)[m.val]?) = some len8L[m.val]!:=by decide +kernel
theorem zgr {m : Nat} (h : m < 256) : (⟨len8L.toArray⟩ : ByteArray)[m]? = some len8L[m]!:=zil ⟨m,h⟩
theorem zgq : ∀ m : Fin 256,1≤m.val→m.val < 2 ^ len8L[m.val]!.toNat∧2 ^ len8L[m.val]!.toNat≤2 * m.val∧len8L[m.val]!.toNat≤8:=by decide +kernel
theorem p7 {n : Int} (h : 0≤n∧n < 18446744073709551616) : IntKind.u64.wrap n = n:=by
 show n % 18446744073709551616 = n
 omega
theorem zkh (n : Nat) (h1 : 1≤n) (h2 : n < 65536) : ∃ L : Nat,L≤16∧n < 2 ^ L∧2 ^ L≤2 * n∧CallP Tryd.prog 140 [U64 n] (I64 L):=by
 by_cases hs : n < 256
 ·obtain ⟨k1,k2,k3⟩ : n < 2 ^ len8L[n]!.toNat∧2 ^ len8L[n]!.toNat≤2 * n∧len8L[n]!.toNat≤8:=zgq ⟨n,hs⟩ h1
  refine ⟨len8L[n]!.toNat,by omega,k1,k2,?_⟩
  have hat:=zgr hs
  generalize len8L[n]! = b at *
  refine CallP.intro2 yw yw ?_;refine CallT.intro zc Tryd.func140 rfl (by kernel_rfl) (Nat.le_of_ble_eq_true rfl) ?_;refine ze zc [] rfl ?_;refine za rfl ?_;refine zb ?_;refine zo ?_;refine ze zc [] rfl ?_;iterate 2 refine za rfl ?_
  refine zb ?_;refine zi rfl (fun hc0=>?_) (fun hc0=>?_)
  ·exact absurd hc0 (by simp;omega)
  ·(try simp only [zf] at hc0)
   refine zt ?_;refine zo ?_;refine ze zc [] rfl ?_;iterate 2 refine za rfl ?_
   refine zb ?_;refine zi rfl (fun hc1=>?_) (fun hc1=>?_)
   ·exact absurd hc1 (by simp;omega)
   ·(try simp only [zf] at hc1)
    refine zt ?_;refine zo ?_;refine ze zc [] rfl ?_;iterate 2 refine za rfl ?_
    refine zb ?_;refine zi rfl (fun hc2=>?_) (fun hc2=>?_)
    ·exact absurd hc2 (by simp;omega)
    ·(try simp only [zf] at hc2)
     refine zt ?_;refine ze zc [] rfl ?_;iterate 2 refine za rfl ?_
     refine za (t:=U8 n) (by show some (T.v (.int .u8 (IntKind.u8.wrap (n : Int))),(none : Option (Nat × List T))) = _;rw [zaq zu]) ?_;refine zhs (s:=⟨len8L.toArray⟩) rfl rfl yj rfl rfl hat ?_;refine za (t:=I64 (b.toNat : Nat)) (by show some (T.v (.int .i64 (IntKind.i64.wrap (b.toNat : Int))),(none : Option (Nat × List T))) = _;rw [w4 zu]) ?_;refine za (t:=I64 (b.toNat : Nat)) (by show some (T.v (.int .i64 (IntKind.i64.wrap (0 + (b.toNat : Int)))),(none : Option (Nat × List T))) = _;rw [w4 zu,Int.zero_add]) ?_;refine za rfl ?_;refine zb ?_;refine yr ?_;exact ⟨trivial,_,rfl,Cv.eq (by first | rfl | (simp [*];done)) rfl⟩
 ·obtain ⟨m,hm⟩ : ∃ m,m = n / 256:=⟨_,rfl⟩
  have hm1 : 1≤m∧m < 256:=by omega
  obtain ⟨k1,k2,k3⟩ : m < 2 ^ len8L[m]!.toNat∧2 ^ len8L[m]!.toNat≤2 * m∧len8L[m]!.toNat≤8:=zgq ⟨m,hm1.2⟩ hm1.1
  have e : 2 ^ (8 + len8L[m]!.toNat) = 256 * 2 ^ len8L[m]!.toNat:=by rw [Nat.pow_add]
  refine ⟨8 + len8L[m]!.toNat,by omega,?_,?_,?_⟩
  ·rw [e];omega
  ·rw [e];omega
  have hat:=zgr hm1.2
  generalize len8L[m]! = b at *
  refine CallP.intro2 yw yw ?_;refine CallT.intro zc Tryd.func140 rfl (by kernel_rfl) (Nat.le_of_ble_eq_true rfl) ?_;refine ze zc [] rfl ?_;refine za rfl ?_;refine zb ?_;refine zo ?_;refine ze zc [] rfl ?_;iterate 2 refine za rfl ?_
  refine zb ?_;refine zi rfl (fun hc0=>?_) (fun hc0=>?_)
  ·exact absurd hc0 (by simp;omega)
  ·(try simp only [zf] at hc0)
   refine zt ?_;refine zo ?_;refine ze zc [] rfl ?_;iterate 2 refine za rfl ?_
   refine zb ?_;refine zi rfl (fun hc1=>?_) (fun hc1=>?_)
   ·exact absurd hc1 (by simp;omega)
   ·(try simp only [zf] at hc1)
    refine zt ?_;refine zo ?_;refine ze zc [] rfl ?_;iterate 2 refine za rfl ?_
    refine zb ?_;refine zi rfl (fun hc2=>?_) (fun hc2=>?_)
    ·(try simp only [zf] at hc2)
     refine ze zc [] rfl ?_;refine za rfl ?_;refine za (t:=U64 m) (by show some (T.v (.int .u64 ((n : Int).fdiv (2 ^ (min (8 : Int).toNat 64)))),(none : Option (Nat × List T))) = _;rw [show ((2 : Int) ^ (min (8 : Int).toNat 64)) = 256 from by decide,Int.fdiv_eq_ediv_of_nonneg _ zu,show (n : Int) / 256 = (m : Int) from by omega]) ?_;refine za rfl ?_;refine zb ?_;refine z4 zc [] rfl ?_;refine za rfl ?_;refine za (t:=I64 8) rfl ?_;refine za rfl ?_;refine zb ?_;refine ze zc [] rfl ?_;iterate 2 refine za rfl ?_
     refine za (t:=U8 m) (by show some (T.v (.int .u8 (IntKind.u8.wrap (m : Int))),(none : Option (Nat × List T))) = _;rw [zaq zu]) ?_;refine zhs (s:=⟨len8L.toArray⟩) rfl rfl yj rfl rfl hat ?_;refine za (t:=I64 (b.toNat : Nat)) (by show some (T.v (.int .i64 (IntKind.i64.wrap (b.toNat : Int))),(none : Option (Nat × List T))) = _;rw [w4 zu]) ?_;refine za (t:=I64 ((8 + b.toNat : Nat) : Int)) (by show some (T.v (.int .i64 (IntKind.i64.wrap (8 + (b.toNat : Int)))),(none : Option (Nat × List T))) = _;rw [w4 zu];rfl) ?_;refine za rfl ?_;refine zb ?_;refine yr ?_;exact ⟨trivial,_,rfl,Cv.eq (by first | rfl | (simp [*];done)) rfl⟩
    ·exact absurd hc2 (by simp;omega)
theorem len_p (n : Nat) (h1 : 1≤n) (h2 : n < 65536) : ∃ L : Nat,L≤16∧n < 2 ^ L∧2 ^ L≤2 * n∧CallP Tryd.prog 99 [U64 n] (I64 L):=by
 obtain ⟨L,k1,k2,k3,hL⟩:=zkh n h1 h2
 refine ⟨L,k1,k2,k3,?_⟩
 refine CallP.intro2 yw yw ?_;refine CallT.intro zc Tryd.func99 rfl (by kernel_rfl) (Nat.le_of_ble_eq_true rfl) ?_;refine ze zc [] rfl ?_;refine za rfl ?_;refine zb ?_;refine zo ?_;refine yq rfl ?_;refine zt ?_;refine ze zc [] rfl ?_;refine za rfl ?_;refine z6 rfl rfl rfl hL ?_;refine za rfl ?_;refine zb ?_;refine yr ?_;exact ⟨trivial,_,rfl,Cv.eq (by first | rfl | (simp [*];done)) rfl⟩
theorem zge (n : Nat) (h1 : 1≤n) (h2 : n < 65536) : ∃ m : Nat,n < m∧m≤2 * n∧CallP Tryd.prog 151 [I64 n] (U64 m):=by
 obtain ⟨L,k1,k2,k3,hL⟩:=len_p n h1 h2
 refine ⟨2 ^ L,k2,k3,?_⟩
 refine CallP.intro2 yw yw ?_;refine CallT.intro zc Tryd.func151 rfl (by kernel_rfl) (Nat.le_of_ble_eq_true rfl) ?_;refine ze zc [] rfl ?_;refine za rfl ?_;refine zb ?_;refine ze zc [] rfl ?_;refine za rfl ?_;refine za (t:=U64 n) (by show some (T.v (.int .u64 (IntKind.u64.wrap (n : Int))),(none : Option (Nat × List T))) = _;rw [p7 zu]) ?_;refine z6 rfl rfl rfl (hL) ?_;refine za (t:=U64 ((2 ^ L : Nat) : Int)) (by show (match (if (L : Int) < 0 then none else some (T.v (.int .u64 (IntKind.u64.wrap (1 * 2 ^ (min (L : Int).toNat 64)))))) with | some r=>some (r,(none : Option (Nat × List T))) | none=>none) = _;rw [if_neg zu,Int.toNat_natCast,Nat.min_eq_left zu,Int.one_mul,show ((2 : Int) ^ L) = ((2 ^ L : Nat) : Int) from by push_cast;rfl,p7 zu]) ?_;refine za rfl ?_;refine zb ?_;refine yr ?_;exact ⟨trivial,_,rfl,Cv.eq (by first | rfl | (simp [*];done)) rfl⟩
theorem next_t (v : Int) : CallT Tryd.prog 152 [.ptr 0 0] [.c [U64 v]] (fun t H'=>∃ w : Int,t = U64 w∧H' = [.c [U64 w]]):=by
 refine CallT.intro zc Tryd.func152 rfl (by kernel_rfl) (Nat.le_of_ble_eq_true rfl) ?_;refine ze zc [] rfl ?_;refine za rfl ?_;refine zb ?_;refine yu zc [] [_,_,_,_,_,_,_,_,_] rfl yj yj ?_;iterate 9 refine za rfl ?_
 refine zb ?_;refine zp rfl rfl rfl rfl rfl xf rfl ?_;refine zb ?_;refine yu zc [] [_,_,_,_,_,_,_,_,_] rfl yj yj ?_;iterate 9 refine za rfl ?_
 refine zb ?_;refine zp rfl rfl rfl rfl rfl xf rfl ?_;refine zb ?_;refine yu zc [] [_,_,_,_,_,_,_,_,_] rfl yj yj ?_;iterate 9 refine za rfl ?_
 refine zb ?_;refine zp rfl rfl rfl rfl rfl xf rfl ?_;refine zb ?_;refine ze zc [] rfl ?_;iterate 4 refine za rfl ?_
 refine zb ?_;refine yr ?_;exact ⟨trivial,_,rfl,_,rfl,rfl⟩
theorem and_le {w : Int} {k : Nat} (hk : k < 18446744073709551616) : ∃ o : Nat,o≤k∧bitV .and .u64 w k = (o : Int):=by
 have e : bitV .and .u64 w k = IntKind.u64.wrap (((BitVec.ofInt 64 w) &&& (BitVec.ofInt 64 k)).toNat : Int):=rfl
 have h2 : (BitVec.ofInt 64 (k : Int)).toNat = k:=by
  rw [BitVec.toNat_ofInt]
  have : (k : Int) % ((2 ^ 64 : Nat) : Int) = k:=Int.emod_eq_of_lt (by omega) (by omega)
  rw [this];rfl
 have h3 : ((BitVec.ofInt 64 w) &&& (BitVec.ofInt 64 k)).toNat≤k:=by
  rw [BitVec.toNat_and,h2];exact Nat.and_le_right
 exact ⟨_,h3,by rw [e,p7 (by omega)]⟩
theorem brk_t (l : List Int) (N a b : Nat) (hN : l.length = N) (hab : a + 8≤b) (hb : b≤N) (hl : N≤65535) :
  CallT Tryd.prog 132 [.slc 0 0 N 1 none,I64 a,I64 b] [.c (encL cD l)] (fun t H'=>t = .tup []∧∃ (l' : List Int) (w : Int),l'.Perm l∧H' = [.c (encL cD l'),.c [U64 w]]):=by
 obtain ⟨M,hm1,hm2,hM⟩:=zge (b - a) (by omega) (by omega)
 refine CallT.intro zc Tryd.func132 rfl (by kernel_rfl) (Nat.le_of_ble_eq_true rfl) ?_;refine ze zc [] rfl ?_;iterate 2 refine za rfl ?_
 refine yo rfl rfl zu ?_;refine za rfl ?_;refine zb ?_;refine ze zc [] rfl ?_;iterate 2 refine za rfl ?_
 refine zb ?_;refine zi rfl (fun hc0=>?_) (fun hc0=>?_)
 ·(try simp only [zf] at hc0)
  refine ze zc [] rfl ?_;refine za rfl ?_;refine za (t:=U64 ((b - a : Nat) : Int)) (by show some (T.v (.int .u64 (IntKind.u64.wrap ((b - a : Nat) : Int))),(none : Option (Nat × List T))) = _;rw [p7 zu]) ?_;refine yk rfl rfl ?_;refine zp rfl rfl rfl rfl rfl xf rfl ?_;refine zb ?_;refine ze zc [] rfl ?_;refine za rfl ?_;refine z6 rfl rfl rfl (hM) ?_;refine za rfl ?_;refine zb ?_;refine ze zc [] rfl ?_;iterate 2 refine za rfl ?_
  refine wz (b:=4) rfl rfl zu zu ?_;refine th (b:=2) rfl rfl zu ?_;refine ym rfl rfl zu ?_;refine yo (b:=1) rfl rfl zu ?_;refine za rfl ?_;refine zb ?_;refine yf ?_;refine vy (σ1:=Nat) (σ2:=Int) (σ3:=List Int) (fun i _ _=>b + 1 - i) (fun i _ m=>a + (b - a) / 4 * 2 - 1≤i∧i≤a + (b - a) / 4 * 2 + 2∧m.Perm l) (fun i _ _=>[(9,I64 i),(7,.ptr 1 0),(0,.slc 0 0 N 1 none)]) (fun _ v m=>[.c (encL cD m),.c [U64 v]]) [1,6,8] rfl ((a + (b - a) / 4 * 2 - 1)) (((b - a : Nat) : Int)) (l) ?_ ?_ ?_
  ·refine ⟨[some 0,some 1],rfl,yb,ya,?_,?_⟩ <;> (repeat' first | exact trivial | exact yc | exact yd | exact z9 rfl | refine zn ?_ ?_ | refine zk rfl ?_ ?_ | refine zj ?_ ?_ | refine ye rfl ?_ | fail) <;> first | exact yv | (first | exact CvL.pure (zg _ _) | exact CvL.pure rfl)
  ·exact ⟨by omega,by omega,.refl _⟩
  rintro i v m ⟨h1,h2,hp⟩;refine zo ?_;refine ze zc [] rfl ?_;iterate 3 refine za rfl ?_
  refine wz (b:=4) rfl rfl zu zu ?_;refine th (b:=2) rfl rfl zu ?_;refine ym rfl rfl zu ?_;refine ym (b:=1) rfl rfl zu ?_;refine za rfl ?_;refine zb ?_;refine zi rfl (fun hc1=>?_) (fun hc1=>?_)
  ·(try simp only [zf] at hc1);have hml:=hp.length_eq;have hib : i≤a + (b - a) / 4 * 2 + 1:=(by omega)
   refine zt ?_;refine zo ?_;refine yf ?_;refine ze zc [] rfl ?_;refine zq rfl rfl (CallT.frame (next_t v) [1] rfl z3 z3 ?_)
   rintro _ _ ⟨w,rfl,rfl⟩;refine frK zy zy ?_;refine za rfl ?_;refine za (t:=U64 ((M - 1 : Nat) : Int)) (by show some (T.v (.int .u64 (IntKind.u64.wrap ((M : Int) - 1))),(none : Option (Nat × List T))) = _;rw [p7 zu,show (M : Int) - 1 = ((M - 1 : Nat) : Int) from by omega]) ?_;obtain ⟨o,ho,hbv⟩:=and_le (w:=w) (k:=M - 1) (by omega);refine za (t:=U64 o) (by show some (T.v (.int .u64 (bitV .and .u64 w ((M - 1 : Nat) : Int))),(none : Option (Nat × List T))) = _;rw [hbv]) ?_
   refine za (t:=I64 o) (by show some (T.v (.int .i64 (IntKind.i64.wrap (o : Int))),(none : Option (Nat × List T))) = _;rw [w4 zu]) ?_;refine za rfl ?_;refine zb ?_;refine zo ?_;refine ze zc [] rfl ?_;iterate 3 refine za rfl ?_
   refine zb ?_;refine zi rfl (fun hc2=>?_) (fun hc2=>?_)
   ·(try simp only [zf] at hc2);have hob : b - a≤o:=(by omega)
    refine z4 zc [] rfl ?_;iterate 2 refine za rfl ?_
    refine yo rfl rfl zu ?_;refine za rfl ?_;refine zb ?_;refine v6 zc [] [_,_,_,_,_,_,_,_,_,_,_,_,_,_,_,_,_,_] [true,true,false,false,false,false,true,true,true,true,true,true,true,true,true,true,true,false] rfl yj yj yj yj ?_;refine xd true (l1:=[_,_]) rfl ?_;iterate 2 refine za rfl ?_
    refine zb ⟨rfl,?_⟩
    refine xd false (l1:=[_,_,_,_]) rfl ?_;iterate 3 refine za rfl ?_
    refine ym rfl rfl zu ?_;refine zb ⟨rfl,?_⟩
    refine xd true (l1:=[_,_,_,_,_,_,_,_,_,_,_]) rfl ?_;iterate 3 refine za rfl ?_
    refine ym rfl rfl zu ?_;refine z5 rfl rfl rfl rfl rfl rfl rfl zu ?_;refine yh rfl rfl rfl yn ?_;iterate 2 refine za rfl ?_
    refine z5 rfl rfl rfl rfl rfl rfl rfl zu ?_;refine yh rfl rfl rfl yn ?_;refine z5 rfl rfl rfl rfl rfl rfl rfl zu ?_;refine zb ⟨rfl,?_⟩
    refine vg rfl rfl rfl rfl ?_;refine vi (⟨fitD zu,rfl,trivial⟩) ⟨rfl,?_⟩
    refine z5 rfl rfl rfl rfl rfl rfl rfl zu ?_;refine zp rfl rfl rfl rfl rfl (fitP zu zu) rfl ?_;refine zb ?_;refine z4 zc [] rfl ?_;refine za rfl ?_;refine ym (b:=1) rfl rfl zu ?_;refine za rfl ?_;refine zb ?_;refine ⟨i + 1,w,swp m i (a + (o - (b - a))),by (try dsimp only);omega,?_,(by refine ⟨[some 0,some 1],rfl,yb,ya,?_,?_⟩ <;> (repeat' first | exact trivial | exact yc | exact yd | exact z9 rfl | refine zn ?_ ?_ | refine zk rfl ?_ ?_ | refine zj ?_ ?_ | refine ye rfl ?_ | fail) <;> first | exact yv | (first | exact Cv.slc rfl (.inl rfl) | exact CvL.eq (wi (by omega) (by omega)) (zg _ _) | exact CvL.pure rfl | exact Cv.ptr rfl))⟩
    exact ⟨by omega,by omega,(xx (by omega) (by omega)).trans hp⟩
   ·(try simp only [zf] at hc2);have hob : o < b - a:=(by omega)
    refine zt ?_;refine v6 zc [] [_,_,_,_,_,_,_,_,_,_,_,_,_,_,_,_,_,_] [true,true,false,false,false,false,true,true,true,true,true,true,true,true,true,true,true,false] rfl yj yj yj yj ?_;refine xd true (l1:=[_,_]) rfl ?_;iterate 2 refine za rfl ?_
    refine zb ⟨rfl,?_⟩
    refine xd false (l1:=[_,_,_,_]) rfl ?_;iterate 3 refine za rfl ?_
    refine ym rfl rfl zu ?_;refine zb ⟨rfl,?_⟩
    refine xd true (l1:=[_,_,_,_,_,_,_,_,_,_,_]) rfl ?_;iterate 3 refine za rfl ?_
    refine ym rfl rfl zu ?_;refine z5 rfl rfl rfl rfl rfl rfl rfl zu ?_;refine yh rfl rfl rfl yn ?_;iterate 2 refine za rfl ?_
    refine z5 rfl rfl rfl rfl rfl rfl rfl zu ?_;refine yh rfl rfl rfl yn ?_;refine z5 rfl rfl rfl rfl rfl rfl rfl zu ?_;refine zb ⟨rfl,?_⟩
    refine vg rfl rfl rfl rfl ?_;refine vi (⟨fitD zu,rfl,trivial⟩) ⟨rfl,?_⟩
    refine z5 rfl rfl rfl rfl rfl rfl rfl zu ?_;refine zp rfl rfl rfl rfl rfl (fitP zu zu) rfl ?_;refine zb ?_;refine z4 zc [] rfl ?_;refine za rfl ?_;refine ym (b:=1) rfl rfl zu ?_;refine za rfl ?_;refine zb ?_;refine ⟨i + 1,w,swp m i (a + o),by (try dsimp only);omega,?_,(by refine ⟨[some 0,some 1],rfl,yb,ya,?_,?_⟩ <;> (repeat' first | exact trivial | exact yc | exact yd | exact z9 rfl | refine zn ?_ ?_ | refine zk rfl ?_ ?_ | refine zj ?_ ?_ | refine ye rfl ?_ | fail) <;> first | exact yv | (first | exact Cv.slc rfl (.inl rfl) | exact CvL.eq (wi (by omega) (by omega)) (zg _ _) | exact CvL.pure rfl | exact Cv.ptr rfl))⟩
    exact ⟨by omega,by omega,(xx (by omega) (by omega)).trans hp⟩
  ·(try simp only [zf] at hc1)
   refine y7 ?_;exact ⟨trivial,_,rfl,rfl,m,v,hp,rfl⟩
 ·exfalso;(try simp only [zf] at hc0);omega
end
end Go.Proofs.YtjnomaiejmgedaaDoor
