/-
  The proof's lemmas, part 5.
-/
import Derived.Test.YtjnomaiejmgedaaDoorMkhd
namespace Go.Proofs.YtjnomaiejmgedaaDoor
set_option linter.unusedSimpArgs false
set_option linter.unusedVariables false

section
open Go.RowKit
set_option maxRecDepth 10000
set_option maxHeartbeats 8000000
theorem pdq_t (n : Nat) : ∀ (l : List Int) (N a b lim : Nat),l.length = N→a≤b→b≤N→N≤65535→lim≤1000000→b - a≤n→
  CallT Tryd.prog 98 [.slc 0 0 N 1 none,I64 a,I64 b,I64 lim] [.c (encL cD l)] (srtQ l):=by
 induction n using Nat.strongRecOn with
 | _ n ih=>
  intro l N a b lim hN hab hb hl hlim hbn
  refine CallT.intro zc Tryd.func98 rfl (by kernel_rfl) (Nat.le_of_ble_eq_true rfl) ?_;refine ze zc [] rfl ?_;refine za rfl ?_;refine zb ?_;refine ze zc [] rfl ?_;refine za rfl ?_;refine zb ?_;refine yf ?_;refine zhu (σ1:=Nat) (σ2:=Nat) (σ3:=Nat) (σ4:=Bool) (σ5:=Bool) (σ6:=List Int) (fun a b _ _ _ _=>b - a) (fun a2 b2 lm _ _ m=>a2≤b2∧b2≤N∧lm≤1000000∧b2 - a2≤n∧m.Perm l) (fun a2 b2 lm wb wp _=>[(1,I64 a2),(2,I64 b2),(3,I64 lm),(8,BL wb),(9,BL wp),(0,.slc 0 0 N 1 none)]) (fun _ _ _ _ _ m=>[.c (encL cD m)]) [] rfl (a) (b) (lim) (true) (true) (l) ?_ ?_ ?_
  ·refine ⟨[some 0],rfl,yb,ya,?_,?_⟩ <;> (repeat' first | exact trivial | exact yc | exact yd | exact z9 rfl | refine zn ?_ ?_ | refine zk rfl ?_ ?_ | refine zj ?_ ?_ | refine ye rfl ?_ | fail) <;> first | exact yv | (first | exact CvL.pure (zg _ _))
  ·exact ⟨hab,hb,hlim,hbn,.refl _⟩
  rintro a2 b2 lm wb wp m ⟨h1,h2,h3,h4,hp⟩;refine yf ?_;refine ze zc [] rfl ?_;iterate 2 refine za rfl ?_
  refine yo rfl rfl zu ?_;refine za rfl ?_;refine zb ?_;refine zo ?_;refine ze zc [] rfl ?_;iterate 2 refine za rfl ?_
  refine zb ?_;refine zi rfl (fun hc0=>?_) (fun hc0=>?_)
  ·(try simp only [zf] at hc0)
   refine ze zc [] rfl ?_;iterate 3 refine za rfl ?_
   refine zq rfl rfl (CallT.frame (ins_t m N a2 b2 (hp.length_eq.trans hN) h1 h2 zu) [0] rfl z3 z3 ?_)
   rintro _ _ ⟨rfl,m,hq,rfl⟩;refine frK zy zy ?_;refine zb ?_;refine yr ?_;exact ⟨trivial,_,rfl,rfl,m,hq.trans hp,rfl⟩
  ·(try simp only [zf] at hc0);have h12 : 12 < b2 - a2:=(by omega);have hml:=hp.length_eq
   refine zt ?_;refine zo ?_;refine ze zc [] rfl ?_;iterate 2 refine za rfl ?_
   refine zb ?_;refine zi rfl (fun hc1=>?_) (fun hc1=>?_)
   ·(try simp only [zf] at hc1)
    refine ze zc [] rfl ?_;iterate 3 refine za rfl ?_
    refine zq rfl rfl (CallT.frame (heap_t m N a2 b2 (hp.length_eq.trans hN) zu h2 zu) [0] rfl z3 z3 ?_)
    rintro _ _ ⟨rfl,m,hq,rfl⟩;refine frK zy zy ?_;refine zb ?_;refine yr ?_;exact ⟨trivial,_,rfl,rfl,m,hq.trans hp,rfl⟩
   ·(try simp only [zf] at hc1);have hl0 : 1≤lm:=(by omega)
    refine zt ?_;refine zo ?_;refine ze zc [] rfl ?_;iterate 2 refine za rfl ?_
    refine zb ?_;refine zi rfl (fun hc2=>?_) (fun hc2=>?_)
    ·(try simp only [zf] at hc2)
     refine ze zc [] rfl ?_;iterate 3 refine za rfl ?_
     refine zq rfl rfl (CallT.frame (brk_t m N a2 b2 (hp.length_eq.trans hN) zu h2 zu) [0] rfl z3 z3 ?_)
     rintro _ _ ⟨rfl,m,w,hq,rfl⟩;refine frK zy zy ?_;refine zb ?_;have hp:=hq.trans hp;have hml:=hp.length_eq
     refine z7 ([(0,.slc 0 0 N 1 none)]) ([.c (encL cD m)]) [1,2,3,8,9,10] rfl (by refine ⟨[some 0],rfl,yb,ya,?_,?_⟩ <;> (repeat' first | exact trivial | exact yc | exact yd | exact z9 rfl | refine zn ?_ ?_ | refine zk rfl ?_ ?_ | refine zj ?_ ?_ | refine ye rfl ?_ | fail) <;> first | exact yv | (first | exact Cv.slc rfl (.inl rfl) | exact CvL.pure (zg _ _) | exact Cv.pure rfl)) ?_
     refine z4 zc [] rfl ?_;refine za rfl ?_;refine yo (b:=1) rfl rfl zu ?_;refine za rfl ?_;refine zb ?_;obtain ⟨lm,hlm⟩ : ∃ x,x = lm - 1:=⟨_,rfl⟩;rw [← hlm];have h3 : lm≤1000000:=(by omega)
     refine ze zc [] rfl ?_;iterate 3 refine za rfl ?_
     refine zq rfl rfl (CallT.frame (zf3 m N a2 b2 (hp.length_eq.trans hN) zu h2 zu) [0] rfl z3 z3 ?_)
     rintro _ _ ⟨p,hint,hv1,hv2,rfl,rfl⟩;refine frK zy zy ?_;iterate 5 refine za rfl ?_
     refine zb ?_;refine zo ?_;refine ze zc [] rfl ?_;iterate 2 refine za rfl ?_
     refine zb ?_;refine zi rfl (fun hc3=>?_) (fun hc3=>?_)
     ·(try simp only [zf] at hc3)
      refine ze zc [] rfl ?_;iterate 3 refine za rfl ?_
      refine zq rfl rfl (CallT.frame (rev_t m N a2 b2 (hp.length_eq.trans hN) zu h2 zu) [0] rfl z3 z3 ?_)
      rintro _ _ ⟨rfl,m,hq,rfl⟩;refine frK zy zy ?_;refine zb ?_;have hp:=hq.trans hp;have hml:=hp.length_eq
      refine ze zc [] rfl ?_;refine za rfl ?_;refine yo (b:=1) rfl rfl zu ?_;iterate 2 refine za rfl ?_
      refine yo rfl rfl zu ?_;refine yo rfl rfl zu ?_;refine za rfl ?_;refine zb ?_;obtain ⟨p,hpe⟩ : ∃ x,x = b2 - 1 - (p - a2):=⟨_,rfl⟩;rw [← hpe];have hv1 : a2≤p:=(by omega);have hv2 : p < b2:=(by omega)
      refine z4 zc [] rfl ?_;refine za rfl ?_;refine zb ?_;refine zo ?_;refine ze zc [] rfl ?_;iterate 2 refine za rfl ?_
      refine' zx (d:=64) [_,_] rfl ?_ rfl ?_
      rotate_left
      ·refine zw rfl rfl (fun hb15_1=>?_) (fun hb15_1=>?_)
       ·have ghb15_1:=hb15_1
        try simp only [zf,Bool.not_true,Bool.not_false] at ghb15_1
        refine za rfl ?_;refine zh rfl (fun _=>rfl) ?_;exact zb ⟨rfl,rfl⟩
       ·exact zh rfl (fun h=>absurd (h.symm.trans hb15_1) (by decide)) (zb ⟨rfl,rfl⟩)
      refine za rfl ?_;refine' zx (d:=68) [_,_,_] rfl ?_ rfl ?_
      rotate_left
      ·refine zw rfl rfl (fun hb15_4=>?_) (fun hb15_4=>?_)
       ·have ghb15_4:=hb15_4
        try simp only [zf,Bool.not_true,Bool.not_false] at ghb15_4
        refine za rfl ?_;refine zd rfl rfl hb15_4 ?_;refine za rfl ?_;refine zh rfl (fun _=>rfl) ?_;exact zb ⟨rfl,rfl⟩
       ·refine zl rfl rfl hb15_4 ?_;exact zh rfl (fun h=>absurd (h.symm.trans hb15_4) (by decide)) (zb ⟨rfl,rfl⟩)
      refine zb ?_;refine zi rfl (fun hc4=>?_) (fun hc4=>?_)
      ·(try simp only [zf] at hc4)
       refine ze zc [] rfl ?_;iterate 3 refine za rfl ?_
       refine zq rfl rfl (CallT.frame (zc2 m N a2 b2 (hp.length_eq.trans hN) zu h2 zu) [0] rfl z3 z3 ?_)
       rintro _ _ ⟨q,m,rfl,hq,rfl⟩;refine frK zy zy ?_;refine zb ?_;have hp:=hq.trans hp;have hml:=hp.length_eq
       refine zi rfl (fun hc5=>?_) (fun hc5=>?_)
       ·(try simp only [zf] at hc5)
        refine yr ?_;exact ⟨trivial,_,rfl,rfl,m,hp,rfl⟩
       ·(try simp only [zf] at hc5)
        refine zt ?_;refine zo ?_;refine yu zc [] [_,_,_,_,_,_,_,_,_,_,_,_,_,_,_] rfl yj yj ?_;iterate 3 refine za rfl ?_
        refine' zx (d:=87) [_,_,_,_,_,_,_,_,_,_,_,_] rfl ?_ rfl ?_
        rotate_left
        ·refine zw rfl rfl (fun hb17_2=>?_) (fun hb17_2=>?_)
         ·have ghb17_2:=hb17_2
          try simp only [zf,Bool.not_true,Bool.not_false] at ghb17_2
          have ha0 : 0 < a2:=(by omega)
          refine za rfl ?_;refine zd rfl rfl hb17_2 ?_;refine za rfl ?_;refine zd rfl rfl hb17_2 ?_;refine yo (b:=1) rfl rfl zu ?_;refine zd rfl rfl hb17_2 ?_;refine z5 rfl rfl rfl rfl rfl rfl rfl zu ?_;refine zd rfl rfl hb17_2 ?_;refine yh rfl rfl rfl yn ?_;refine zd rfl rfl hb17_2 ?_;refine za rfl ?_;refine zd rfl rfl hb17_2 ?_;refine za rfl ?_;refine zd rfl rfl hb17_2 ?_;refine z5 rfl rfl rfl rfl rfl rfl rfl zu ?_;refine zd rfl rfl hb17_2 ?_;refine yh rfl rfl rfl yn ?_;refine zd rfl rfl hb17_2 ?_;refine z6 rfl rfl rfl (wq _ _) ?_;refine zd rfl rfl hb17_2 ?_;refine za rfl ?_;refine zh rfl (fun _=>rfl) ?_;exact zb ⟨rfl,rfl⟩
         ·refine zl rfl rfl hb17_2 ?_;iterate 9 refine zl rfl rfl hb17_2 ?_
          exact zh rfl (fun h=>absurd (h.symm.trans hb17_2) (by decide)) (zb ⟨rfl,rfl⟩)
        iterate 2 refine zb ?_
        refine zi rfl (fun hc6=>?_) (fun hc6=>?_)
        ·(try simp only [zf] at hc6)
         refine ze zc [] rfl ?_;iterate 4 refine za rfl ?_
         refine zq rfl rfl (CallT.frame (uh m N a2 b2 p (hp.length_eq.trans hN) zu h2 ⟨hv1,hv2⟩ zu) [0] rfl z3 z3 ?_)
         rintro _ _ ⟨mid,m,hm1,hm2,rfl,hq,rfl⟩;refine frK zy zy ?_;refine za rfl ?_;refine zb ?_;have hp:=hq.trans hp;have hml:=hp.length_eq
         refine ze zc [] rfl ?_;iterate 2 refine za rfl ?_
         refine zb ?_;refine y7 ?_;refine ⟨mid,b2,lm,wb,wp,m,by (try dsimp only);omega,?_,(by refine ⟨[some 0],rfl,yb,ya,?_,?_⟩ <;> (repeat' first | exact trivial | exact yc | exact yd | exact z9 rfl | refine zn ?_ ?_ | refine zk rfl ?_ ?_ | refine zj ?_ ?_ | refine ye rfl ?_ | fail) <;> first | exact yv | (first | exact Cv.slc rfl (.inl rfl) | exact CvL.pure (zg _ _) | exact Cv.pure rfl))⟩
         exact ⟨by omega,by omega,by omega,by omega,hp⟩
        ·(try simp only [zf] at hc6)
         refine zt ?_;refine ze zc [] rfl ?_;iterate 4 refine za rfl ?_
         refine zq rfl rfl (CallT.frame (r7 m N a2 b2 p (hp.length_eq.trans hN) zu h2 ⟨hv1,hv2⟩ zu) [0] rfl z3 z3 ?_)
         rintro _ _ ⟨mid,q2,m,hm1,hm2,rfl,hq,rfl⟩;refine frK zy zy ?_;iterate 5 refine za rfl ?_
         refine zb ?_;have hp:=hq.trans hp;have hml:=hp.length_eq
         refine ze zc [] rfl ?_;iterate 2 refine za rfl ?_
         refine zb ?_;refine ze zc [] rfl ?_;iterate 2 refine za rfl ?_
         refine yo rfl rfl zu ?_;iterate 2 refine za rfl ?_
         refine yo rfl rfl zu ?_;iterate 2 refine za rfl ?_
         refine zb ?_;refine ze zc [] rfl ?_;refine za rfl ?_;refine wz (b:=8) rfl rfl zu zu ?_;refine za rfl ?_;refine zb ?_;refine ze zc [] rfl ?_;iterate 3 refine za rfl ?_
         refine zb ?_;refine zi rfl (fun hc7=>?_) (fun hc7=>?_)
         ·(try simp only [zf] at hc7)
          refine ze zc [] rfl ?_;iterate 4 refine za rfl ?_
          refine zb ?_;refine ze zc [] rfl ?_;iterate 4 refine za rfl ?_
          refine zq rfl rfl (CallT.frame (ih (mid - a2) zu m N a2 mid lm (hp.length_eq.trans hN) hm1 zu hl h3 (Nat.le_refl _)) [0] rfl z3 z3 ?_)
          rintro _ _ ⟨rfl,m,hq,rfl⟩;refine frK zy zy ?_;refine zb ?_;have hp:=hq.trans hp
          refine z4 zc [] rfl ?_;refine za rfl ?_;refine ym (b:=1) rfl rfl zu ?_;refine za rfl ?_;refine zb ?_;refine ⟨mid + 1,b2,lm,_,q2,m,by (try dsimp only);omega,?_,(by refine ⟨[some 0],rfl,yb,ya,?_,?_⟩ <;> (repeat' first | exact trivial | exact yc | exact yd | exact z9 rfl | refine zn ?_ ?_ | refine zk rfl ?_ ?_ | refine zj ?_ ?_ | refine ye rfl ?_ | fail) <;> first | exact yv | (first | exact Cv.slc rfl (.inl rfl) | exact CvL.pure (zg _ _) | exact Cv.pure rfl))⟩
          exact ⟨by omega,by omega,by omega,by omega,hp⟩
         ·(try simp only [zf] at hc7)
          refine ze zc [] rfl ?_;iterate 4 refine za rfl ?_
          refine zb ?_;refine ze zc [] rfl ?_;iterate 2 refine za rfl ?_
          refine ym (b:=1) rfl rfl zu ?_;iterate 2 refine za rfl ?_
          refine zq rfl rfl (CallT.frame (ih (b2 - (mid + 1)) zu m N (mid + 1) b2 lm (hp.length_eq.trans hN) zu h2 hl h3 (Nat.le_refl _)) [0] rfl z3 z3 ?_)
          rintro _ _ ⟨rfl,m,hq,rfl⟩;refine frK zy zy ?_;refine zb ?_;have hp:=hq.trans hp
          refine z4 zc [] rfl ?_;iterate 2 refine za rfl ?_
          refine zb ?_;refine ⟨a2,mid,lm,_,q2,m,by (try dsimp only);omega,?_,(by refine ⟨[some 0],rfl,yb,ya,?_,?_⟩ <;> (repeat' first | exact trivial | exact yc | exact yd | exact z9 rfl | refine zn ?_ ?_ | refine zk rfl ?_ ?_ | refine zj ?_ ?_ | refine ye rfl ?_ | fail) <;> first | exact yv | (first | exact Cv.slc rfl (.inl rfl) | exact CvL.pure (zg _ _) | exact Cv.pure rfl))⟩
          exact ⟨by omega,by omega,by omega,by omega,hp⟩
      ·(try simp only [zf] at hc4)
       refine zt ?_;refine zo ?_;refine yu zc [] [_,_,_,_,_,_,_,_,_,_,_,_,_,_,_] rfl yj yj ?_;iterate 3 refine za rfl ?_
       refine' zx (d:=87) [_,_,_,_,_,_,_,_,_,_,_,_] rfl ?_ rfl ?_
       rotate_left
       ·refine zw rfl rfl (fun hb17_2=>?_) (fun hb17_2=>?_)
        ·have ghb17_2:=hb17_2
         try simp only [zf,Bool.not_true,Bool.not_false] at ghb17_2
         have ha0 : 0 < a2:=(by omega)
         refine za rfl ?_;refine zd rfl rfl hb17_2 ?_;refine za rfl ?_;refine zd rfl rfl hb17_2 ?_;refine yo (b:=1) rfl rfl zu ?_;refine zd rfl rfl hb17_2 ?_;refine z5 rfl rfl rfl rfl rfl rfl rfl zu ?_;refine zd rfl rfl hb17_2 ?_;refine yh rfl rfl rfl yn ?_;refine zd rfl rfl hb17_2 ?_;refine za rfl ?_;refine zd rfl rfl hb17_2 ?_;refine za rfl ?_;refine zd rfl rfl hb17_2 ?_;refine z5 rfl rfl rfl rfl rfl rfl rfl zu ?_;refine zd rfl rfl hb17_2 ?_;refine yh rfl rfl rfl yn ?_;refine zd rfl rfl hb17_2 ?_;refine z6 rfl rfl rfl (wq _ _) ?_;refine zd rfl rfl hb17_2 ?_;refine za rfl ?_;refine zh rfl (fun _=>rfl) ?_;exact zb ⟨rfl,rfl⟩
        ·refine zl rfl rfl hb17_2 ?_;iterate 9 refine zl rfl rfl hb17_2 ?_
         exact zh rfl (fun h=>absurd (h.symm.trans hb17_2) (by decide)) (zb ⟨rfl,rfl⟩)
       iterate 2 refine zb ?_
       refine zi rfl (fun hc6=>?_) (fun hc6=>?_)
       ·(try simp only [zf] at hc6)
        refine ze zc [] rfl ?_;iterate 4 refine za rfl ?_
        refine zq rfl rfl (CallT.frame (uh m N a2 b2 p (hp.length_eq.trans hN) zu h2 ⟨hv1,hv2⟩ zu) [0] rfl z3 z3 ?_)
        rintro _ _ ⟨mid,m,hm1,hm2,rfl,hq,rfl⟩;refine frK zy zy ?_;refine za rfl ?_;refine zb ?_;have hp:=hq.trans hp;have hml:=hp.length_eq
        refine ze zc [] rfl ?_;iterate 2 refine za rfl ?_
        refine zb ?_;refine y7 ?_;refine ⟨mid,b2,lm,wb,wp,m,by (try dsimp only);omega,?_,(by refine ⟨[some 0],rfl,yb,ya,?_,?_⟩ <;> (repeat' first | exact trivial | exact yc | exact yd | exact z9 rfl | refine zn ?_ ?_ | refine zk rfl ?_ ?_ | refine zj ?_ ?_ | refine ye rfl ?_ | fail) <;> first | exact yv | (first | exact Cv.slc rfl (.inl rfl) | exact CvL.pure (zg _ _) | exact Cv.pure rfl))⟩
        exact ⟨by omega,by omega,by omega,by omega,hp⟩
       ·(try simp only [zf] at hc6)
        refine zt ?_;refine ze zc [] rfl ?_;iterate 4 refine za rfl ?_
        refine zq rfl rfl (CallT.frame (r7 m N a2 b2 p (hp.length_eq.trans hN) zu h2 ⟨hv1,hv2⟩ zu) [0] rfl z3 z3 ?_)
        rintro _ _ ⟨mid,q2,m,hm1,hm2,rfl,hq,rfl⟩;refine frK zy zy ?_;iterate 5 refine za rfl ?_
        refine zb ?_;have hp:=hq.trans hp;have hml:=hp.length_eq
        refine ze zc [] rfl ?_;iterate 2 refine za rfl ?_
        refine zb ?_;refine ze zc [] rfl ?_;iterate 2 refine za rfl ?_
        refine yo rfl rfl zu ?_;iterate 2 refine za rfl ?_
        refine yo rfl rfl zu ?_;iterate 2 refine za rfl ?_
        refine zb ?_;refine ze zc [] rfl ?_;refine za rfl ?_;refine wz (b:=8) rfl rfl zu zu ?_;refine za rfl ?_;refine zb ?_;refine ze zc [] rfl ?_;iterate 3 refine za rfl ?_
        refine zb ?_;refine zi rfl (fun hc7=>?_) (fun hc7=>?_)
        ·(try simp only [zf] at hc7)
         refine ze zc [] rfl ?_;iterate 4 refine za rfl ?_
         refine zb ?_;refine ze zc [] rfl ?_;iterate 4 refine za rfl ?_
         refine zq rfl rfl (CallT.frame (ih (mid - a2) zu m N a2 mid lm (hp.length_eq.trans hN) hm1 zu hl h3 (Nat.le_refl _)) [0] rfl z3 z3 ?_)
         rintro _ _ ⟨rfl,m,hq,rfl⟩;refine frK zy zy ?_;refine zb ?_;have hp:=hq.trans hp
         refine z4 zc [] rfl ?_;refine za rfl ?_;refine ym (b:=1) rfl rfl zu ?_;refine za rfl ?_;refine zb ?_;refine ⟨mid + 1,b2,lm,_,q2,m,by (try dsimp only);omega,?_,(by refine ⟨[some 0],rfl,yb,ya,?_,?_⟩ <;> (repeat' first | exact trivial | exact yc | exact yd | exact z9 rfl | refine zn ?_ ?_ | refine zk rfl ?_ ?_ | refine zj ?_ ?_ | refine ye rfl ?_ | fail) <;> first | exact yv | (first | exact Cv.slc rfl (.inl rfl) | exact CvL.pure (zg _ _) | exact Cv.pure rfl))⟩
         exact ⟨by omega,by omega,by omega,by omega,hp⟩
        ·(try simp only [zf] at hc7)
         refine ze zc [] rfl ?_;iterate 4 refine za rfl ?_
         refine zb ?_;refine ze zc [] rfl ?_;iterate 2 refine za rfl ?_
         refine ym (b:=1) rfl rfl zu ?_;iterate 2 refine za rfl ?_
         refine zq rfl rfl (CallT.frame (ih (b2 - (mid + 1)) zu m N (mid + 1) b2 lm (hp.length_eq.trans hN) zu h2 hl h3 (Nat.le_refl _)) [0] rfl z3 z3 ?_)
         rintro _ _ ⟨rfl,m,hq,rfl⟩;refine frK zy zy ?_;refine zb ?_;have hp:=hq.trans hp
         refine z4 zc [] rfl ?_;iterate 2 refine za rfl ?_
         refine zb ?_;refine ⟨a2,mid,lm,_,q2,m,by (try dsimp only);omega,?_,(by refine ⟨[some 0],rfl,yb,ya,?_,?_⟩ <;> (repeat' first | exact trivial | exact yc | exact yd | exact z9 rfl | refine zn ?_ ?_ | refine zk rfl ?_ ?_ | refine zj ?_ ?_ | refine ye rfl ?_ | fail) <;> first | exact yv | (first | exact Cv.slc rfl (.inl rfl) | exact CvL.pure (zg _ _) | exact Cv.pure rfl))⟩
         exact ⟨by omega,by omega,by omega,by omega,hp⟩
     ·(try simp only [zf] at hc3)
      refine zt ?_;refine zo ?_;refine ze zc [] rfl ?_;iterate 2 refine za rfl ?_
      refine' zx (d:=64) [_,_] rfl ?_ rfl ?_
      rotate_left
      ·refine zw rfl rfl (fun hb15_1=>?_) (fun hb15_1=>?_)
       ·have ghb15_1:=hb15_1
        try simp only [zf,Bool.not_true,Bool.not_false] at ghb15_1
        refine za rfl ?_;refine zh rfl (fun _=>rfl) ?_;exact zb ⟨rfl,rfl⟩
       ·exact zh rfl (fun h=>absurd (h.symm.trans hb15_1) (by decide)) (zb ⟨rfl,rfl⟩)
      refine za rfl ?_;refine' zx (d:=68) [_,_,_] rfl ?_ rfl ?_
      rotate_left
      ·refine zw rfl rfl (fun hb15_4=>?_) (fun hb15_4=>?_)
       ·have ghb15_4:=hb15_4
        try simp only [zf,Bool.not_true,Bool.not_false] at ghb15_4
        refine za rfl ?_;refine zd rfl rfl hb15_4 ?_;refine za rfl ?_;refine zh rfl (fun _=>rfl) ?_;exact zb ⟨rfl,rfl⟩
       ·refine zl rfl rfl hb15_4 ?_;exact zh rfl (fun h=>absurd (h.symm.trans hb15_4) (by decide)) (zb ⟨rfl,rfl⟩)
      refine zb ?_;refine zi rfl (fun hc4=>?_) (fun hc4=>?_)
      ·(try simp only [zf] at hc4)
       refine ze zc [] rfl ?_;iterate 3 refine za rfl ?_
       refine zq rfl rfl (CallT.frame (zc2 m N a2 b2 (hp.length_eq.trans hN) zu h2 zu) [0] rfl z3 z3 ?_)
       rintro _ _ ⟨q,m,rfl,hq,rfl⟩;refine frK zy zy ?_;refine zb ?_;have hp:=hq.trans hp;have hml:=hp.length_eq
       refine zi rfl (fun hc5=>?_) (fun hc5=>?_)
       ·(try simp only [zf] at hc5)
        refine yr ?_;exact ⟨trivial,_,rfl,rfl,m,hp,rfl⟩
       ·(try simp only [zf] at hc5)
        refine zt ?_;refine zo ?_;refine yu zc [] [_,_,_,_,_,_,_,_,_,_,_,_,_,_,_] rfl yj yj ?_;iterate 3 refine za rfl ?_
        refine' zx (d:=87) [_,_,_,_,_,_,_,_,_,_,_,_] rfl ?_ rfl ?_
        rotate_left
        ·refine zw rfl rfl (fun hb17_2=>?_) (fun hb17_2=>?_)
         ·have ghb17_2:=hb17_2
          try simp only [zf,Bool.not_true,Bool.not_false] at ghb17_2
          have ha0 : 0 < a2:=(by omega)
          refine za rfl ?_;refine zd rfl rfl hb17_2 ?_;refine za rfl ?_;refine zd rfl rfl hb17_2 ?_;refine yo (b:=1) rfl rfl zu ?_;refine zd rfl rfl hb17_2 ?_;refine z5 rfl rfl rfl rfl rfl rfl rfl zu ?_;refine zd rfl rfl hb17_2 ?_;refine yh rfl rfl rfl yn ?_;refine zd rfl rfl hb17_2 ?_;refine za rfl ?_;refine zd rfl rfl hb17_2 ?_;refine za rfl ?_;refine zd rfl rfl hb17_2 ?_;refine z5 rfl rfl rfl rfl rfl rfl rfl zu ?_;refine zd rfl rfl hb17_2 ?_;refine yh rfl rfl rfl yn ?_;refine zd rfl rfl hb17_2 ?_;refine z6 rfl rfl rfl (wq _ _) ?_;refine zd rfl rfl hb17_2 ?_;refine za rfl ?_;refine zh rfl (fun _=>rfl) ?_;exact zb ⟨rfl,rfl⟩
         ·refine zl rfl rfl hb17_2 ?_;iterate 9 refine zl rfl rfl hb17_2 ?_
          exact zh rfl (fun h=>absurd (h.symm.trans hb17_2) (by decide)) (zb ⟨rfl,rfl⟩)
        iterate 2 refine zb ?_
        refine zi rfl (fun hc6=>?_) (fun hc6=>?_)
        ·(try simp only [zf] at hc6)
         refine ze zc [] rfl ?_;iterate 4 refine za rfl ?_
         refine zq rfl rfl (CallT.frame (uh m N a2 b2 p (hp.length_eq.trans hN) zu h2 ⟨hv1,hv2⟩ zu) [0] rfl z3 z3 ?_)
         rintro _ _ ⟨mid,m,hm1,hm2,rfl,hq,rfl⟩;refine frK zy zy ?_;refine za rfl ?_;refine zb ?_;have hp:=hq.trans hp;have hml:=hp.length_eq
         refine ze zc [] rfl ?_;iterate 2 refine za rfl ?_
         refine zb ?_;refine y7 ?_;refine ⟨mid,b2,lm,wb,wp,m,by (try dsimp only);omega,?_,(by refine ⟨[some 0],rfl,yb,ya,?_,?_⟩ <;> (repeat' first | exact trivial | exact yc | exact yd | exact z9 rfl | refine zn ?_ ?_ | refine zk rfl ?_ ?_ | refine zj ?_ ?_ | refine ye rfl ?_ | fail) <;> first | exact yv | (first | exact Cv.slc rfl (.inl rfl) | exact CvL.pure (zg _ _) | exact Cv.pure rfl))⟩
         exact ⟨by omega,by omega,by omega,by omega,hp⟩
        ·(try simp only [zf] at hc6)
         refine zt ?_;refine ze zc [] rfl ?_;iterate 4 refine za rfl ?_
         refine zq rfl rfl (CallT.frame (r7 m N a2 b2 p (hp.length_eq.trans hN) zu h2 ⟨hv1,hv2⟩ zu) [0] rfl z3 z3 ?_)
         rintro _ _ ⟨mid,q2,m,hm1,hm2,rfl,hq,rfl⟩;refine frK zy zy ?_;iterate 5 refine za rfl ?_
         refine zb ?_;have hp:=hq.trans hp;have hml:=hp.length_eq
         refine ze zc [] rfl ?_;iterate 2 refine za rfl ?_
         refine zb ?_;refine ze zc [] rfl ?_;iterate 2 refine za rfl ?_
         refine yo rfl rfl zu ?_;iterate 2 refine za rfl ?_
         refine yo rfl rfl zu ?_;iterate 2 refine za rfl ?_
         refine zb ?_;refine ze zc [] rfl ?_;refine za rfl ?_;refine wz (b:=8) rfl rfl zu zu ?_;refine za rfl ?_;refine zb ?_;refine ze zc [] rfl ?_;iterate 3 refine za rfl ?_
         refine zb ?_;refine zi rfl (fun hc7=>?_) (fun hc7=>?_)
         ·(try simp only [zf] at hc7)
          refine ze zc [] rfl ?_;iterate 4 refine za rfl ?_
          refine zb ?_;refine ze zc [] rfl ?_;iterate 4 refine za rfl ?_
          refine zq rfl rfl (CallT.frame (ih (mid - a2) zu m N a2 mid lm (hp.length_eq.trans hN) hm1 zu hl h3 (Nat.le_refl _)) [0] rfl z3 z3 ?_)
          rintro _ _ ⟨rfl,m,hq,rfl⟩;refine frK zy zy ?_;refine zb ?_;have hp:=hq.trans hp
          refine z4 zc [] rfl ?_;refine za rfl ?_;refine ym (b:=1) rfl rfl zu ?_;refine za rfl ?_;refine zb ?_;refine ⟨mid + 1,b2,lm,_,q2,m,by (try dsimp only);omega,?_,(by refine ⟨[some 0],rfl,yb,ya,?_,?_⟩ <;> (repeat' first | exact trivial | exact yc | exact yd | exact z9 rfl | refine zn ?_ ?_ | refine zk rfl ?_ ?_ | refine zj ?_ ?_ | refine ye rfl ?_ | fail) <;> first | exact yv | (first | exact Cv.slc rfl (.inl rfl) | exact CvL.pure (zg _ _) | exact Cv.pure rfl))⟩
          exact ⟨by omega,by omega,by omega,by omega,hp⟩
         ·(try simp only [zf] at hc7)
          refine ze zc [] rfl ?_;iterate 4 refine za rfl ?_
          refine zb ?_;refine ze zc [] rfl ?_;iterate 2 refine za rfl ?_
          refine ym (b:=1) rfl rfl zu ?_;iterate 2 refine za rfl ?_
          refine zq rfl rfl (CallT.frame (ih (b2 - (mid + 1)) zu m N (mid + 1) b2 lm (hp.length_eq.trans hN) zu h2 hl h3 (Nat.le_refl _)) [0] rfl z3 z3 ?_)
          rintro _ _ ⟨rfl,m,hq,rfl⟩;refine frK zy zy ?_;refine zb ?_;have hp:=hq.trans hp
          refine z4 zc [] rfl ?_;iterate 2 refine za rfl ?_
          refine zb ?_;refine ⟨a2,mid,lm,_,q2,m,by (try dsimp only);omega,?_,(by refine ⟨[some 0],rfl,yb,ya,?_,?_⟩ <;> (repeat' first | exact trivial | exact yc | exact yd | exact z9 rfl | refine zn ?_ ?_ | refine zk rfl ?_ ?_ | refine zj ?_ ?_ | refine ye rfl ?_ | fail) <;> first | exact yv | (first | exact Cv.slc rfl (.inl rfl) | exact CvL.pure (zg _ _) | exact Cv.pure rfl))⟩
          exact ⟨by omega,by omega,by omega,by omega,hp⟩
      ·(try simp only [zf] at hc4)
       refine zt ?_;refine zo ?_;refine yu zc [] [_,_,_,_,_,_,_,_,_,_,_,_,_,_,_] rfl yj yj ?_;iterate 3 refine za rfl ?_
       refine' zx (d:=87) [_,_,_,_,_,_,_,_,_,_,_,_] rfl ?_ rfl ?_
       rotate_left
       ·refine zw rfl rfl (fun hb17_2=>?_) (fun hb17_2=>?_)
        ·have ghb17_2:=hb17_2
         try simp only [zf,Bool.not_true,Bool.not_false] at ghb17_2
         have ha0 : 0 < a2:=(by omega)
         refine za rfl ?_;refine zd rfl rfl hb17_2 ?_;refine za rfl ?_;refine zd rfl rfl hb17_2 ?_;refine yo (b:=1) rfl rfl zu ?_;refine zd rfl rfl hb17_2 ?_;refine z5 rfl rfl rfl rfl rfl rfl rfl zu ?_;refine zd rfl rfl hb17_2 ?_;refine yh rfl rfl rfl yn ?_;refine zd rfl rfl hb17_2 ?_;refine za rfl ?_;refine zd rfl rfl hb17_2 ?_;refine za rfl ?_;refine zd rfl rfl hb17_2 ?_;refine z5 rfl rfl rfl rfl rfl rfl rfl zu ?_;refine zd rfl rfl hb17_2 ?_;refine yh rfl rfl rfl yn ?_;refine zd rfl rfl hb17_2 ?_;refine z6 rfl rfl rfl (wq _ _) ?_;refine zd rfl rfl hb17_2 ?_;refine za rfl ?_;refine zh rfl (fun _=>rfl) ?_;exact zb ⟨rfl,rfl⟩
        ·refine zl rfl rfl hb17_2 ?_;iterate 9 refine zl rfl rfl hb17_2 ?_
         exact zh rfl (fun h=>absurd (h.symm.trans hb17_2) (by decide)) (zb ⟨rfl,rfl⟩)
       iterate 2 refine zb ?_
       refine zi rfl (fun hc6=>?_) (fun hc6=>?_)
       ·(try simp only [zf] at hc6)
        refine ze zc [] rfl ?_;iterate 4 refine za rfl ?_
        refine zq rfl rfl (CallT.frame (uh m N a2 b2 p (hp.length_eq.trans hN) zu h2 ⟨hv1,hv2⟩ zu) [0] rfl z3 z3 ?_)
        rintro _ _ ⟨mid,m,hm1,hm2,rfl,hq,rfl⟩;refine frK zy zy ?_;refine za rfl ?_;refine zb ?_;have hp:=hq.trans hp;have hml:=hp.length_eq
        refine ze zc [] rfl ?_;iterate 2 refine za rfl ?_
        refine zb ?_;refine y7 ?_;refine ⟨mid,b2,lm,wb,wp,m,by (try dsimp only);omega,?_,(by refine ⟨[some 0],rfl,yb,ya,?_,?_⟩ <;> (repeat' first | exact trivial | exact yc | exact yd | exact z9 rfl | refine zn ?_ ?_ | refine zk rfl ?_ ?_ | refine zj ?_ ?_ | refine ye rfl ?_ | fail) <;> first | exact yv | (first | exact Cv.slc rfl (.inl rfl) | exact CvL.pure (zg _ _) | exact Cv.pure rfl))⟩
        exact ⟨by omega,by omega,by omega,by omega,hp⟩
       ·(try simp only [zf] at hc6)
        refine zt ?_;refine ze zc [] rfl ?_;iterate 4 refine za rfl ?_
        refine zq rfl rfl (CallT.frame (r7 m N a2 b2 p (hp.length_eq.trans hN) zu h2 ⟨hv1,hv2⟩ zu) [0] rfl z3 z3 ?_)
        rintro _ _ ⟨mid,q2,m,hm1,hm2,rfl,hq,rfl⟩;refine frK zy zy ?_;iterate 5 refine za rfl ?_
        refine zb ?_;have hp:=hq.trans hp;have hml:=hp.length_eq
        refine ze zc [] rfl ?_;iterate 2 refine za rfl ?_
        refine zb ?_;refine ze zc [] rfl ?_;iterate 2 refine za rfl ?_
        refine yo rfl rfl zu ?_;iterate 2 refine za rfl ?_
        refine yo rfl rfl zu ?_;iterate 2 refine za rfl ?_
        refine zb ?_;refine ze zc [] rfl ?_;refine za rfl ?_;refine wz (b:=8) rfl rfl zu zu ?_;refine za rfl ?_;refine zb ?_;refine ze zc [] rfl ?_;iterate 3 refine za rfl ?_
        refine zb ?_;refine zi rfl (fun hc7=>?_) (fun hc7=>?_)
        ·(try simp only [zf] at hc7)
         refine ze zc [] rfl ?_;iterate 4 refine za rfl ?_
         refine zb ?_;refine ze zc [] rfl ?_;iterate 4 refine za rfl ?_
         refine zq rfl rfl (CallT.frame (ih (mid - a2) zu m N a2 mid lm (hp.length_eq.trans hN) hm1 zu hl h3 (Nat.le_refl _)) [0] rfl z3 z3 ?_)
         rintro _ _ ⟨rfl,m,hq,rfl⟩;refine frK zy zy ?_;refine zb ?_;have hp:=hq.trans hp
         refine z4 zc [] rfl ?_;refine za rfl ?_;refine ym (b:=1) rfl rfl zu ?_;refine za rfl ?_;refine zb ?_;refine ⟨mid + 1,b2,lm,_,q2,m,by (try dsimp only);omega,?_,(by refine ⟨[some 0],rfl,yb,ya,?_,?_⟩ <;> (repeat' first | exact trivial | exact yc | exact yd | exact z9 rfl | refine zn ?_ ?_ | refine zk rfl ?_ ?_ | refine zj ?_ ?_ | refine ye rfl ?_ | fail) <;> first | exact yv | (first | exact Cv.slc rfl (.inl rfl) | exact CvL.pure (zg _ _) | exact Cv.pure rfl))⟩
         exact ⟨by omega,by omega,by omega,by omega,hp⟩
        ·(try simp only [zf] at hc7)
         refine ze zc [] rfl ?_;iterate 4 refine za rfl ?_
         refine zb ?_;refine ze zc [] rfl ?_;iterate 2 refine za rfl ?_
         refine ym (b:=1) rfl rfl zu ?_;iterate 2 refine za rfl ?_
         refine zq rfl rfl (CallT.frame (ih (b2 - (mid + 1)) zu m N (mid + 1) b2 lm (hp.length_eq.trans hN) zu h2 hl h3 (Nat.le_refl _)) [0] rfl z3 z3 ?_)
         rintro _ _ ⟨rfl,m,hq,rfl⟩;refine frK zy zy ?_;refine zb ?_;have hp:=hq.trans hp
         refine z4 zc [] rfl ?_;iterate 2 refine za rfl ?_
         refine zb ?_;refine ⟨a2,mid,lm,_,q2,m,by (try dsimp only);omega,?_,(by refine ⟨[some 0],rfl,yb,ya,?_,?_⟩ <;> (repeat' first | exact trivial | exact yc | exact yd | exact z9 rfl | refine zn ?_ ?_ | refine zk rfl ?_ ?_ | refine zj ?_ ?_ | refine ye rfl ?_ | fail) <;> first | exact yv | (first | exact Cv.slc rfl (.inl rfl) | exact CvL.pure (zg _ _) | exact Cv.pure rfl))⟩
         exact ⟨by omega,by omega,by omega,by omega,hp⟩
    ·(try simp only [zf] at hc2)
     refine zt ?_;refine ze zc [] rfl ?_;iterate 3 refine za rfl ?_
     refine zq rfl rfl (CallT.frame (zf3 m N a2 b2 (hp.length_eq.trans hN) zu h2 zu) [0] rfl z3 z3 ?_)
     rintro _ _ ⟨p,hint,hv1,hv2,rfl,rfl⟩;refine frK zy zy ?_;iterate 5 refine za rfl ?_
     refine zb ?_;refine zo ?_;refine ze zc [] rfl ?_;iterate 2 refine za rfl ?_
     refine zb ?_;refine zi rfl (fun hc3=>?_) (fun hc3=>?_)
     ·(try simp only [zf] at hc3)
      refine ze zc [] rfl ?_;iterate 3 refine za rfl ?_
      refine zq rfl rfl (CallT.frame (rev_t m N a2 b2 (hp.length_eq.trans hN) zu h2 zu) [0] rfl z3 z3 ?_)
      rintro _ _ ⟨rfl,m,hq,rfl⟩;refine frK zy zy ?_;refine zb ?_;have hp:=hq.trans hp;have hml:=hp.length_eq
      refine ze zc [] rfl ?_;refine za rfl ?_;refine yo (b:=1) rfl rfl zu ?_;iterate 2 refine za rfl ?_
      refine yo rfl rfl zu ?_;refine yo rfl rfl zu ?_;refine za rfl ?_;refine zb ?_;obtain ⟨p,hpe⟩ : ∃ x,x = b2 - 1 - (p - a2):=⟨_,rfl⟩;rw [← hpe];have hv1 : a2≤p:=(by omega);have hv2 : p < b2:=(by omega)
      refine z4 zc [] rfl ?_;refine za rfl ?_;refine zb ?_;refine zo ?_;refine ze zc [] rfl ?_;iterate 2 refine za rfl ?_
      refine' zx (d:=64) [_,_] rfl ?_ rfl ?_
      rotate_left
      ·refine zw rfl rfl (fun hb15_1=>?_) (fun hb15_1=>?_)
       ·have ghb15_1:=hb15_1
        try simp only [zf,Bool.not_true,Bool.not_false] at ghb15_1
        refine za rfl ?_;refine zh rfl (fun _=>rfl) ?_;exact zb ⟨rfl,rfl⟩
       ·exact zh rfl (fun h=>absurd (h.symm.trans hb15_1) (by decide)) (zb ⟨rfl,rfl⟩)
      refine za rfl ?_;refine' zx (d:=68) [_,_,_] rfl ?_ rfl ?_
      rotate_left
      ·refine zw rfl rfl (fun hb15_4=>?_) (fun hb15_4=>?_)
       ·have ghb15_4:=hb15_4
        try simp only [zf,Bool.not_true,Bool.not_false] at ghb15_4
        refine za rfl ?_;refine zd rfl rfl hb15_4 ?_;refine za rfl ?_;refine zh rfl (fun _=>rfl) ?_;exact zb ⟨rfl,rfl⟩
       ·refine zl rfl rfl hb15_4 ?_;exact zh rfl (fun h=>absurd (h.symm.trans hb15_4) (by decide)) (zb ⟨rfl,rfl⟩)
      refine zb ?_;refine zi rfl (fun hc4=>?_) (fun hc4=>?_)
      ·(try simp only [zf] at hc4)
       refine ze zc [] rfl ?_;iterate 3 refine za rfl ?_
       refine zq rfl rfl (CallT.frame (zc2 m N a2 b2 (hp.length_eq.trans hN) zu h2 zu) [0] rfl z3 z3 ?_)
       rintro _ _ ⟨q,m,rfl,hq,rfl⟩;refine frK zy zy ?_;refine zb ?_;have hp:=hq.trans hp;have hml:=hp.length_eq
       refine zi rfl (fun hc5=>?_) (fun hc5=>?_)
       ·(try simp only [zf] at hc5)
        refine yr ?_;exact ⟨trivial,_,rfl,rfl,m,hp,rfl⟩
       ·(try simp only [zf] at hc5)
        refine zt ?_;refine zo ?_;refine yu zc [] [_,_,_,_,_,_,_,_,_,_,_,_,_,_,_] rfl yj yj ?_;iterate 3 refine za rfl ?_
        refine' zx (d:=87) [_,_,_,_,_,_,_,_,_,_,_,_] rfl ?_ rfl ?_
        rotate_left
        ·refine zw rfl rfl (fun hb17_2=>?_) (fun hb17_2=>?_)
         ·have ghb17_2:=hb17_2
          try simp only [zf,Bool.not_true,Bool.not_false] at ghb17_2
          have ha0 : 0 < a2:=(by omega)
          refine za rfl ?_;refine zd rfl rfl hb17_2 ?_;refine za rfl ?_;refine zd rfl rfl hb17_2 ?_;refine yo (b:=1) rfl rfl zu ?_;refine zd rfl rfl hb17_2 ?_;refine z5 rfl rfl rfl rfl rfl rfl rfl zu ?_;refine zd rfl rfl hb17_2 ?_;refine yh rfl rfl rfl yn ?_;refine zd rfl rfl hb17_2 ?_;refine za rfl ?_;refine zd rfl rfl hb17_2 ?_;refine za rfl ?_;refine zd rfl rfl hb17_2 ?_;refine z5 rfl rfl rfl rfl rfl rfl rfl zu ?_;refine zd rfl rfl hb17_2 ?_;refine yh rfl rfl rfl yn ?_;refine zd rfl rfl hb17_2 ?_;refine z6 rfl rfl rfl (wq _ _) ?_;refine zd rfl rfl hb17_2 ?_;refine za rfl ?_;refine zh rfl (fun _=>rfl) ?_;exact zb ⟨rfl,rfl⟩
         ·refine zl rfl rfl hb17_2 ?_;iterate 9 refine zl rfl rfl hb17_2 ?_
          exact zh rfl (fun h=>absurd (h.symm.trans hb17_2) (by decide)) (zb ⟨rfl,rfl⟩)
        iterate 2 refine zb ?_
        refine zi rfl (fun hc6=>?_) (fun hc6=>?_)
        ·(try simp only [zf] at hc6)
         refine ze zc [] rfl ?_;iterate 4 refine za rfl ?_
         refine zq rfl rfl (CallT.frame (uh m N a2 b2 p (hp.length_eq.trans hN) zu h2 ⟨hv1,hv2⟩ zu) [0] rfl z3 z3 ?_)
         rintro _ _ ⟨mid,m,hm1,hm2,rfl,hq,rfl⟩;refine frK zy zy ?_;refine za rfl ?_;refine zb ?_;have hp:=hq.trans hp;have hml:=hp.length_eq
         refine ze zc [] rfl ?_;iterate 2 refine za rfl ?_
         refine zb ?_;refine y7 ?_;refine ⟨mid,b2,lm,wb,wp,m,by (try dsimp only);omega,?_,(by refine ⟨[some 0],rfl,yb,ya,?_,?_⟩ <;> (repeat' first | exact trivial | exact yc | exact yd | exact z9 rfl | refine zn ?_ ?_ | refine zk rfl ?_ ?_ | refine zj ?_ ?_ | refine ye rfl ?_ | fail) <;> first | exact yv | (first | exact Cv.slc rfl (.inl rfl) | exact CvL.pure (zg _ _) | exact Cv.pure rfl))⟩
         exact ⟨by omega,by omega,by omega,by omega,hp⟩
        ·(try simp only [zf] at hc6)
         refine zt ?_;refine ze zc [] rfl ?_;iterate 4 refine za rfl ?_
         refine zq rfl rfl (CallT.frame (r7 m N a2 b2 p (hp.length_eq.trans hN) zu h2 ⟨hv1,hv2⟩ zu) [0] rfl z3 z3 ?_)
         rintro _ _ ⟨mid,q2,m,hm1,hm2,rfl,hq,rfl⟩;refine frK zy zy ?_;iterate 5 refine za rfl ?_
         refine zb ?_;have hp:=hq.trans hp;have hml:=hp.length_eq
         refine ze zc [] rfl ?_;iterate 2 refine za rfl ?_
         refine zb ?_;refine ze zc [] rfl ?_;iterate 2 refine za rfl ?_
         refine yo rfl rfl zu ?_;iterate 2 refine za rfl ?_
         refine yo rfl rfl zu ?_;iterate 2 refine za rfl ?_
         refine zb ?_;refine ze zc [] rfl ?_;refine za rfl ?_;refine wz (b:=8) rfl rfl zu zu ?_;refine za rfl ?_;refine zb ?_;refine ze zc [] rfl ?_;iterate 3 refine za rfl ?_
         refine zb ?_;refine zi rfl (fun hc7=>?_) (fun hc7=>?_)
         ·(try simp only [zf] at hc7)
          refine ze zc [] rfl ?_;iterate 4 refine za rfl ?_
          refine zb ?_;refine ze zc [] rfl ?_;iterate 4 refine za rfl ?_
          refine zq rfl rfl (CallT.frame (ih (mid - a2) zu m N a2 mid lm (hp.length_eq.trans hN) hm1 zu hl h3 (Nat.le_refl _)) [0] rfl z3 z3 ?_)
          rintro _ _ ⟨rfl,m,hq,rfl⟩;refine frK zy zy ?_;refine zb ?_;have hp:=hq.trans hp
          refine z4 zc [] rfl ?_;refine za rfl ?_;refine ym (b:=1) rfl rfl zu ?_;refine za rfl ?_;refine zb ?_;refine ⟨mid + 1,b2,lm,_,q2,m,by (try dsimp only);omega,?_,(by refine ⟨[some 0],rfl,yb,ya,?_,?_⟩ <;> (repeat' first | exact trivial | exact yc | exact yd | exact z9 rfl | refine zn ?_ ?_ | refine zk rfl ?_ ?_ | refine zj ?_ ?_ | refine ye rfl ?_ | fail) <;> first | exact yv | (first | exact Cv.slc rfl (.inl rfl) | exact CvL.pure (zg _ _) | exact Cv.pure rfl))⟩
          exact ⟨by omega,by omega,by omega,by omega,hp⟩
         ·(try simp only [zf] at hc7)
          refine ze zc [] rfl ?_;iterate 4 refine za rfl ?_
          refine zb ?_;refine ze zc [] rfl ?_;iterate 2 refine za rfl ?_
          refine ym (b:=1) rfl rfl zu ?_;iterate 2 refine za rfl ?_
          refine zq rfl rfl (CallT.frame (ih (b2 - (mid + 1)) zu m N (mid + 1) b2 lm (hp.length_eq.trans hN) zu h2 hl h3 (Nat.le_refl _)) [0] rfl z3 z3 ?_)
          rintro _ _ ⟨rfl,m,hq,rfl⟩;refine frK zy zy ?_;refine zb ?_;have hp:=hq.trans hp
          refine z4 zc [] rfl ?_;iterate 2 refine za rfl ?_
          refine zb ?_;refine ⟨a2,mid,lm,_,q2,m,by (try dsimp only);omega,?_,(by refine ⟨[some 0],rfl,yb,ya,?_,?_⟩ <;> (repeat' first | exact trivial | exact yc | exact yd | exact z9 rfl | refine zn ?_ ?_ | refine zk rfl ?_ ?_ | refine zj ?_ ?_ | refine ye rfl ?_ | fail) <;> first | exact yv | (first | exact Cv.slc rfl (.inl rfl) | exact CvL.pure (zg _ _) | exact Cv.pure rfl))⟩
          exact ⟨by omega,by omega,by omega,by omega,hp⟩
      ·(try simp only [zf] at hc4)
       refine zt ?_;refine zo ?_;refine yu zc [] [_,_,_,_,_,_,_,_,_,_,_,_,_,_,_] rfl yj yj ?_;iterate 3 refine za rfl ?_
       refine' zx (d:=87) [_,_,_,_,_,_,_,_,_,_,_,_] rfl ?_ rfl ?_
       rotate_left
       ·refine zw rfl rfl (fun hb17_2=>?_) (fun hb17_2=>?_)
        ·have ghb17_2:=hb17_2
         try simp only [zf,Bool.not_true,Bool.not_false] at ghb17_2
         have ha0 : 0 < a2:=(by omega)
         refine za rfl ?_;refine zd rfl rfl hb17_2 ?_;refine za rfl ?_;refine zd rfl rfl hb17_2 ?_;refine yo (b:=1) rfl rfl zu ?_;refine zd rfl rfl hb17_2 ?_;refine z5 rfl rfl rfl rfl rfl rfl rfl zu ?_;refine zd rfl rfl hb17_2 ?_;refine yh rfl rfl rfl yn ?_;refine zd rfl rfl hb17_2 ?_;refine za rfl ?_;refine zd rfl rfl hb17_2 ?_;refine za rfl ?_;refine zd rfl rfl hb17_2 ?_;refine z5 rfl rfl rfl rfl rfl rfl rfl zu ?_;refine zd rfl rfl hb17_2 ?_;refine yh rfl rfl rfl yn ?_;refine zd rfl rfl hb17_2 ?_;refine z6 rfl rfl rfl (wq _ _) ?_;refine zd rfl rfl hb17_2 ?_;refine za rfl ?_;refine zh rfl (fun _=>rfl) ?_;exact zb ⟨rfl,rfl⟩
        ·refine zl rfl rfl hb17_2 ?_;iterate 9 refine zl rfl rfl hb17_2 ?_
         exact zh rfl (fun h=>absurd (h.symm.trans hb17_2) (by decide)) (zb ⟨rfl,rfl⟩)
       iterate 2 refine zb ?_
       refine zi rfl (fun hc6=>?_) (fun hc6=>?_)
       ·(try simp only [zf] at hc6)
        refine ze zc [] rfl ?_;iterate 4 refine za rfl ?_
        refine zq rfl rfl (CallT.frame (uh m N a2 b2 p (hp.length_eq.trans hN) zu h2 ⟨hv1,hv2⟩ zu) [0] rfl z3 z3 ?_)
        rintro _ _ ⟨mid,m,hm1,hm2,rfl,hq,rfl⟩;refine frK zy zy ?_;refine za rfl ?_;refine zb ?_;have hp:=hq.trans hp;have hml:=hp.length_eq
        refine ze zc [] rfl ?_;iterate 2 refine za rfl ?_
        refine zb ?_;refine y7 ?_;refine ⟨mid,b2,lm,wb,wp,m,by (try dsimp only);omega,?_,(by refine ⟨[some 0],rfl,yb,ya,?_,?_⟩ <;> (repeat' first | exact trivial | exact yc | exact yd | exact z9 rfl | refine zn ?_ ?_ | refine zk rfl ?_ ?_ | refine zj ?_ ?_ | refine ye rfl ?_ | fail) <;> first | exact yv | (first | exact Cv.slc rfl (.inl rfl) | exact CvL.pure (zg _ _) | exact Cv.pure rfl))⟩
        exact ⟨by omega,by omega,by omega,by omega,hp⟩
       ·(try simp only [zf] at hc6)
        refine zt ?_;refine ze zc [] rfl ?_;iterate 4 refine za rfl ?_
        refine zq rfl rfl (CallT.frame (r7 m N a2 b2 p (hp.length_eq.trans hN) zu h2 ⟨hv1,hv2⟩ zu) [0] rfl z3 z3 ?_)
        rintro _ _ ⟨mid,q2,m,hm1,hm2,rfl,hq,rfl⟩;refine frK zy zy ?_;iterate 5 refine za rfl ?_
        refine zb ?_;have hp:=hq.trans hp;have hml:=hp.length_eq
        refine ze zc [] rfl ?_;iterate 2 refine za rfl ?_
        refine zb ?_;refine ze zc [] rfl ?_;iterate 2 refine za rfl ?_
        refine yo rfl rfl zu ?_;iterate 2 refine za rfl ?_
        refine yo rfl rfl zu ?_;iterate 2 refine za rfl ?_
        refine zb ?_;refine ze zc [] rfl ?_;refine za rfl ?_;refine wz (b:=8) rfl rfl zu zu ?_;refine za rfl ?_;refine zb ?_;refine ze zc [] rfl ?_;iterate 3 refine za rfl ?_
        refine zb ?_;refine zi rfl (fun hc7=>?_) (fun hc7=>?_)
        ·(try simp only [zf] at hc7)
         refine ze zc [] rfl ?_;iterate 4 refine za rfl ?_
         refine zb ?_;refine ze zc [] rfl ?_;iterate 4 refine za rfl ?_
         refine zq rfl rfl (CallT.frame (ih (mid - a2) zu m N a2 mid lm (hp.length_eq.trans hN) hm1 zu hl h3 (Nat.le_refl _)) [0] rfl z3 z3 ?_)
         rintro _ _ ⟨rfl,m,hq,rfl⟩;refine frK zy zy ?_;refine zb ?_;have hp:=hq.trans hp
         refine z4 zc [] rfl ?_;refine za rfl ?_;refine ym (b:=1) rfl rfl zu ?_;refine za rfl ?_;refine zb ?_;refine ⟨mid + 1,b2,lm,_,q2,m,by (try dsimp only);omega,?_,(by refine ⟨[some 0],rfl,yb,ya,?_,?_⟩ <;> (repeat' first | exact trivial | exact yc | exact yd | exact z9 rfl | refine zn ?_ ?_ | refine zk rfl ?_ ?_ | refine zj ?_ ?_ | refine ye rfl ?_ | fail) <;> first | exact yv | (first | exact Cv.slc rfl (.inl rfl) | exact CvL.pure (zg _ _) | exact Cv.pure rfl))⟩
         exact ⟨by omega,by omega,by omega,by omega,hp⟩
        ·(try simp only [zf] at hc7)
         refine ze zc [] rfl ?_;iterate 4 refine za rfl ?_
         refine zb ?_;refine ze zc [] rfl ?_;iterate 2 refine za rfl ?_
         refine ym (b:=1) rfl rfl zu ?_;iterate 2 refine za rfl ?_
         refine zq rfl rfl (CallT.frame (ih (b2 - (mid + 1)) zu m N (mid + 1) b2 lm (hp.length_eq.trans hN) zu h2 hl h3 (Nat.le_refl _)) [0] rfl z3 z3 ?_)
         rintro _ _ ⟨rfl,m,hq,rfl⟩;refine frK zy zy ?_;refine zb ?_;have hp:=hq.trans hp
         refine z4 zc [] rfl ?_;iterate 2 refine za rfl ?_
         refine zb ?_;refine ⟨a2,mid,lm,_,q2,m,by (try dsimp only);omega,?_,(by refine ⟨[some 0],rfl,yb,ya,?_,?_⟩ <;> (repeat' first | exact trivial | exact yc | exact yd | exact z9 rfl | refine zn ?_ ?_ | refine zk rfl ?_ ?_ | refine zj ?_ ?_ | refine ye rfl ?_ | fail) <;> first | exact yv | (first | exact Cv.slc rfl (.inl rfl) | exact CvL.pure (zg _ _) | exact Cv.pure rfl))⟩
         exact ⟨by omega,by omega,by omega,by omega,hp⟩
     ·(try simp only [zf] at hc3)
      refine zt ?_;refine zo ?_;refine ze zc [] rfl ?_;iterate 2 refine za rfl ?_
      refine' zx (d:=64) [_,_] rfl ?_ rfl ?_
      rotate_left
      ·refine zw rfl rfl (fun hb15_1=>?_) (fun hb15_1=>?_)
       ·have ghb15_1:=hb15_1
        try simp only [zf,Bool.not_true,Bool.not_false] at ghb15_1
        refine za rfl ?_;refine zh rfl (fun _=>rfl) ?_;exact zb ⟨rfl,rfl⟩
       ·exact zh rfl (fun h=>absurd (h.symm.trans hb15_1) (by decide)) (zb ⟨rfl,rfl⟩)
      refine za rfl ?_;refine' zx (d:=68) [_,_,_] rfl ?_ rfl ?_
      rotate_left
      ·refine zw rfl rfl (fun hb15_4=>?_) (fun hb15_4=>?_)
       ·have ghb15_4:=hb15_4
        try simp only [zf,Bool.not_true,Bool.not_false] at ghb15_4
        refine za rfl ?_;refine zd rfl rfl hb15_4 ?_;refine za rfl ?_;refine zh rfl (fun _=>rfl) ?_;exact zb ⟨rfl,rfl⟩
       ·refine zl rfl rfl hb15_4 ?_;exact zh rfl (fun h=>absurd (h.symm.trans hb15_4) (by decide)) (zb ⟨rfl,rfl⟩)
      refine zb ?_;refine zi rfl (fun hc4=>?_) (fun hc4=>?_)
      ·(try simp only [zf] at hc4)
       refine ze zc [] rfl ?_;iterate 3 refine za rfl ?_
       refine zq rfl rfl (CallT.frame (zc2 m N a2 b2 (hp.length_eq.trans hN) zu h2 zu) [0] rfl z3 z3 ?_)
       rintro _ _ ⟨q,m,rfl,hq,rfl⟩;refine frK zy zy ?_;refine zb ?_;have hp:=hq.trans hp;have hml:=hp.length_eq
       refine zi rfl (fun hc5=>?_) (fun hc5=>?_)
       ·(try simp only [zf] at hc5)
        refine yr ?_;exact ⟨trivial,_,rfl,rfl,m,hp,rfl⟩
       ·(try simp only [zf] at hc5)
        refine zt ?_;refine zo ?_;refine yu zc [] [_,_,_,_,_,_,_,_,_,_,_,_,_,_,_] rfl yj yj ?_;iterate 3 refine za rfl ?_
        refine' zx (d:=87) [_,_,_,_,_,_,_,_,_,_,_,_] rfl ?_ rfl ?_
        rotate_left
        ·refine zw rfl rfl (fun hb17_2=>?_) (fun hb17_2=>?_)
         ·have ghb17_2:=hb17_2
          try simp only [zf,Bool.not_true,Bool.not_false] at ghb17_2
          have ha0 : 0 < a2:=(by omega)
          refine za rfl ?_;refine zd rfl rfl hb17_2 ?_;refine za rfl ?_;refine zd rfl rfl hb17_2 ?_;refine yo (b:=1) rfl rfl zu ?_;refine zd rfl rfl hb17_2 ?_;refine z5 rfl rfl rfl rfl rfl rfl rfl zu ?_;refine zd rfl rfl hb17_2 ?_;refine yh rfl rfl rfl yn ?_;refine zd rfl rfl hb17_2 ?_;refine za rfl ?_;refine zd rfl rfl hb17_2 ?_;refine za rfl ?_;refine zd rfl rfl hb17_2 ?_;refine z5 rfl rfl rfl rfl rfl rfl rfl zu ?_;refine zd rfl rfl hb17_2 ?_;refine yh rfl rfl rfl yn ?_;refine zd rfl rfl hb17_2 ?_;refine z6 rfl rfl rfl (wq _ _) ?_;refine zd rfl rfl hb17_2 ?_;refine za rfl ?_;refine zh rfl (fun _=>rfl) ?_;exact zb ⟨rfl,rfl⟩
         ·refine zl rfl rfl hb17_2 ?_;iterate 9 refine zl rfl rfl hb17_2 ?_
          exact zh rfl (fun h=>absurd (h.symm.trans hb17_2) (by decide)) (zb ⟨rfl,rfl⟩)
        iterate 2 refine zb ?_
        refine zi rfl (fun hc6=>?_) (fun hc6=>?_)
        ·(try simp only [zf] at hc6)
         refine ze zc [] rfl ?_;iterate 4 refine za rfl ?_
         refine zq rfl rfl (CallT.frame (uh m N a2 b2 p (hp.length_eq.trans hN) zu h2 ⟨hv1,hv2⟩ zu) [0] rfl z3 z3 ?_)
         rintro _ _ ⟨mid,m,hm1,hm2,rfl,hq,rfl⟩;refine frK zy zy ?_;refine za rfl ?_;refine zb ?_;have hp:=hq.trans hp;have hml:=hp.length_eq
         refine ze zc [] rfl ?_;iterate 2 refine za rfl ?_
         refine zb ?_;refine y7 ?_;refine ⟨mid,b2,lm,wb,wp,m,by (try dsimp only);omega,?_,(by refine ⟨[some 0],rfl,yb,ya,?_,?_⟩ <;> (repeat' first | exact trivial | exact yc | exact yd | exact z9 rfl | refine zn ?_ ?_ | refine zk rfl ?_ ?_ | refine zj ?_ ?_ | refine ye rfl ?_ | fail) <;> first | exact yv | (first | exact Cv.slc rfl (.inl rfl) | exact CvL.pure (zg _ _) | exact Cv.pure rfl))⟩
         exact ⟨by omega,by omega,by omega,by omega,hp⟩
        ·(try simp only [zf] at hc6)
         refine zt ?_;refine ze zc [] rfl ?_;iterate 4 refine za rfl ?_
         refine zq rfl rfl (CallT.frame (r7 m N a2 b2 p (hp.length_eq.trans hN) zu h2 ⟨hv1,hv2⟩ zu) [0] rfl z3 z3 ?_)
         rintro _ _ ⟨mid,q2,m,hm1,hm2,rfl,hq,rfl⟩;refine frK zy zy ?_;iterate 5 refine za rfl ?_
         refine zb ?_;have hp:=hq.trans hp;have hml:=hp.length_eq
         refine ze zc [] rfl ?_;iterate 2 refine za rfl ?_
         refine zb ?_;refine ze zc [] rfl ?_;iterate 2 refine za rfl ?_
         refine yo rfl rfl zu ?_;iterate 2 refine za rfl ?_
         refine yo rfl rfl zu ?_;iterate 2 refine za rfl ?_
         refine zb ?_;refine ze zc [] rfl ?_;refine za rfl ?_;refine wz (b:=8) rfl rfl zu zu ?_;refine za rfl ?_;refine zb ?_;refine ze zc [] rfl ?_;iterate 3 refine za rfl ?_
         refine zb ?_;refine zi rfl (fun hc7=>?_) (fun hc7=>?_)
         ·(try simp only [zf] at hc7)
          refine ze zc [] rfl ?_;iterate 4 refine za rfl ?_
          refine zb ?_;refine ze zc [] rfl ?_;iterate 4 refine za rfl ?_
          refine zq rfl rfl (CallT.frame (ih (mid - a2) zu m N a2 mid lm (hp.length_eq.trans hN) hm1 zu hl h3 (Nat.le_refl _)) [0] rfl z3 z3 ?_)
          rintro _ _ ⟨rfl,m,hq,rfl⟩;refine frK zy zy ?_;refine zb ?_;have hp:=hq.trans hp
          refine z4 zc [] rfl ?_;refine za rfl ?_;refine ym (b:=1) rfl rfl zu ?_;refine za rfl ?_;refine zb ?_;refine ⟨mid + 1,b2,lm,_,q2,m,by (try dsimp only);omega,?_,(by refine ⟨[some 0],rfl,yb,ya,?_,?_⟩ <;> (repeat' first | exact trivial | exact yc | exact yd | exact z9 rfl | refine zn ?_ ?_ | refine zk rfl ?_ ?_ | refine zj ?_ ?_ | refine ye rfl ?_ | fail) <;> first | exact yv | (first | exact Cv.slc rfl (.inl rfl) | exact CvL.pure (zg _ _) | exact Cv.pure rfl))⟩
          exact ⟨by omega,by omega,by omega,by omega,hp⟩
         ·(try simp only [zf] at hc7)
          refine ze zc [] rfl ?_;iterate 4 refine za rfl ?_
          refine zb ?_;refine ze zc [] rfl ?_;iterate 2 refine za rfl ?_
          refine ym (b:=1) rfl rfl zu ?_;iterate 2 refine za rfl ?_
          refine zq rfl rfl (CallT.frame (ih (b2 - (mid + 1)) zu m N (mid + 1) b2 lm (hp.length_eq.trans hN) zu h2 hl h3 (Nat.le_refl _)) [0] rfl z3 z3 ?_)
          rintro _ _ ⟨rfl,m,hq,rfl⟩;refine frK zy zy ?_;refine zb ?_;have hp:=hq.trans hp
          refine z4 zc [] rfl ?_;iterate 2 refine za rfl ?_
          refine zb ?_;refine ⟨a2,mid,lm,_,q2,m,by (try dsimp only);omega,?_,(by refine ⟨[some 0],rfl,yb,ya,?_,?_⟩ <;> (repeat' first | exact trivial | exact yc | exact yd | exact z9 rfl | refine zn ?_ ?_ | refine zk rfl ?_ ?_ | refine zj ?_ ?_ | refine ye rfl ?_ | fail) <;> first | exact yv | (first | exact Cv.slc rfl (.inl rfl) | exact CvL.pure (zg _ _) | exact Cv.pure rfl))⟩
          exact ⟨by omega,by omega,by omega,by omega,hp⟩
      ·(try simp only [zf] at hc4)
       refine zt ?_;refine zo ?_;refine yu zc [] [_,_,_,_,_,_,_,_,_,_,_,_,_,_,_] rfl yj yj ?_;iterate 3 refine za rfl ?_
       refine' zx (d:=87) [_,_,_,_,_,_,_,_,_,_,_,_] rfl ?_ rfl ?_
       rotate_left
       ·refine zw rfl rfl (fun hb17_2=>?_) (fun hb17_2=>?_)
        ·have ghb17_2:=hb17_2
         try simp only [zf,Bool.not_true,Bool.not_false] at ghb17_2
         have ha0 : 0 < a2:=(by omega)
         refine za rfl ?_;refine zd rfl rfl hb17_2 ?_;refine za rfl ?_;refine zd rfl rfl hb17_2 ?_;refine yo (b:=1) rfl rfl zu ?_;refine zd rfl rfl hb17_2 ?_;refine z5 rfl rfl rfl rfl rfl rfl rfl zu ?_;refine zd rfl rfl hb17_2 ?_;refine yh rfl rfl rfl yn ?_;refine zd rfl rfl hb17_2 ?_;refine za rfl ?_;refine zd rfl rfl hb17_2 ?_;refine za rfl ?_;refine zd rfl rfl hb17_2 ?_;refine z5 rfl rfl rfl rfl rfl rfl rfl zu ?_;refine zd rfl rfl hb17_2 ?_;refine yh rfl rfl rfl yn ?_;refine zd rfl rfl hb17_2 ?_;refine z6 rfl rfl rfl (wq _ _) ?_;refine zd rfl rfl hb17_2 ?_;refine za rfl ?_;refine zh rfl (fun _=>rfl) ?_;exact zb ⟨rfl,rfl⟩
        ·refine zl rfl rfl hb17_2 ?_;iterate 9 refine zl rfl rfl hb17_2 ?_
         exact zh rfl (fun h=>absurd (h.symm.trans hb17_2) (by decide)) (zb ⟨rfl,rfl⟩)
       iterate 2 refine zb ?_
       refine zi rfl (fun hc6=>?_) (fun hc6=>?_)
       ·(try simp only [zf] at hc6)
        refine ze zc [] rfl ?_;iterate 4 refine za rfl ?_
        refine zq rfl rfl (CallT.frame (uh m N a2 b2 p (hp.length_eq.trans hN) zu h2 ⟨hv1,hv2⟩ zu) [0] rfl z3 z3 ?_)
        rintro _ _ ⟨mid,m,hm1,hm2,rfl,hq,rfl⟩;refine frK zy zy ?_;refine za rfl ?_;refine zb ?_;have hp:=hq.trans hp;have hml:=hp.length_eq
        refine ze zc [] rfl ?_;iterate 2 refine za rfl ?_
        refine zb ?_;refine y7 ?_;refine ⟨mid,b2,lm,wb,wp,m,by (try dsimp only);omega,?_,(by refine ⟨[some 0],rfl,yb,ya,?_,?_⟩ <;> (repeat' first | exact trivial | exact yc | exact yd | exact z9 rfl | refine zn ?_ ?_ | refine zk rfl ?_ ?_ | refine zj ?_ ?_ | refine ye rfl ?_ | fail) <;> first | exact yv | (first | exact Cv.slc rfl (.inl rfl) | exact CvL.pure (zg _ _) | exact Cv.pure rfl))⟩
        exact ⟨by omega,by omega,by omega,by omega,hp⟩
       ·(try simp only [zf] at hc6)
        refine zt ?_;refine ze zc [] rfl ?_;iterate 4 refine za rfl ?_
        refine zq rfl rfl (CallT.frame (r7 m N a2 b2 p (hp.length_eq.trans hN) zu h2 ⟨hv1,hv2⟩ zu) [0] rfl z3 z3 ?_)
        rintro _ _ ⟨mid,q2,m,hm1,hm2,rfl,hq,rfl⟩;refine frK zy zy ?_;iterate 5 refine za rfl ?_
        refine zb ?_;have hp:=hq.trans hp;have hml:=hp.length_eq
        refine ze zc [] rfl ?_;iterate 2 refine za rfl ?_
        refine zb ?_;refine ze zc [] rfl ?_;iterate 2 refine za rfl ?_
        refine yo rfl rfl zu ?_;iterate 2 refine za rfl ?_
        refine yo rfl rfl zu ?_;iterate 2 refine za rfl ?_
        refine zb ?_;refine ze zc [] rfl ?_;refine za rfl ?_;refine wz (b:=8) rfl rfl zu zu ?_;refine za rfl ?_;refine zb ?_;refine ze zc [] rfl ?_;iterate 3 refine za rfl ?_
        refine zb ?_;refine zi rfl (fun hc7=>?_) (fun hc7=>?_)
        ·(try simp only [zf] at hc7)
         refine ze zc [] rfl ?_;iterate 4 refine za rfl ?_
         refine zb ?_;refine ze zc [] rfl ?_;iterate 4 refine za rfl ?_
         refine zq rfl rfl (CallT.frame (ih (mid - a2) zu m N a2 mid lm (hp.length_eq.trans hN) hm1 zu hl h3 (Nat.le_refl _)) [0] rfl z3 z3 ?_)
         rintro _ _ ⟨rfl,m,hq,rfl⟩;refine frK zy zy ?_;refine zb ?_;have hp:=hq.trans hp
         refine z4 zc [] rfl ?_;refine za rfl ?_;refine ym (b:=1) rfl rfl zu ?_;refine za rfl ?_;refine zb ?_;refine ⟨mid + 1,b2,lm,_,q2,m,by (try dsimp only);omega,?_,(by refine ⟨[some 0],rfl,yb,ya,?_,?_⟩ <;> (repeat' first | exact trivial | exact yc | exact yd | exact z9 rfl | refine zn ?_ ?_ | refine zk rfl ?_ ?_ | refine zj ?_ ?_ | refine ye rfl ?_ | fail) <;> first | exact yv | (first | exact Cv.slc rfl (.inl rfl) | exact CvL.pure (zg _ _) | exact Cv.pure rfl))⟩
         exact ⟨by omega,by omega,by omega,by omega,hp⟩
        ·(try simp only [zf] at hc7)
         refine ze zc [] rfl ?_;iterate 4 refine za rfl ?_
         refine zb ?_;refine ze zc [] rfl ?_;iterate 2 refine za rfl ?_
         refine ym (b:=1) rfl rfl zu ?_;iterate 2 refine za rfl ?_
         refine zq rfl rfl (CallT.frame (ih (b2 - (mid + 1)) zu m N (mid + 1) b2 lm (hp.length_eq.trans hN) zu h2 hl h3 (Nat.le_refl _)) [0] rfl z3 z3 ?_)
         rintro _ _ ⟨rfl,m,hq,rfl⟩;refine frK zy zy ?_;refine zb ?_;have hp:=hq.trans hp
         refine z4 zc [] rfl ?_;iterate 2 refine za rfl ?_
         refine zb ?_;refine ⟨a2,mid,lm,_,q2,m,by (try dsimp only);omega,?_,(by refine ⟨[some 0],rfl,yb,ya,?_,?_⟩ <;> (repeat' first | exact trivial | exact yc | exact yd | exact z9 rfl | refine zn ?_ ?_ | refine zk rfl ?_ ?_ | refine zj ?_ ?_ | refine ye rfl ?_ | fail) <;> first | exact yv | (first | exact Cv.slc rfl (.inl rfl) | exact CvL.pure (zg _ _) | exact Cv.pure rfl))⟩
         exact ⟨by omega,by omega,by omega,by omega,hp⟩
theorem zh6 (l : List Int) (N : Nat) (hN : l.length = N) (hl : N≤65535) :
  CallT Tryd.prog 65 [.slc 0 0 N 1 none] [.c (encL cD l)] (srtQ l):=by
 by_cases h0 : N = 0
 ·have hL:=len_0
  have hs:=pdq_t 0 l N 0 0 0 hN (by omega) (by omega) hl (by omega) (by omega)
  subst h0
  refine CallT.intro zc Tryd.func65 rfl (by kernel_rfl) (Nat.le_of_ble_eq_true rfl) ?_;refine ze zc [] rfl ?_;iterate 3 refine za rfl ?_
  refine zb ?_;refine z4 zc [] rfl ?_;iterate 4 refine za rfl ?_
  refine z6 rfl rfl rfl (hL) ?_;refine zq rfl rfl (CallT.frame (hs) [0] rfl z3 z3 ?_)
  rintro _ _ ⟨rfl,m,hq,rfl⟩;refine frK zy zy ?_;refine zb ?_;exact ⟨trivial,_,rfl,rfl,m,hq,rfl⟩
 ·obtain ⟨L,hL1,-,-,hL⟩:=len_p N (by omega) (by omega)
  have hs:=pdq_t N l N 0 N L hN (by omega) (by omega) hl (by omega) (by omega)
  refine CallT.intro zc Tryd.func65 rfl (by kernel_rfl) (Nat.le_of_ble_eq_true rfl) ?_;refine ze zc [] rfl ?_;iterate 3 refine za rfl ?_
  refine zb ?_;refine z4 zc [] rfl ?_;iterate 3 refine za rfl ?_
  refine za (t:=U64 N) (by show some (T.v (.int .u64 (IntKind.u64.wrap (N : Int))),(none : Option (Nat × List T))) = _;rw [p7 zu]) ?_;refine z6 rfl rfl rfl (hL) ?_;refine zq rfl rfl (CallT.frame (hs) [0] rfl z3 z3 ?_)
  rintro _ _ ⟨rfl,m,hq,rfl⟩;refine frK zy zy ?_;refine zb ?_;exact ⟨trivial,_,rfl,rfl,m,hq,rfl⟩
end

section
open Go.RowKit
structure VwLe (v v2 : Vw) : Prop where
 R : ∀ a b,v.R a b→v2.R a b
 V : ∀ a,v.V a→v2.V a
 F : ∀ b cs,v.F b cs→v2.F b cs
 G : ∀ b ks ts,v.G b ks ts→v2.G b ks ts
mutual
theorem Cv.vle {v v2 : Vw} (h : VwLe v v2) : ∀ {t u : T},Cv v t u→Cv v2 t u
 | _,_,.pure k=>.pure k
 | _,_,.nil c k=>.nil c k
 | _,_,.nilv k=>.nilv (h.V _ k)
 | _,_,.ptr k=>.ptr (h.R _ _ k)
 | _,_,.slc k hc=>.slc (h.R _ _ k) hc
 | _,_,.yl k=>.yl (h.R _ _ k)
 | _,_,.fptr k hl=>.fptr (h.F _ _ k) (CvL.vle h hl)
 | _,_,.fslc k hx hl hc=>.fslc (h.F _ _ k) hx (CvL.vle h hl) hc
 | _,_,.agg k=>.agg (CvL.vle h k)
 | _,_,.tup k=>.tup (CvL.vle h k)
 | _,_,.clo k l=>.clo (CvL.vle h k) (CvL.vle h l)
 | _,_,.iptr k=>.iptr (CvL.vle h k)
 | _,_,.islc k hc=>.islc (CvL.vle h k) hc
 | _,_,.mp k=>.mp (CvL.vle h k)
 | _,_,.om k=>.om (h.R _ _ k)
 | _,_,.fom k hl=>.fom (h.G _ _ _ k) (CvL.vle h hl)
 | _,_,.islcT k hc=>.islcT (CvL.vle h k) hc
theorem CvL.vle {v v2 : Vw} (h : VwLe v v2) : ∀ {t u : List T},CvL v t u→CvL v2 t u
 | _,_,.nil=>.nil
 | _,_,.cons k l=>.cons (Cv.vle h k) (CvL.vle h l)
end
theorem zhz {Hm G : Hp} (hs : seenL Hm G) : VwLe (vwL Hm []) (vwL G []):=
 ⟨fun a b k=>k,fun a k=>k,fun b cs k=>⟨by
  have h1:=k.1
  rw [xl] at h1 ⊢
  rw [← hs.2 b (by rw [h1];simp)];exact h1,k.2⟩,fun b ks ts k=>⟨by
  have h1 : blkH Hm b = .o (mapP ks ts):=k.1
  show blkH G b = _
  rw [← hs.2 b (by rw [h1];simp)];exact h1,k.2⟩⟩
section
variable {P : Program} {tab : Tab} {n lb : Nat} {im : List Nat} {ops : Array Oper} {l : List Oper} {E : Env} {Hm F : Hp} {K : Env→Hp→Prop} {wd : List Bool}
theorem tk [Dr] {d : Nat} {ty : TypeId} {pos : String} {after : Array Edge} {f : Operand} {args : Array Operand} {ats : Array TypeId} {g : FuncId} {us vs ts asx : List T} {t : T} (hf : E.opd f = some (.clo g us vs)) (ha : optL E.opd args.toList = some ts)
  (hc : CallP P g asx t) (hr : t.scal = true) (hv : CvL (vwL Hm []) (us ++ ts ++ vs) asx) (k : VD P tab im ops Hm l wd ((d,t) :: E) F K) : VD P tab im ops Hm (⟨some d,.call ⟨.value f,args,ats⟩,ty,pos,after,none⟩ :: l) (false :: wd) E F K:=
 VD.look hf ha (fun G hs=>hc.look hr (hv.vle (zhz hs))) k
end
end

section
open Go.RowKit
set_option maxRecDepth 10000
set_option maxHeartbeats 2000000
section
variable {P : Program} {tab : Tab} {ops : Array Oper} {l : List Oper} {E : Env} {Hm F : Hp} {K : Env→Hp→Prop} {wd : List Bool} {im : List Nat} {d : Nat} {ty : TypeId} {pos : String} {after : Array Edge}
theorem vr [Dr] {t e m : Nat} {x ix : Operand} {i j : TyI} {cs : List T} {n : Nat} {c : Option Nat} {k : IntKind} {z : Int} (hT : tab t = some i) (hk : i.k = .sl e) (hj : tab e = some j) (hx : E.opd x = some (.islc cs n c)) (hi : E.opd ix = some (.v (.int k z))) (hz : z = (m : Int)) (hm : m < n)
  (kk : VD P tab im ops Hm l wd ((d,.iptr cs (m * j.sz)) :: E) F K) : VD P tab im ops Hm (⟨some d,.indexAddr t x ix,ty,pos,after,none⟩ :: l) (false :: wd) E F K:=by
 subst hz
 exact yp (by simp only [opM,hx,hi,mIndexAddr,hT,hk,hj];rw [if_pos ⟨by omega,by omega⟩];rfl) kk
theorem wm [Dr] {t : Nat} {a : Operand} {i : TyI} {cs : List T} {o : Nat} {v : T} (hT : tab t = some i) (ha : E.opd a = some (.iptr cs o)) (hp : partT i cs o = some v) (k : VD P tab im ops Hm l wd ((d,v) :: E) F K) : VD P tab im ops Hm (⟨some d,.load t a,ty,pos,after,none⟩ :: l) (false :: wd) E F K:=
 yp (by simp only [opM,ha,mLoad,hT,hp]) k
end
theorem zau {m : Mg} {event id : Int} (h : m.own event id = none) : ((lkF m.F id).2 && ((lkF m.F id).1.fr == event)) = false:=by
 unfold Mg.own at h
 cases hp : posK m.F id with
 | none=>rw [s0 hp];rfl
 | some i=>
  obtain ⟨v,he⟩:=vn hp
  rw [hp] at h
  simp only [getM he] at h
  rw [xb hp he]
  by_cases hv : v.fr = event
  ·rw [if_pos hv] at h;cases h
  ·simpa using hv
theorem zjp (m : Mg) (n : List Int) (top : Int) (ok : m.Ok top) (htop : top≤1000000) (hn : 2≤n.length) :
  CallT Tryd.prog 91 [.ptr 0 0,cIf n] (tnH m (mF m) (mW m) []) (fun t H'=>t = .tup []∧H' = ranH (m.unmap n[0]! n[1]!).1 (m.unmap n[0]! n[1]!).2 []):=by
 have hc:=ok.cnt
 have hpF:=piF m.F
 have hpW:=piW m.W
 have hown:=zkb m (askZ []) n[0]! n[1]! (tr []) ok.fk
 cases ho : m.own n[0]! n[1]! with
 | none=>
  have hr : m.unmap n[0]! n[1]! = (m,[]):=by unfold Mg.unmap;rw [ho]
  rw [zau ho] at hown
  rw [hr]
  generalize (lkF m.F n[1]!).1 = v at *
  refine CallT.intro zc Tryd.func91 rfl (by kernel_rfl) (Nat.le_of_ble_eq_true rfl) ?_;refine ug zc [] [_,_,_,_,_,_,_,_,_,_,_,_,_] (tnH m (mF m) (mW m) []) [false,false,false,false,false,false,false,false,false,false,false,true,true] rfl yj yj yj (by repeat' first | exact xe | refine xc ?_ | refine y8 ?_) ?_;refine yp rfl ?_;refine yp rfl ?_;refine vr (m:=0) rfl rfl rfl rfl rfl rfl zu ?_;refine wm rfl rfl yn ?_;refine yp rfl ?_;refine vr (m:=1) rfl rfl rfl rfl rfl rfl zu ?_;refine wm rfl rfl yn ?_;refine tk rfl rfl (hown) rfl (CvL.cons (u7 m []) (CvL.cons (Cv.pure rfl) (CvL.cons (Cv.pure rfl) CvL.nil))) ?_;refine yp rfl ?_;refine yp rfl ?_;refine yp rfl ?_;refine qd rfl rfl (by repeat' first | exact xe | refine xc ?_ | refine y8 ?_) ?_;refine pr rfl rfl rfl rfl rfl xf rfl rfl (by repeat' first | exact xe | refine xc ?_ | refine y8 ?_) ?_;refine tt ?_;refine za rfl ?_;refine zb ?_;refine z7 ([(0,.ptr 0 0),(4,.iptr (frC v) 0)]) (tnH m (mF m) (mW m) []) [5] rfl (by refine ⟨[some 0,some 1,some 2,some 3],rfl,yb,ya,?_,?_⟩ <;> (repeat' first | exact trivial | exact yc | exact yd | exact z9 rfl | refine zn ?_ ?_ | refine zk rfl ?_ ?_ | refine zj ?_ ?_ | refine ye rfl ?_ | fail) <;> first | exact yv | (first | exact yg (Cv.om rfl) (Cv.om rfl) (Cv.slc rfl (.inr rfl)) | exact yg (Cv.om rfl) (Cv.om rfl) (Cv.slc rfl (.inl rfl)) | exact CvL.pure (zg _ _) | exact Cv.ptr rfl | exact Cv.fptr ⟨rfl,(show some 4∉[some 0,some 1,some 2,some 3] by simp)⟩ (CvL.pure rfl))) ?_
  refine ze zc [] rfl ?_;refine za rfl ?_;refine zb ?_;refine yq rfl ?_;refine zt ?_;exact ⟨trivial,_,rfl,rfl,rfl⟩
 | some i=>
  obtain ⟨v,he,hv,hp⟩:=zf7 ho
  rw [xb hp he,show ((v,true).2 && ((v,true).1.fr == n[0]!)) = true from by simpa using hv] at hown
  have hr : m.unmap n[0]! n[1]! = (m.up 1,[rq 4 [v.fr]]):=by unfold Mg.unmap;rw [ho];simp only [getM he]
  have ha:=qc m (mF m) (mW m) 4 v.fr [] (by simp) (by omega) hpF hpW
  rw [hr]
  refine CallT.intro zc Tryd.func91 rfl (by kernel_rfl) (Nat.le_of_ble_eq_true rfl) ?_;refine ug zc [] [_,_,_,_,_,_,_,_,_,_,_,_,_] (tnH m (mF m) (mW m) []) [false,false,false,false,false,false,false,false,false,false,false,true,true] rfl yj yj yj (by repeat' first | exact xe | refine xc ?_ | refine y8 ?_) ?_;refine yp rfl ?_;refine yp rfl ?_;refine vr (m:=0) rfl rfl rfl rfl rfl rfl zu ?_;refine wm rfl rfl yn ?_;refine yp rfl ?_;refine vr (m:=1) rfl rfl rfl rfl rfl rfl zu ?_;refine wm rfl rfl yn ?_;refine tk rfl rfl (hown) rfl (CvL.cons (u7 m []) (CvL.cons (Cv.pure rfl) (CvL.cons (Cv.pure rfl) CvL.nil))) ?_;refine yp rfl ?_;refine yp rfl ?_;refine yp rfl ?_;refine qd rfl rfl (by repeat' first | exact xe | refine xc ?_ | refine y8 ?_) ?_;refine pr rfl rfl rfl rfl rfl xf rfl rfl (by repeat' first | exact xe | refine xc ?_ | refine y8 ?_) ?_;refine tt ?_;refine za rfl ?_;refine zb ?_;refine z7 ([(0,.ptr 0 0),(4,.iptr (frC v) 0)]) (tnH m (mF m) (mW m) []) [5] rfl (by refine ⟨[some 0,some 1,some 2,some 3],rfl,yb,ya,?_,?_⟩ <;> (repeat' first | exact trivial | exact yc | exact yd | exact z9 rfl | refine zn ?_ ?_ | refine zk rfl ?_ ?_ | refine zj ?_ ?_ | refine ye rfl ?_ | fail) <;> first | exact yv | (first | exact yg (Cv.om rfl) (Cv.om rfl) (Cv.slc rfl (.inr rfl)) | exact yg (Cv.om rfl) (Cv.om rfl) (Cv.slc rfl (.inl rfl)) | exact CvL.pure (zg _ _) | exact Cv.ptr rfl | exact Cv.fptr ⟨rfl,(show some 4∉[some 0,some 1,some 2,some 3] by simp)⟩ (CvL.pure rfl))) ?_
  refine ze zc [] rfl ?_;refine za rfl ?_;refine zb ?_;refine xv rfl ?_;refine z4 zc [21] rfl ?_;iterate 3 refine za rfl ?_
  refine yx rfl rfl ?_;refine zq rfl rfl (CallT.frame (ha) [0,1,2,3] rfl z3 z3 ?_)
  rintro _ _ ⟨rfl,rfl⟩;refine frK zy zy ?_;refine zb ?_;exact ⟨trivial,_,rfl,rfl,rfl⟩
end

section
open Go.RowKit
set_option maxRecDepth 10000
set_option maxHeartbeats 2000000
theorem zir (m : Mg) (n : List Int) (top : Int) (ok : m.Ok top) (htop : top≤1000000) (hn : 6≤n.length) :
  CallT Tryd.prog 94 [.ptr 0 0,cIf n] (tnH m (mF m) (mW m) []) (fun t H'=>t = .tup []∧H' = ranH (m.expose n[0]! n[5]!).1 (m.expose n[0]! n[5]!).2 []):=by
 have hc:=ok.cnt
 have hpF:=piF m.F
 have hpW:=piW m.W
 have hof:=of_t m n[0]! [] ok.frs
 cases h1 : m.of n[0]! with
 | none=>
  have hr : m.expose n[0]! n[5]! = (m,[]):=by unfold Mg.expose;rw [h1]
  have hfw : foundF m n[0]! = .tup [frT zFr,BL false]:=by unfold foundF;rw [h1]
  rw [hfw] at hof
  rw [hr]
  refine CallT.intro zc Tryd.func94 rfl (by kernel_rfl) (Nat.le_of_ble_eq_true rfl) ?_;refine ze zc [] rfl ?_;iterate 2 refine za rfl ?_
  refine zr (m:=0) rfl rfl rfl rfl rfl rfl zu ?_;refine zm rfl rfl yn ?_;refine zq rfl rfl (CallT.frame (hof) [0,1,2,3] rfl z3 z3 ?_)
  rintro _ _ ⟨rfl,rfl⟩;refine frK zy zy ?_;iterate 3 refine za rfl ?_
  refine yk rfl rfl ?_;refine zp rfl rfl rfl rfl rfl xf rfl ?_;refine za rfl ?_;refine zb ?_;refine z7 ([(0,.ptr 0 0),(4,.iptr (frC zFr) 0)]) (tnH m (mF m) (mW m) []) [1,5] rfl (by refine ⟨[some 0,some 1,some 2,some 3],rfl,yb,ya,?_,?_⟩ <;> (repeat' first | exact trivial | exact yc | exact yd | exact z9 rfl | refine zn ?_ ?_ | refine zk rfl ?_ ?_ | refine zj ?_ ?_ | refine ye rfl ?_ | fail) <;> first | exact yv | (first | exact yg (Cv.om rfl) (Cv.om rfl) (Cv.slc rfl (.inr rfl)) | exact yg (Cv.om rfl) (Cv.om rfl) (Cv.slc rfl (.inl rfl)) | exact CvL.pure (zg _ _) | exact Cv.ptr rfl | exact Cv.fptr ⟨rfl,(show some 4∉[some 0,some 1,some 2,some 3] by simp)⟩ (CvL.pure rfl))) ?_
  refine ze zc [] rfl ?_;iterate 2 refine za rfl ?_
  refine' zx (d:=20) [_,_,_,_,_] rfl ?_ rfl ?_
  rotate_left
  ·refine zw rfl rfl (fun hb1_1=>?_) (fun hb1_1=>?_)
   ·have ghb1_1:=hb1_1
    try simp only [zf,Bool.not_true,Bool.not_false] at ghb1_1
    refine za rfl ?_;refine zd rfl rfl hb1_1 ?_;refine zr rfl rfl rfl rfl rfl y9 zu ?_;refine zd rfl rfl hb1_1 ?_;refine zm rfl rfl yn ?_;refine zd rfl rfl hb1_1 ?_;refine za rfl ?_;refine zh rfl (fun _=>rfl) ?_;exact zb ⟨rfl,rfl⟩
   ·refine zl rfl rfl hb1_1 ?_;iterate 2 refine zl rfl rfl hb1_1 ?_
    exact zh rfl (fun h=>absurd (h.symm.trans hb1_1) (by decide)) (zb ⟨rfl,rfl⟩)
  refine zb ?_;refine yq rfl ?_;refine zt ?_;exact ⟨trivial,_,rfl,rfl,rfl⟩
 | some i=>
  obtain ⟨⟨id,v⟩,he,hv⟩:=w5 (show posB m.F _ = some i from h1)
  have hfw : foundF m n[0]! = .tup [frT v,BL true]:=by unfold foundF;rw [h1];simp only [getM he]
  rw [hfw] at hof
  by_cases h5 : n[5]! = 0
  ·have hr : m.expose n[0]! n[5]! = (m.up 1,[m.draw v]):=by unfold Mg.expose;rw [h1];simp only [getM he];rw [if_pos h5]
   have hd:=zjl m (mF m) (mW m) v [] (by simp) (by omega) ok.base hpF hpW
   rw [hr]
   refine CallT.intro zc Tryd.func94 rfl (by kernel_rfl) (Nat.le_of_ble_eq_true rfl) ?_;refine ze zc [] rfl ?_;iterate 2 refine za rfl ?_
   refine zr (m:=0) rfl rfl rfl rfl rfl rfl zu ?_;refine zm rfl rfl yn ?_;refine zq rfl rfl (CallT.frame (hof) [0,1,2,3] rfl z3 z3 ?_)
   rintro _ _ ⟨rfl,rfl⟩;refine frK zy zy ?_;iterate 3 refine za rfl ?_
   refine yk rfl rfl ?_;refine zp rfl rfl rfl rfl rfl xf rfl ?_;refine za rfl ?_;refine zb ?_;refine z7 ([(0,.ptr 0 0),(4,.iptr (frC v) 0)]) (tnH m (mF m) (mW m) []) [1,5] rfl (by refine ⟨[some 0,some 1,some 2,some 3],rfl,yb,ya,?_,?_⟩ <;> (repeat' first | exact trivial | exact yc | exact yd | exact z9 rfl | refine zn ?_ ?_ | refine zk rfl ?_ ?_ | refine zj ?_ ?_ | refine ye rfl ?_ | fail) <;> first | exact yv | (first | exact yg (Cv.om rfl) (Cv.om rfl) (Cv.slc rfl (.inr rfl)) | exact yg (Cv.om rfl) (Cv.om rfl) (Cv.slc rfl (.inl rfl)) | exact CvL.pure (zg _ _) | exact Cv.ptr rfl | exact Cv.fptr ⟨rfl,(show some 4∉[some 0,some 1,some 2,some 3] by simp)⟩ (CvL.pure rfl))) ?_
   refine ze zc [] rfl ?_;iterate 2 refine za rfl ?_
   refine' zx (d:=20) [_,_,_,_,_] rfl ?_ rfl ?_
   rotate_left
   ·refine zw rfl rfl (fun hb1_1=>?_) (fun hb1_1=>?_)
    ·have ghb1_1:=hb1_1
     try simp only [zf,Bool.not_true,Bool.not_false] at ghb1_1
     refine za rfl ?_;refine zd rfl rfl hb1_1 ?_;refine zr rfl rfl rfl rfl rfl y9 zu ?_;refine zd rfl rfl hb1_1 ?_;refine zm rfl rfl yn ?_;refine zd rfl rfl hb1_1 ?_;refine za rfl ?_;refine zh rfl (fun _=>rfl) ?_;exact zb ⟨rfl,rfl⟩
    ·refine zl rfl rfl hb1_1 ?_;iterate 2 refine zl rfl rfl hb1_1 ?_
     exact zh rfl (fun h=>absurd (h.symm.trans hb1_1) (by decide)) (zb ⟨rfl,rfl⟩)
   refine zb ?_;refine zi rfl (fun hc0=>?_) (fun hc0=>?_)
   ·(try simp only [zf] at hc0)
    refine z4 zc [] rfl ?_;iterate 2 refine za rfl ?_
    refine zq rfl rfl (CallT.frame (hd) [0,1,2,3] rfl z3 z3 ?_)
    rintro _ _ ⟨rfl,rfl⟩;refine frK zy zy ?_;refine zb ?_;exact ⟨trivial,_,rfl,rfl,rfl⟩
   ·exact absurd hc0 (by simp [h5])
  ·have hr : m.expose n[0]! n[5]! = (m,[]):=by unfold Mg.expose;rw [h1];simp only [getM he];rw [if_neg h5]
   rw [hr]
   refine CallT.intro zc Tryd.func94 rfl (by kernel_rfl) (Nat.le_of_ble_eq_true rfl) ?_;refine ze zc [] rfl ?_;iterate 2 refine za rfl ?_
   refine zr (m:=0) rfl rfl rfl rfl rfl rfl zu ?_;refine zm rfl rfl yn ?_;refine zq rfl rfl (CallT.frame (hof) [0,1,2,3] rfl z3 z3 ?_)
   rintro _ _ ⟨rfl,rfl⟩;refine frK zy zy ?_;iterate 3 refine za rfl ?_
   refine yk rfl rfl ?_;refine zp rfl rfl rfl rfl rfl xf rfl ?_;refine za rfl ?_;refine zb ?_;refine z7 ([(0,.ptr 0 0),(4,.iptr (frC v) 0)]) (tnH m (mF m) (mW m) []) [1,5] rfl (by refine ⟨[some 0,some 1,some 2,some 3],rfl,yb,ya,?_,?_⟩ <;> (repeat' first | exact trivial | exact yc | exact yd | exact z9 rfl | refine zn ?_ ?_ | refine zk rfl ?_ ?_ | refine zj ?_ ?_ | refine ye rfl ?_ | fail) <;> first | exact yv | (first | exact yg (Cv.om rfl) (Cv.om rfl) (Cv.slc rfl (.inr rfl)) | exact yg (Cv.om rfl) (Cv.om rfl) (Cv.slc rfl (.inl rfl)) | exact CvL.pure (zg _ _) | exact Cv.ptr rfl | exact Cv.fptr ⟨rfl,(show some 4∉[some 0,some 1,some 2,some 3] by simp)⟩ (CvL.pure rfl))) ?_
   refine ze zc [] rfl ?_;iterate 2 refine za rfl ?_
   refine' zx (d:=20) [_,_,_,_,_] rfl ?_ rfl ?_
   rotate_left
   ·refine zw rfl rfl (fun hb1_1=>?_) (fun hb1_1=>?_)
    ·have ghb1_1:=hb1_1
     try simp only [zf,Bool.not_true,Bool.not_false] at ghb1_1
     refine za rfl ?_;refine zd rfl rfl hb1_1 ?_;refine zr rfl rfl rfl rfl rfl y9 zu ?_;refine zd rfl rfl hb1_1 ?_;refine zm rfl rfl yn ?_;refine zd rfl rfl hb1_1 ?_;refine za rfl ?_;refine zh rfl (fun _=>rfl) ?_;exact zb ⟨rfl,rfl⟩
    ·refine zl rfl rfl hb1_1 ?_;iterate 2 refine zl rfl rfl hb1_1 ?_
     exact zh rfl (fun h=>absurd (h.symm.trans hb1_1) (by decide)) (zb ⟨rfl,rfl⟩)
   refine zb ?_;refine zi rfl (fun hc0=>?_) (fun hc0=>?_)
   ·exact absurd hc0 (fun k=>h5 (by simpa using k))
   ·(try simp only [zf] at hc0)
    refine zt ?_;exact ⟨trivial,_,rfl,rfl,rfl⟩
theorem zj9 (m : Mg) (n : List Int) (top : Int) (ok : m.Ok top) (htop : top≤1000000) (hn : 9≤n.length) :
  CallT Tryd.prog 95 [.ptr 0 0,cIf n] (tnH m (mF m) (mW m) []) (fun t H'=>t = .tup []∧H' = ranH (m.press n[0]! n[4]! n[5]!).1 (m.press n[0]! n[4]! n[5]!).2 []):=by
 have hc:=ok.cnt
 have hpF:=piF m.F
 have hpW:=piW m.W
 have hof:=of_t m n[0]! [] ok.frs
 cases h1 : m.of n[0]! with
 | none=>
  have hr : m.press n[0]! n[4]! n[5]! = (m,[]):=by unfold Mg.press;rw [h1]
  have hfw : foundF m n[0]! = .tup [frT zFr,BL false]:=by unfold foundF;rw [h1]
  rw [hfw] at hof
  rw [hr]
  refine CallT.intro zc Tryd.func95 rfl (by kernel_rfl) (Nat.le_of_ble_eq_true rfl) ?_;refine ze zc [] rfl ?_;iterate 2 refine za rfl ?_
  refine zr (m:=0) rfl rfl rfl rfl rfl rfl zu ?_;refine zm rfl rfl yn ?_;refine zq rfl rfl (CallT.frame (hof) [0,1,2,3] rfl z3 z3 ?_)
  rintro _ _ ⟨rfl,rfl⟩;refine frK zy zy ?_;iterate 3 refine za rfl ?_
  refine yk rfl rfl ?_;refine zp rfl rfl rfl rfl rfl xf rfl ?_;refine za rfl ?_;refine zb ?_;refine z7 ([(0,.ptr 0 0),(4,.iptr (frC zFr) 0)]) (tnH m (mF m) (mW m) []) [1,5] rfl (by refine ⟨[some 0,some 1,some 2,some 3],rfl,yb,ya,?_,?_⟩ <;> (repeat' first | exact trivial | exact yc | exact yd | exact z9 rfl | refine zn ?_ ?_ | refine zk rfl ?_ ?_ | refine zj ?_ ?_ | refine ye rfl ?_ | fail) <;> first | exact yv | (first | exact yg (Cv.om rfl) (Cv.om rfl) (Cv.slc rfl (.inr rfl)) | exact yg (Cv.om rfl) (Cv.om rfl) (Cv.slc rfl (.inl rfl)) | exact CvL.pure (zg _ _) | exact Cv.ptr rfl | exact Cv.fptr ⟨rfl,(show some 4∉[some 0,some 1,some 2,some 3] by simp)⟩ (CvL.pure rfl))) ?_
  refine ze zc [] rfl ?_;refine za rfl ?_;refine zb ?_;refine yq rfl ?_;refine zt ?_;exact ⟨trivial,_,rfl,rfl,rfl⟩
 | some i=>
  obtain ⟨⟨id,v⟩,he,hv⟩:=w5 (show posB m.F _ = some i from h1)
  have hfw : foundF m n[0]! = .tup [frT v,BL true]:=by unfold foundF;rw [h1];simp only [getM he]
  rw [hfw] at hof
  have hr : m.press n[0]! n[4]! n[5]! = ({ m.up 1 with on:=true,df:=v.fr,dx:=n[4]!,dy:=n[5]! },[rq 5 [v.fr,16,0,0,0,0,0,0]]):=by unfold Mg.press;rw [h1];simp only [getM he]
  have hcf:=yi m (mF m) (mW m) v.fr 16 0 0 0 0 0 [] (by simp) (by omega) hpF hpW
  rw [hr]
  refine CallT.intro zc Tryd.func95 rfl (by kernel_rfl) (Nat.le_of_ble_eq_true rfl) ?_;refine ze zc [] rfl ?_;iterate 2 refine za rfl ?_
  refine zr (m:=0) rfl rfl rfl rfl rfl rfl zu ?_;refine zm rfl rfl yn ?_;refine zq rfl rfl (CallT.frame (hof) [0,1,2,3] rfl z3 z3 ?_)
  rintro _ _ ⟨rfl,rfl⟩;refine frK zy zy ?_;iterate 3 refine za rfl ?_
  refine yk rfl rfl ?_;refine zp rfl rfl rfl rfl rfl xf rfl ?_;refine za rfl ?_;refine zb ?_;refine z7 ([(0,.ptr 0 0),(4,.iptr (frC v) 0)]) (tnH m (mF m) (mW m) []) [1,5] rfl (by refine ⟨[some 0,some 1,some 2,some 3],rfl,yb,ya,?_,?_⟩ <;> (repeat' first | exact trivial | exact yc | exact yd | exact z9 rfl | refine zn ?_ ?_ | refine zk rfl ?_ ?_ | refine zj ?_ ?_ | refine ye rfl ?_ | fail) <;> first | exact yv | (first | exact yg (Cv.om rfl) (Cv.om rfl) (Cv.slc rfl (.inr rfl)) | exact yg (Cv.om rfl) (Cv.om rfl) (Cv.slc rfl (.inl rfl)) | exact CvL.pure (zg _ _) | exact Cv.ptr rfl | exact Cv.fptr ⟨rfl,(show some 4∉[some 0,some 1,some 2,some 3] by simp)⟩ (CvL.pure rfl))) ?_
  refine ze zc [] rfl ?_;refine za rfl ?_;refine zb ?_;refine xv rfl ?_;refine ze zc [] rfl ?_;iterate 3 refine za rfl ?_
  refine zq rfl rfl (CallT.frame (hcf) [0,1,2,3] rfl z3 z3 ?_)
  rintro _ _ ⟨rfl,rfl⟩;refine frK zy zy ?_;refine zb ?_;refine wc zc [] [_,_,_,_,_,_,_,_,_,_,_,_,_] rfl yj yj ?_;iterate 4 refine za rfl ?_
  refine zr rfl rfl rfl rfl rfl y9 zu ?_;refine zm rfl rfl yn ?_;refine za rfl ?_;refine zr rfl rfl rfl rfl rfl y9 zu ?_;refine zm rfl rfl yn ?_;iterate 4 refine za rfl ?_
  refine zb ?_;refine zp rfl rfl rfl rfl rfl xf rfl ?_;refine zb ?_;exact ⟨trivial,_,rfl,rfl,rfl⟩
theorem move_t (m : Mg) (n : List Int) (top : Int) (ok : m.Ok top) (htop : top≤1000000) (hn : 9≤n.length) (h6 : r32 n[6]!) (h7 : r32 n[7]!) :
  CallT Tryd.prog 97 [.ptr 0 0,cIf n] (tnH m (mF m) (mW m) []) (fun t H'=>t = .tup []∧H' = ranH (m.move n[6]! n[7]!).1 (m.move n[6]! n[7]!).2 []):=by
 have hc:=ok.cnt
 have hpF:=piF m.F
 have hpW:=piW m.W
 have hd:=ok.dr
 cases hon : m.on with
 | false=>
  have hr : m.move n[6]! n[7]! = (m,[]):=by unfold Mg.move;rw [if_neg (by simp [hon])]
  rw [hr]
  refine CallT.intro zc Tryd.func97 rfl (by kernel_rfl) (Nat.le_of_ble_eq_true rfl) ?_;refine ze zc [] rfl ?_;iterate 6 refine za rfl ?_
  refine zb ?_;refine zi rfl (fun hc0=>?_) (fun hc0=>?_)
  ·exact absurd hc0 (by simp [hon])
  ·(try simp only [zf] at hc0)
   refine zt ?_;exact ⟨trivial,_,rfl,rfl,rfl⟩
 | true=>
  have hr : m.move n[6]! n[7]! = (m.up 1,[rq 5 [m.df,3,boundI (n[6]! - m.dx),boundI (n[7]! - m.dy),0,0,0,0]]):=by unfold Mg.move;rw [if_pos hon]
  have hb1:=zb2 (n[6]! - m.dx)
  have hb2:=zb2 (n[7]! - m.dy)
  have hcf:=yi m (mF m) (mW m) m.df 3 (boundI (n[6]! - m.dx)) (boundI (n[7]! - m.dy)) 0 0 0 [] (by simp) (by omega) hpF hpW
  rw [hr]
  unfold r32 at h6 h7 hd
  refine CallT.intro zc Tryd.func97 rfl (by kernel_rfl) (Nat.le_of_ble_eq_true rfl) ?_;refine ze zc [] rfl ?_;iterate 6 refine za rfl ?_
  refine zb ?_;refine zi rfl (fun hc0=>?_) (fun hc0=>?_)
  ·(try simp only [zf] at hc0)
   refine wc zc [] [_,_,_,_,_,_,_,_,_,_,_,_,_,_,_,_,_,_,_,_,_,_,_,_,_,_,_,_,_] rfl yj yj ?_;iterate 8 refine za rfl ?_
   refine zr rfl rfl rfl rfl rfl y9 zu ?_;refine zm rfl rfl yn ?_;iterate 6 refine za rfl ?_
   refine pq (a:=n[6]!) (b:=m.dx) rfl rfl zu ?_;refine z6 rfl rfl rfl (hb1) ?_;refine za rfl ?_;refine zr rfl rfl rfl rfl rfl y9 zu ?_;refine zm rfl rfl yn ?_;iterate 6 refine za rfl ?_
   refine pq (a:=n[7]!) (b:=m.dy) rfl rfl zu ?_;refine z6 rfl rfl rfl (hb2) ?_;refine zb ?_;refine zq rfl rfl (CallT.frame (hcf) [0,1,2,3] rfl z3 z3 ?_)
   rintro _ _ ⟨rfl,rfl⟩;refine frK zy zy ?_;refine zb ?_;exact ⟨trivial,_,rfl,rfl,rfl⟩
  ·exact absurd hc0 (by simp [hon])
theorem zfz (m : Mg) (n : List Int) :
  CallT Tryd.prog 96 [.ptr 0 0,cIf n] (tnH m (mF m) (mW m) []) (fun t H'=>t = .tup []∧H' = ranH m.release [] []):=by
 have hpF:=piF m.F
 have hpW:=piW m.W
 refine CallT.intro zc Tryd.func96 rfl (by kernel_rfl) (Nat.le_of_ble_eq_true rfl) ?_;refine z4 zc [] rfl ?_;iterate 5 refine za rfl ?_
 refine zp rfl rfl rfl rfl rfl xf rfl ?_;refine zb ?_;exact ⟨trivial,_,rfl,rfl,rfl⟩
theorem zhd (m : Mg) (n : List Int) (top : Int) (ok : m.Ok top) (htop : top≤1000000) (hn : 2≤n.length) :
  CallT Tryd.prog 92 [.ptr 0 0,cIf n] (tnH m (mF m) (mW m) []) (fun t H'=>t = .tup []∧H' = ranH (m.destroy n[0]! n[1]!).1 (m.destroy n[0]! n[1]!).2 []):=by
 have hc:=ok.cnt
 have hpF:=piF m.F
 have hpW:=piW m.W
 have hown:=zkb m (askZ []) n[0]! n[1]! (tr []) ok.fk
 cases ho : m.own n[0]! n[1]! with
 | none=>
  have hr : m.destroy n[0]! n[1]! = (m,[]):=by unfold Mg.destroy;rw [ho]
  rw [zau ho] at hown
  rw [hr]
  generalize (lkF m.F n[1]!).1 = v at *
  refine CallT.intro zc Tryd.func92 rfl (by kernel_rfl) (Nat.le_of_ble_eq_true rfl) ?_;refine ug zc [] [_,_,_,_,_,_,_,_,_,_,_,_,_] (tnH m (mF m) (mW m) []) [false,false,false,false,false,false,false,false,false,false,false,true,true] rfl yj yj yj (by repeat' first | exact xe | refine xc ?_ | refine y8 ?_) ?_;refine yp rfl ?_;refine yp rfl ?_;refine vr (m:=0) rfl rfl rfl rfl rfl rfl zu ?_;refine wm rfl rfl yn ?_;refine yp rfl ?_;refine vr (m:=1) rfl rfl rfl rfl rfl rfl zu ?_;refine wm rfl rfl yn ?_;refine tk rfl rfl (hown) rfl (CvL.cons (u7 m []) (CvL.cons (Cv.pure rfl) (CvL.cons (Cv.pure rfl) CvL.nil))) ?_;refine yp rfl ?_;refine yp rfl ?_;refine yp rfl ?_;refine qd rfl rfl (by repeat' first | exact xe | refine xc ?_ | refine y8 ?_) ?_;refine pr rfl rfl rfl rfl rfl xf rfl rfl (by repeat' first | exact xe | refine xc ?_ | refine y8 ?_) ?_;refine tt ?_;refine za rfl ?_;refine zb ?_;refine z7 ([(0,.ptr 0 0),(4,.iptr (frC v) 0)]) (tnH m (mF m) (mW m) []) [1,5] rfl (by refine ⟨[some 0,some 1,some 2,some 3],rfl,yb,ya,?_,?_⟩ <;> (repeat' first | exact trivial | exact yc | exact yd | exact z9 rfl | refine zn ?_ ?_ | refine zk rfl ?_ ?_ | refine zj ?_ ?_ | refine ye rfl ?_ | fail) <;> first | exact yv | (first | exact yg (Cv.om rfl) (Cv.om rfl) (Cv.slc rfl (.inr rfl)) | exact yg (Cv.om rfl) (Cv.om rfl) (Cv.slc rfl (.inl rfl)) | exact CvL.pure (zg _ _) | exact Cv.ptr rfl | exact Cv.fptr ⟨rfl,(show some 4∉[some 0,some 1,some 2,some 3] by simp)⟩ (CvL.pure rfl))) ?_
  refine ze zc [] rfl ?_;refine za rfl ?_;refine zb ?_;refine yq rfl ?_;refine zt ?_;exact ⟨trivial,_,rfl,rfl,rfl⟩
 | some i=>
  obtain ⟨v,he,hv,hp⟩:=zf7 ho
  rw [xb hp he,show ((v,true).2 && ((v,true).1.fr == n[0]!)) = true from by simpa using hv] at hown
  have hfg:=zdg m i n[1]! v top ok htop he
  have hfl : (m.forget i).2 = [rq 2 [v.fr]]:=by unfold Mg.forget;simp only [getM he]
  ·have hr : m.destroy n[0]! n[1]! = m.forget i:=by unfold Mg.destroy;rw [ho]
   obtain ⟨M2,hM2⟩ : ∃ M2,M2 = (m.forget i).1:=⟨_,rfl⟩
   rw [hr]
   rw [hfl] at hfg ⊢
   rw [← hM2] at hfg ⊢
   have hpF2:=piF M2.F
   have hpW2:=piW M2.W
   refine CallT.intro zc Tryd.func92 rfl (by kernel_rfl) (Nat.le_of_ble_eq_true rfl) ?_;refine ug zc [] [_,_,_,_,_,_,_,_,_,_,_,_,_] (tnH m (mF m) (mW m) []) [false,false,false,false,false,false,false,false,false,false,false,true,true] rfl yj yj yj (by repeat' first | exact xe | refine xc ?_ | refine y8 ?_) ?_;refine yp rfl ?_;refine yp rfl ?_;refine vr (m:=0) rfl rfl rfl rfl rfl rfl zu ?_;refine wm rfl rfl yn ?_;refine yp rfl ?_;refine vr (m:=1) rfl rfl rfl rfl rfl rfl zu ?_;refine wm rfl rfl yn ?_;refine tk rfl rfl (hown) rfl (CvL.cons (u7 m []) (CvL.cons (Cv.pure rfl) (CvL.cons (Cv.pure rfl) CvL.nil))) ?_;refine yp rfl ?_;refine yp rfl ?_;refine yp rfl ?_;refine qd rfl rfl (by repeat' first | exact xe | refine xc ?_ | refine y8 ?_) ?_;refine pr rfl rfl rfl rfl rfl xf rfl rfl (by repeat' first | exact xe | refine xc ?_ | refine y8 ?_) ?_;refine tt ?_;refine za rfl ?_;refine zb ?_;refine z7 ([(0,.ptr 0 0),(4,.iptr (frC v) 0)]) (tnH m (mF m) (mW m) []) [1,5] rfl (by refine ⟨[some 0,some 1,some 2,some 3],rfl,yb,ya,?_,?_⟩ <;> (repeat' first | exact trivial | exact yc | exact yd | exact z9 rfl | refine zn ?_ ?_ | refine zk rfl ?_ ?_ | refine zj ?_ ?_ | refine ye rfl ?_ | fail) <;> first | exact yv | (first | exact yg (Cv.om rfl) (Cv.om rfl) (Cv.slc rfl (.inr rfl)) | exact yg (Cv.om rfl) (Cv.om rfl) (Cv.slc rfl (.inl rfl)) | exact CvL.pure (zg _ _) | exact Cv.ptr rfl | exact Cv.fptr ⟨rfl,(show some 4∉[some 0,some 1,some 2,some 3] by simp)⟩ (CvL.pure rfl))) ?_
   refine ze zc [] rfl ?_;refine za rfl ?_;refine zb ?_;refine xv rfl ?_;refine wc zc [] [_,_,_,_,_] rfl yj yj ?_;iterate 2 refine za rfl ?_
   refine zr rfl rfl rfl rfl rfl y9 zu ?_;refine zm rfl rfl yn ?_;refine za rfl ?_;refine zb ?_;refine zq rfl rfl (CallT.frame (hfg) [0,1,2,3] rfl z3 z3 ?_)
   rintro _ _ ⟨rfl,rfl⟩;refine frK zy zy ?_;refine zb ?_;exact ⟨trivial,_,rfl,rfl,rfl⟩
theorem zd0 (m : Mg) (n : List Int) (top : Int) (ok : m.Ok top) (htop : top≤1000000) (hn : 3≤n.length) :
  CallT Tryd.prog 93 [.ptr 0 0,cIf n] (tnH m (mF m) (mW m) []) (fun t H'=>t = .tup []∧H' = ranH (m.reparent n[0]! n[1]! n[2]!).1 (m.reparent n[0]! n[1]! n[2]!).2 []):=by
 have hc:=ok.cnt
 have hpF:=piF m.F
 have hpW:=piW m.W
 have hown:=zkb m (askZ []) n[0]! n[1]! (tr []) ok.fk
 cases ho : m.own n[0]! n[1]! with
 | none=>
  have hr : m.reparent n[0]! n[1]! n[2]! = (m,[]):=by unfold Mg.reparent;rw [ho]
  rw [zau ho] at hown
  rw [hr]
  generalize (lkF m.F n[1]!).1 = v at *
  refine CallT.intro zc Tryd.func93 rfl (by kernel_rfl) (Nat.le_of_ble_eq_true rfl) ?_;refine ug zc [] [_,_,_,_,_,_,_,_,_,_,_,_,_] (tnH m (mF m) (mW m) []) [false,false,false,false,false,false,false,false,false,false,false,true,true] rfl yj yj yj (by repeat' first | exact xe | refine xc ?_ | refine y8 ?_) ?_;refine yp rfl ?_;refine yp rfl ?_;refine vr (m:=0) rfl rfl rfl rfl rfl rfl zu ?_;refine wm rfl rfl yn ?_;refine yp rfl ?_;refine vr (m:=1) rfl rfl rfl rfl rfl rfl zu ?_;refine wm rfl rfl yn ?_;refine tk rfl rfl (hown) rfl (CvL.cons (u7 m []) (CvL.cons (Cv.pure rfl) (CvL.cons (Cv.pure rfl) CvL.nil))) ?_;refine yp rfl ?_;refine yp rfl ?_;refine yp rfl ?_;refine qd rfl rfl (by repeat' first | exact xe | refine xc ?_ | refine y8 ?_) ?_;refine pr rfl rfl rfl rfl rfl xf rfl rfl (by repeat' first | exact xe | refine xc ?_ | refine y8 ?_) ?_;refine tt ?_;refine za rfl ?_;refine zb ?_;refine z7 ([(0,.ptr 0 0),(4,.iptr (frC v) 0)]) (tnH m (mF m) (mW m) []) [1,5] rfl (by refine ⟨[some 0,some 1,some 2,some 3],rfl,yb,ya,?_,?_⟩ <;> (repeat' first | exact trivial | exact yc | exact yd | exact z9 rfl | refine zn ?_ ?_ | refine zk rfl ?_ ?_ | refine zj ?_ ?_ | refine ye rfl ?_ | fail) <;> first | exact yv | (first | exact yg (Cv.om rfl) (Cv.om rfl) (Cv.slc rfl (.inr rfl)) | exact yg (Cv.om rfl) (Cv.om rfl) (Cv.slc rfl (.inl rfl)) | exact CvL.pure (zg _ _) | exact Cv.ptr rfl | exact Cv.fptr ⟨rfl,(show some 4∉[some 0,some 1,some 2,some 3] by simp)⟩ (CvL.pure rfl))) ?_
  refine yu zc [] [_,_,_,_,_,_,_,_,_] rfl yj yj ?_;iterate 2 refine za rfl ?_
  refine' zx (d:=25) [_,_,_,_,_,_,_] rfl ?_ rfl ?_
  rotate_left
  ·refine zw rfl rfl (fun hb1_1=>?_) (fun hb1_1=>?_)
   ·have ghb1_1:=hb1_1
    try simp only [zf,Bool.not_true,Bool.not_false] at ghb1_1
    refine za rfl ?_;refine zd rfl rfl hb1_1 ?_;refine zr rfl rfl rfl rfl rfl y9 zu ?_;refine zd rfl rfl hb1_1 ?_;refine zm rfl rfl yn ?_;refine zd rfl rfl hb1_1 ?_;refine za rfl ?_;refine zd rfl rfl hb1_1 ?_;refine za rfl ?_;refine zd rfl rfl hb1_1 ?_;refine za rfl ?_;refine zh rfl (fun _=>rfl) ?_;exact zb ⟨rfl,rfl⟩
   ·refine zl rfl rfl hb1_1 ?_;iterate 4 refine zl rfl rfl hb1_1 ?_
    exact zh rfl (fun h=>absurd (h.symm.trans hb1_1) (by decide)) (zb ⟨rfl,rfl⟩)
  iterate 2 refine zb ?_
  refine yq rfl ?_;refine zt ?_;exact ⟨trivial,_,rfl,rfl,rfl⟩
 | some i=>
  obtain ⟨v,he,hv,hp⟩:=zf7 ho
  rw [xb hp he,show ((v,true).2 && ((v,true).1.fr == n[0]!)) = true from by simpa using hv] at hown
  have hfg:=zdg m i n[1]! v top ok htop he
  have hfl : (m.forget i).2 = [rq 2 [v.fr]]:=by unfold Mg.forget;simp only [getM he]
  by_cases h2 : n[2]! = v.fr
  ·have hr : m.reparent n[0]! n[1]! n[2]! = (m,[]):=by unfold Mg.reparent;rw [ho];simp only [getM he];rw [if_pos h2]
   rw [hr]
   refine CallT.intro zc Tryd.func93 rfl (by kernel_rfl) (Nat.le_of_ble_eq_true rfl) ?_;refine ug zc [] [_,_,_,_,_,_,_,_,_,_,_,_,_] (tnH m (mF m) (mW m) []) [false,false,false,false,false,false,false,false,false,false,false,true,true] rfl yj yj yj (by repeat' first | exact xe | refine xc ?_ | refine y8 ?_) ?_;refine yp rfl ?_;refine yp rfl ?_;refine vr (m:=0) rfl rfl rfl rfl rfl rfl zu ?_;refine wm rfl rfl yn ?_;refine yp rfl ?_;refine vr (m:=1) rfl rfl rfl rfl rfl rfl zu ?_;refine wm rfl rfl yn ?_;refine tk rfl rfl (hown) rfl (CvL.cons (u7 m []) (CvL.cons (Cv.pure rfl) (CvL.cons (Cv.pure rfl) CvL.nil))) ?_;refine yp rfl ?_;refine yp rfl ?_;refine yp rfl ?_;refine qd rfl rfl (by repeat' first | exact xe | refine xc ?_ | refine y8 ?_) ?_;refine pr rfl rfl rfl rfl rfl xf rfl rfl (by repeat' first | exact xe | refine xc ?_ | refine y8 ?_) ?_;refine tt ?_;refine za rfl ?_;refine zb ?_;refine z7 ([(0,.ptr 0 0),(4,.iptr (frC v) 0)]) (tnH m (mF m) (mW m) []) [1,5] rfl (by refine ⟨[some 0,some 1,some 2,some 3],rfl,yb,ya,?_,?_⟩ <;> (repeat' first | exact trivial | exact yc | exact yd | exact z9 rfl | refine zn ?_ ?_ | refine zk rfl ?_ ?_ | refine zj ?_ ?_ | refine ye rfl ?_ | fail) <;> first | exact yv | (first | exact yg (Cv.om rfl) (Cv.om rfl) (Cv.slc rfl (.inr rfl)) | exact yg (Cv.om rfl) (Cv.om rfl) (Cv.slc rfl (.inl rfl)) | exact CvL.pure (zg _ _) | exact Cv.ptr rfl | exact Cv.fptr ⟨rfl,(show some 4∉[some 0,some 1,some 2,some 3] by simp)⟩ (CvL.pure rfl))) ?_
   refine yu zc [] [_,_,_,_,_,_,_,_,_] rfl yj yj ?_;iterate 2 refine za rfl ?_
   refine' zx (d:=25) [_,_,_,_,_,_,_] rfl ?_ rfl ?_
   rotate_left
   ·refine zw rfl rfl (fun hb1_1=>?_) (fun hb1_1=>?_)
    ·have ghb1_1:=hb1_1
     try simp only [zf,Bool.not_true,Bool.not_false] at ghb1_1
     refine za rfl ?_;refine zd rfl rfl hb1_1 ?_;refine zr rfl rfl rfl rfl rfl y9 zu ?_;refine zd rfl rfl hb1_1 ?_;refine zm rfl rfl yn ?_;refine zd rfl rfl hb1_1 ?_;refine za rfl ?_;refine zd rfl rfl hb1_1 ?_;refine za rfl ?_;refine zd rfl rfl hb1_1 ?_;refine za rfl ?_;refine zh rfl (fun _=>rfl) ?_;exact zb ⟨rfl,rfl⟩
    ·refine zl rfl rfl hb1_1 ?_;iterate 4 refine zl rfl rfl hb1_1 ?_
     exact zh rfl (fun h=>absurd (h.symm.trans hb1_1) (by decide)) (zb ⟨rfl,rfl⟩)
   iterate 2 refine zb ?_
   refine zi rfl (fun hc0=>?_) (fun hc0=>?_)
   ·exact absurd hc0 (by simp [h2])
   ·(try simp only [zf] at hc0)
    refine zt ?_;exact ⟨trivial,_,rfl,rfl,rfl⟩
  ·have hr : m.reparent n[0]! n[1]! n[2]! = m.forget i:=by unfold Mg.reparent;rw [ho];simp only [getM he];rw [if_neg h2]
   obtain ⟨M2,hM2⟩ : ∃ M2,M2 = (m.forget i).1:=⟨_,rfl⟩
   rw [hr]
   rw [hfl] at hfg ⊢
   rw [← hM2] at hfg ⊢
   have hpF2:=piF M2.F
   have hpW2:=piW M2.W
   refine CallT.intro zc Tryd.func93 rfl (by kernel_rfl) (Nat.le_of_ble_eq_true rfl) ?_;refine ug zc [] [_,_,_,_,_,_,_,_,_,_,_,_,_] (tnH m (mF m) (mW m) []) [false,false,false,false,false,false,false,false,false,false,false,true,true] rfl yj yj yj (by repeat' first | exact xe | refine xc ?_ | refine y8 ?_) ?_;refine yp rfl ?_;refine yp rfl ?_;refine vr (m:=0) rfl rfl rfl rfl rfl rfl zu ?_;refine wm rfl rfl yn ?_;refine yp rfl ?_;refine vr (m:=1) rfl rfl rfl rfl rfl rfl zu ?_;refine wm rfl rfl yn ?_;refine tk rfl rfl (hown) rfl (CvL.cons (u7 m []) (CvL.cons (Cv.pure rfl) (CvL.cons (Cv.pure rfl) CvL.nil))) ?_;refine yp rfl ?_;refine yp rfl ?_;refine yp rfl ?_;refine qd rfl rfl (by repeat' first | exact xe | refine xc ?_ | refine y8 ?_) ?_;refine pr rfl rfl rfl rfl rfl xf rfl rfl (by repeat' first | exact xe | refine xc ?_ | refine y8 ?_) ?_;refine tt ?_;refine za rfl ?_;refine zb ?_;refine z7 ([(0,.ptr 0 0),(4,.iptr (frC v) 0)]) (tnH m (mF m) (mW m) []) [1,5] rfl (by refine ⟨[some 0,some 1,some 2,some 3],rfl,yb,ya,?_,?_⟩ <;> (repeat' first | exact trivial | exact yc | exact yd | exact z9 rfl | refine zn ?_ ?_ | refine zk rfl ?_ ?_ | refine zj ?_ ?_ | refine ye rfl ?_ | fail) <;> first | exact yv | (first | exact yg (Cv.om rfl) (Cv.om rfl) (Cv.slc rfl (.inr rfl)) | exact yg (Cv.om rfl) (Cv.om rfl) (Cv.slc rfl (.inl rfl)) | exact CvL.pure (zg _ _) | exact Cv.ptr rfl | exact Cv.fptr ⟨rfl,(show some 4∉[some 0,some 1,some 2,some 3] by simp)⟩ (CvL.pure rfl))) ?_
   refine yu zc [] [_,_,_,_,_,_,_,_,_] rfl yj yj ?_;iterate 2 refine za rfl ?_
   refine' zx (d:=25) [_,_,_,_,_,_,_] rfl ?_ rfl ?_
   rotate_left
   ·refine zw rfl rfl (fun hb1_1=>?_) (fun hb1_1=>?_)
    ·have ghb1_1:=hb1_1
     try simp only [zf,Bool.not_true,Bool.not_false] at ghb1_1
     refine za rfl ?_;refine zd rfl rfl hb1_1 ?_;refine zr rfl rfl rfl rfl rfl y9 zu ?_;refine zd rfl rfl hb1_1 ?_;refine zm rfl rfl yn ?_;refine zd rfl rfl hb1_1 ?_;refine za rfl ?_;refine zd rfl rfl hb1_1 ?_;refine za rfl ?_;refine zd rfl rfl hb1_1 ?_;refine za rfl ?_;refine zh rfl (fun _=>rfl) ?_;exact zb ⟨rfl,rfl⟩
    ·refine zl rfl rfl hb1_1 ?_;iterate 4 refine zl rfl rfl hb1_1 ?_
     exact zh rfl (fun h=>absurd (h.symm.trans hb1_1) (by decide)) (zb ⟨rfl,rfl⟩)
   iterate 2 refine zb ?_
   refine zi rfl (fun hc0=>?_) (fun hc0=>?_)
   ·(try simp only [zf] at hc0)
    refine wc zc [] [_,_,_,_,_] rfl yj yj ?_;iterate 2 refine za rfl ?_
    refine zr rfl rfl rfl rfl rfl y9 zu ?_;refine zm rfl rfl yn ?_;refine za rfl ?_;refine zb ?_;refine zq rfl rfl (CallT.frame (hfg) [0,1,2,3] rfl z3 z3 ?_)
    rintro _ _ ⟨rfl,rfl⟩;refine frK zy zy ?_;refine zb ?_;exact ⟨trivial,_,rfl,rfl,rfl⟩
   ·exact absurd hc0 (fun k=>h2 (by simpa using k))
end

section
open Go.RowKit
set_option maxRecDepth 10000
set_option maxHeartbeats 2000000
/- bits of a mask -/
theorem r5 {a : Int} {k : Nat} (h : 0≤a∧a≤2147483647) (hk : k < 32) : bitV .and .i64 a k = ((a.toNat % 32 &&& k : Nat) : Int):=by
 have e : bitV .and .i64 a k = IntKind.i64.wrap (((BitVec.ofInt 64 a) &&& (BitVec.ofInt 64 k)).toNat : Int):=rfl
 have h1 : (BitVec.ofInt 64 a).toNat = a.toNat:=by
  rw [BitVec.toNat_ofInt]
  have : a % ((2 ^ 64 : Nat) : Int) = a:=Int.emod_eq_of_lt h.1 (by omega)
  rw [this]
 have h2 : (BitVec.ofInt 64 (k : Int)).toNat = k:=by
  rw [BitVec.toNat_ofInt]
  have : (k : Int) % ((2 ^ 64 : Nat) : Int) = k:=Int.emod_eq_of_lt (by omega) (by omega)
  rw [this];rfl
 have h3 : a.toNat &&& k = (a.toNat % 32) &&& k:=by
  have : k = 31 &&& k:=by
   have:=Nat.and_two_pow_sub_one_eq_mod k 5
   rw [Nat.and_comm] at this
   exact (this.trans (Nat.mod_eq_of_lt hk)).symm
  have h4:=Nat.and_two_pow_sub_one_eq_mod a.toNat 5
  rw [show a.toNat % 32 = a.toNat &&& 31 from h4.symm,Nat.and_assoc,← this]
 rw [e,BitVec.toNat_and,h1,h2,h3]
 have : (a.toNat % 32 &&& k)≤k:=Nat.and_le_right
 rw [w4 (by omega)]
theorem rz : ∀ x : Fin 32,((x.val &&& 12 != 0) = (x.val / 4 % 2 == 1 || x.val / 8 % 2 == 1))∧((x.val &&& 4 != 0) = (x.val / 4 % 2 == 1))∧((x.val &&& 8 != 0) = (x.val / 8 % 2 == 1))∧((x.val &&& 16 != 0) = (x.val / 16 % 2 == 1))∧((x.val &&& 3 != 0) = (x.val % 2 == 1 || x.val / 2 % 2 == 1))∧(x.val &&& 3) = x.val % 4:=by decide
theorem si {a : Int} (h : 0≤a) (k d : Nat) (hk : k = 1∨k = 2∨k = 4∨k = 8∨k = 16) : bit a k = (a.toNat % 32 / k % 2 == 1):=by
 unfold bit
 rw [Bool.eq_iff_iff,beq_iff_eq,beq_iff_eq]
 rcases hk with rfl | rfl | rfl | rfl | rfl <;> omega
theorem qy (x : Nat) : (((x : Nat) : Int) != 0) = (x != 0):=by
 rw [Bool.eq_iff_iff,bne_iff_ne,bne_iff_ne];omega
theorem and12 {a : Int} (h : 0≤a∧a≤2147483647) : (bitV .and .i64 a 12 != 0) = (bit a 4 || bit a 8):=by
 have:=(rz ⟨a.toNat % 32,by omega⟩).1
 rw [show bitV .and .i64 a 12 = _ from r5 (k:=12) h (by decide),qy,this,show bit a 4 = _ from si h.1 4 0 (by decide),show bit a 8 = _ from si h.1 8 0 (by decide)]
theorem and4 {a : Int} (h : 0≤a∧a≤2147483647) : (bitV .and .i64 a 4 != 0) = bit a 4:=by
 have:=(rz ⟨a.toNat % 32,by omega⟩).2.1
 rw [show bitV .and .i64 a 4 = _ from r5 (k:=4) h (by decide),qy,this,show bit a 4 = _ from si h.1 4 0 (by decide)]
theorem and8 {a : Int} (h : 0≤a∧a≤2147483647) : (bitV .and .i64 a 8 != 0) = bit a 8:=by
 have:=(rz ⟨a.toNat % 32,by omega⟩).2.2.1
 rw [show bitV .and .i64 a 8 = _ from r5 (k:=8) h (by decide),qy,this,show bit a 8 = _ from si h.1 8 0 (by decide)]
theorem and16 {a : Int} (h : 0≤a∧a≤2147483647) : (bitV .and .i64 a 16 != 0) = bit a 16:=by
 have:=(rz ⟨a.toNat % 32,by omega⟩).2.2.2.1
 rw [show bitV .and .i64 a 16 = _ from r5 (k:=16) h (by decide),qy,this,show bit a 16 = _ from si h.1 16 0 (by decide)]
theorem and3 {a : Int} (h : 0≤a∧a≤2147483647) : (bitV .and .i64 a 3 != 0) = (bit a 1 || bit a 2):=by
 have:=(rz ⟨a.toNat % 32,by omega⟩).2.2.2.2.1
 rw [show bitV .and .i64 a 3 = _ from r5 (k:=3) h (by decide),qy,this,show bit a 1 = _ from si h.1 1 0 (by decide),show bit a 2 = _ from si h.1 2 0 (by decide),Nat.div_one]
theorem and3v {a : Int} (h : 0≤a∧a≤2147483647) : bitV .and .i64 a 3 = a % 4:=by
 have : a.toNat % 32 &&& 3 = a.toNat % 32 % 4:=(rz ⟨a.toNat % 32,by omega⟩).2.2.2.2.2
 rw [show bitV .and .i64 a 3 = _ from r5 (k:=3) h (by decide),this]
 omega
theorem srcX (r : Int) (l : List Int) (xs : List T) : srcCells tab (lookH []) 48 1 (.islc (encL cI (r :: l) ++ xs) (l.length + 1) none) = some (encL cI (r :: l),l.length + 1):=by
 have e : (encL cI (r :: l)).length = l.length + 1:=by rw [xa];exact Nat.mul_one _
 show (if (l.length + 1) * 1≤(encL cI (r :: l) ++ xs).length then some ((encL cI (r :: l) ++ xs).take ((l.length + 1) * 1),l.length + 1) else none) = _
 rw [Nat.mul_one,if_pos (by rw [List.length_append,e];omega),List.take_append_of_le_length (by omega),List.take_of_length_le (by omega)]
/- asking with a row that goes on -/
abbrev cLx (r : Int) (n : List Int) (xs : List T) : T:=.islc (encL cI (r :: n) ++ xs) (n.length + 1) none
theorem ziw (r : Int) (l : List Int) (xs : List T) (hx : T.pureL xs = true) (hl : l.length≤1000) : CallP Tryd.prog 80 [cLx r l xs] (cIf (r :: l)):=by
 have hpu : T.pureL (encL cI (r :: l) ++ xs) = true:=by rw [ud,zg,hx];rfl
 refine CallP.intro2 yw yw ?_;refine CallT.intro zc Tryd.func80 rfl (by kernel_rfl) (Nat.le_of_ble_eq_true rfl) ?_;refine ze zc [] rfl ?_;refine za rfl ?_;refine zb ?_;refine zo ?_;refine ze zc [] rfl ?_;iterate 2 refine za rfl ?_
 refine zb ?_;refine yq rfl ?_;refine zt ?_;refine ze zc [] rfl ?_;refine yk rfl rfl ?_;refine za rfl ?_;refine u4 (ys:=encL cI (r :: l)) (n2:=l.length + 1) rfl rfl rfl rfl rfl rfl (srcX r l xs) rfl (Nat.le_refl _) (by dsimp only [List.length_cons];omega) zu (by rw [xa];rfl) (za9 cI _) ?_;refine za rfl ?_;refine zb ?_;refine yr ?_;refine ⟨trivial,_,rfl,?_⟩;show Cv _ (.slc _ 0 (0 + (r :: l).length) 1 none) _;rw [Nat.zero_add];exact Cv.fslc0 ⟨rfl,by simp⟩ (CvL.pure (zg cI _))
theorem zjr (m : Mg) (p q : OP) (b : List UInt8) (code r : Int) (n : List Int) (xs : List T) (hx : T.pureL xs = true) (l : List Rq) (hn : n.length≤100) (hl : l.length≤100) (hc : 0≤m.cnt∧m.cnt≤2000000) (hp : p.pi = true) (hq : q.pi = true) :
  CallT Tryd.prog 55 [.ptr 0 0,strT b,I64 code,cLx r n xs] [.c (tnC m (askT 3 l)),.o p,.o q,.c (encL cRn l)]
   (fun t H'=>t = .tup []∧H' = [.c (tnC { m with cnt:=m.cnt + 1 } (askT 4 (l ++ [⟨code,r :: n,b,[]⟩]))),.o p,.o q,.d,.c (encL cRn (l ++ [⟨code,r :: n,b,[]⟩]))]):=by
 have hpu : T.pureL (encL cI (r :: n) ++ xs) = true:=by rw [ud,zg,hx];rfl
 have hcl:=ziw r n xs hx (by omega)
 refine CallT.intro zc Tryd.func55 rfl (by kernel_rfl) (Nat.le_of_ble_eq_true rfl) ?_;refine ug zc [18] [_,_,_,_,_,_,_,_,_,_,_,_] ([.c (tnC m (askT 3 l)),.o p,.o q,.d]) [false,false,false,false,false,false,false,false,false,false,false,true] rfl yj yj yj (by repeat' first | exact xe | refine xc ?_ | refine y8 ?_) ?_;refine yp rfl ?_;refine yp rfl ?_;refine yp rfl ?_;refine yp rfl ?_;refine yp rfl ?_;refine yp rfl ?_;refine yp rfl ?_;refine zbg rfl rfl (hcl) ?_;refine yp rfl ?_;refine yp rfl ?_;refine zcs rfl ?_;refine' pt rfl rfl rfl rfl rfl rfl rfl rfl ?h1 ?h2 ?h3 ?h4 ?h5 (y8 (y8 (y8 (xc xe)))) ?_
 case h1=>rw [xa,zan];omega
 case h2=>exact Nat.le_trans (Nat.mul_le_mul_right _ (show l.length + 1≤1000 by omega)) (by decide)
 case h3=>show l.length + 1≤_;omega
 case h4=>rfl
 case h5=>rfl
 refine tt ?_;iterate 2 refine za rfl ?_
 refine zp rfl rfl rfl rfl rfl xf rfl ?_;refine zb ?_;refine z4 zc [] rfl ?_;iterate 6 refine za rfl ?_
 refine xg rfl rfl zu ?_;iterate 4 refine za rfl ?_
 refine zp rfl rfl rfl rfl rfl xf rfl ?_;refine zb ?_;refine ⟨trivial,_,rfl,rfl,?_⟩;simp only [askT,setH,wy,List.length_append,List.length_singleton,List.drop_zero,List.cons_append,List.nil_append];rw [List.take_of_length_le (by rw [xa,zan];exact Nat.le_refl _)];rfl
theorem askX_t (m : Mg) (p q : OP) (code r : Int) (n : List Int) (xs : List T) (hx : T.pureL xs = true) (l : List Rq) (hn : n.length≤100) (hl : l.length≤100) (hc : 0≤m.cnt∧m.cnt≤2000000) (hp : p.pi = true) (hq : q.pi = true) :
  CallT Tryd.prog 54 [.ptr 0 0,I64 code,cLx r n xs] (tnH m p q l)
   (fun t H'=>t = .tup []∧H' = tnH1 (m.up 1) p q (l ++ [rq code (r :: n)])):=by
 have hpu : T.pureL (encL cI (r :: n) ++ xs) = true:=by rw [ud,zg,hx];rfl
 have ht:=zjr m p q [] code r n xs hx l hn hl hc hp hq
 refine CallT.intro zc Tryd.func54 rfl (by kernel_rfl) (Nat.le_of_ble_eq_true rfl) ?_;refine z4 zc [] rfl ?_;iterate 3 refine za rfl ?_
 refine zq rfl rfl (CallT.frame (ht) [0,1,2,3] rfl z3 z3 ?_)
 rintro _ _ ⟨rfl,rfl⟩;refine frK zy zy ?_;refine zb ?_;exact ⟨trivial,_,rfl,rfl,rfl⟩
abbrev tnHf (m : Mg) (p q : OP) (l : List Rq) (v : Fr) : Hp:=[.c (tnC m (askT 3 l)),.o p,.o q,.c (encL cRn l),.c (frC v)]
abbrev tnH1f (m : Mg) (p q : OP) (l : List Rq) (v : Fr) : Hp:=[.c (tnC m (askT 4 l)),.o p,.o q,.d,.c (encL cRn l),.c (frC v)]
abbrev tnH2f (m : Mg) (p q : OP) (l : List Rq) (v : Fr) : Hp:=[.c (tnC m (askT 5 l)),.o p,.o q,.d,.d,.c (encL cRn l),.c (frC v)]
theorem vz (m : Mg) (F : List (Int × Fr)) (a b c : Int) (h : a + b = c) : ({ m.up a with F:=F } : Mg).up b = { m.up c with F:=F }:=congrArg (fun x : Mg=>{ x with F:=F }) (we m a b c h)
theorem nine {n : List Int} (h : 9≤n.length) : n = n[0]! :: n[1]! :: n[2]! :: n[3]! :: n[4]! :: n[5]! :: n[6]! :: n[7]! :: n[8]! :: n.drop 9:=by
 match n,h with
 | a :: b :: c :: d :: e :: f :: g :: i :: j :: r,_=>rfl
theorem conf_no (m : Mg) (n : List Int) (top : Int) (ok : m.Ok top) (htop : top≤1000000) (hn : 9≤n.length) (hp : posK m.F n[1]! = none) :
  CallT Tryd.prog 90 [.ptr 0 0,cIf n] (tnH m (mF m) (mW m) []) (fun t H'=>t = .tup []∧H' = ranH (m.conf n[1]! n[2]! n[3]! n[4]! n[5]! n[6]! n[7]! n[8]!).1 (m.conf n[1]! n[2]! n[3]! n[4]! n[5]! n[6]! n[7]! n[8]!).2 []):=by
 have hc:=ok.cnt
 have hpF:=piF m.F
 have hpW:=piW m.W
 have hlk:=lookF ok.fk n[1]! true
 have hr : m.conf n[1]! n[2]! n[3]! n[4]! n[5]! n[6]! n[7]! n[8]! = (m.up 1,[rq 5 [n[1]!,n[2]!,n[3]!,n[4]!,n[5]!,n[6]!,n[7]!,n[8]!]]):=by unfold Mg.conf;rw [hp]
 have hx : T.pureL (encL cI (n.drop 9)) = true:=zg _ _
 have ha:=askX_t m (mF m) (mW m) 5 n[1]! [n[2]!,n[3]!,n[4]!,n[5]!,n[6]!,n[7]!,n[8]!] (encL cI (n.drop 9)) hx [] (by simp) (by simp) (by omega) hpF hpW
 have hd : (encL cI n).drop 1 = encL cI [n[1]!,n[2]!,n[3]!,n[4]!,n[5]!,n[6]!,n[7]!,n[8]!] ++ encL cI (n.drop 9):=by
  have h9:=nine hn
  generalize n.drop 9 = r at h9
  rw [h9];rfl
 rw [hr]
 rw [s0 hp] at hlk
 refine CallT.intro zc Tryd.func90 rfl (by kernel_rfl) (Nat.le_of_ble_eq_true rfl) ?_;refine yu zc [] [_,_,_,_,_,_,_,_,_,_,_,_,_,_,_,_,_,_,_,_] rfl yj yj ?_;refine za rfl ?_;refine zr rfl rfl rfl rfl rfl y9 zu ?_;refine zm rfl rfl yn ?_;refine za rfl ?_;refine zr rfl rfl rfl rfl rfl y9 zu ?_;refine zm rfl rfl yn ?_;refine za rfl ?_;refine zr rfl rfl rfl rfl rfl y9 zu ?_;refine zm rfl rfl yn ?_;refine za rfl ?_;refine zr rfl rfl rfl rfl rfl y9 zu ?_;refine zm rfl rfl yn ?_;refine za rfl ?_;refine zr rfl rfl rfl rfl rfl y9 zu ?_;refine zm rfl rfl yn ?_;iterate 5 refine za rfl ?_
 iterate 2 refine zb ?_
 refine ze zc [] rfl ?_;iterate 6 refine za rfl ?_
 refine yy zc rfl rfl rfl hlk ?_;iterate 3 refine za rfl ?_
 refine yk rfl rfl ?_;refine zp rfl rfl rfl rfl rfl xf rfl ?_;refine za rfl ?_;refine zb ?_;refine z7 ([(0,.ptr 0 0),(9,.iptr (frC zFr) 0)]) (tnH m (mF m) (mW m) []) [1,4,5,6,7,8,10] rfl (by refine ⟨[some 0,some 1,some 2,some 3],rfl,yb,ya,?_,?_⟩ <;> (repeat' first | exact trivial | exact yc | exact yd | exact z9 rfl | refine zn ?_ ?_ | refine zk rfl ?_ ?_ | refine zj ?_ ?_ | refine ye rfl ?_ | fail) <;> first | exact yv | (first | exact yg (Cv.om rfl) (Cv.om rfl) (Cv.slc rfl (.inr rfl)) | exact yg (Cv.om rfl) (Cv.om rfl) (Cv.slc rfl (.inl rfl)) | exact CvL.pure (zg _ _) | exact Cv.ptr rfl | exact CvL.pure rfl | exact Cv.fptr ⟨rfl,(by simp)⟩ (CvL.pure rfl))) ?_
 refine zo ?_;refine ze zc [] rfl ?_;iterate 2 refine za rfl ?_
 refine zb ?_;refine xv rfl ?_;refine ze zc [] rfl ?_;iterate 2 refine za rfl ?_
 refine zho (p:=1) (r:=9) rfl rfl rfl rfl rfl rfl rfl rfl rfl zu zu (.inr zu) ?_;rw [show 1 * ({ sz:=1,by_:=8,zero:=[I64 0],k:=Kd.int .i64,eqok:=false } : TyI).sz = 1 from rfl,hd]
 refine zq rfl rfl (CallT.frame (ha) [0,1,2,3] rfl z3 z3 ?_)
 rintro _ _ ⟨rfl,rfl⟩;refine frK zy zy ?_;refine zb ?_;refine yr ?_;exact ⟨trivial,_,rfl,rfl,rfl⟩
theorem ze4 (m : Mg) (n : List Int) (top : Int) (ok : m.Ok top) (htop : top≤1000000) (hn : 9≤n.length) (i : Nat) (v : Fr) (he : m.F[i]? = some (n[1]!,v)) (hp : posK m.F n[1]! = some i) (hm : 0≤n[2]!∧n[2]!≤2147483647) (e4 : bit n[2]! 4 = false) (e8 : bit n[2]! 8 = false) (eL : (bit n[2]! 1 || bit n[2]! 2) = false) (e16 : bit n[2]! 16 = false) (eB : confBig v n[2]! n[5]! n[6]! = false) :
  CallT Tryd.prog 90 [.ptr 0 0,cIf n] (tnH m (mF m) (mW m) []) (fun t H'=>t = .tup []∧H' = ranH (m.conf n[1]! n[2]! n[3]! n[4]! n[5]! n[6]! n[7]! n[8]!).1 (m.conf n[1]! n[2]! n[3]! n[4]! n[5]! n[6]! n[7]! n[8]!).2 []):=by
 have hc:=ok.cnt
 have hpF:=piF m.F
 have hpW:=piW m.W
 have hlk:=lookF ok.fk n[1]! true
 have hmo:=he
 have h12 : (bitV .and .i64 n[2]! 12 != 0) = false:=by rw [and12 hm,e4,e8];rfl
 have h4 : (bitV .and .i64 n[2]! 4 != 0) = false:=by rw [and4 hm,e4]
 have h8 : (bitV .and .i64 n[2]! 8 != 0) = false:=by rw [and8 hm,e8]
 have h16 : (bitV .and .i64 n[2]! 16 != 0) = false:=by rw [and16 hm,e16]
 have h3 : (bitV .and .i64 n[2]! 3 != 0) = false:=by rw [and3 hm,eL]
 have h3v:=and3v hm
 have hr : m.conf n[1]! n[2]! n[3]! n[4]! n[5]! n[6]! n[7]! n[8]! = (m,[]):=by
  unfold Mg.conf;rw [hp];simp only [getM he,confA,eB,eL,e16,confW,confH,e4,e8,if_true,if_false,Bool.false_eq_true,List.append_nil,List.nil_append,List.cons_append,List.length_cons,List.length_nil]
  exact Prod.ext (by show ({ m with cnt:=m.cnt + ((0 : Nat) : Int) } : Mg) = m;rw [show m.cnt + ((0 : Nat) : Int) = m.cnt from by omega]) rfl
 rw [hr]
 rw [xb hp he] at hlk
 refine CallT.intro zc Tryd.func90 rfl (by kernel_rfl) (Nat.le_of_ble_eq_true rfl) ?_;refine yu zc [] [_,_,_,_,_,_,_,_,_,_,_,_,_,_,_,_,_,_,_,_] rfl yj yj ?_;refine za rfl ?_;refine zr rfl rfl rfl rfl rfl y9 zu ?_;refine zm rfl rfl yn ?_;refine za rfl ?_;refine zr rfl rfl rfl rfl rfl y9 zu ?_;refine zm rfl rfl yn ?_;refine za rfl ?_;refine zr rfl rfl rfl rfl rfl y9 zu ?_;refine zm rfl rfl yn ?_;refine za rfl ?_;refine zr rfl rfl rfl rfl rfl y9 zu ?_;refine zm rfl rfl yn ?_;refine za rfl ?_;refine zr rfl rfl rfl rfl rfl y9 zu ?_;refine zm rfl rfl yn ?_;iterate 5 refine za rfl ?_
 iterate 2 refine zb ?_
 refine ze zc [] rfl ?_;iterate 6 refine za rfl ?_
 refine yy zc rfl rfl rfl hlk ?_;iterate 3 refine za rfl ?_
 refine yk rfl rfl ?_;refine zp rfl rfl rfl rfl rfl xf rfl ?_;refine za rfl ?_;refine zb ?_;refine z7 ([(0,.ptr 0 0),(9,.iptr (frC v) 0)]) (tnH m (mF m) (mW m) []) [1,4,5,6,7,8,10] rfl (by refine ⟨[some 0,some 1,some 2,some 3],rfl,yb,ya,?_,?_⟩ <;> (repeat' first | exact trivial | exact yc | exact yd | exact z9 rfl | refine zn ?_ ?_ | refine zk rfl ?_ ?_ | refine zj ?_ ?_ | refine ye rfl ?_ | fail) <;> first | exact yv | (first | exact yg (Cv.om rfl) (Cv.om rfl) (Cv.slc rfl (.inr rfl)) | exact yg (Cv.om rfl) (Cv.om rfl) (Cv.slc rfl (.inl rfl)) | exact CvL.pure (zg _ _) | exact Cv.ptr rfl | exact CvL.pure rfl | exact Cv.fptr ⟨rfl,(by simp)⟩ (CvL.pure rfl))) ?_
 refine zo ?_;refine ze zc [] rfl ?_;iterate 2 refine za rfl ?_
 refine zb ?_;refine yq rfl ?_;refine zt ?_;refine zo ?_;refine ze zc [] rfl ?_;iterate 3 refine za rfl ?_
 refine zb ?_;refine zi rfl (fun hc1=>?_) (fun hc1=>?_)
 ·exact absurd (h12.symm.trans hc1) (by decide)
 ·(try simp only [zf] at hc1)
  refine zt ?_;refine zo ?_;refine ze zc [] rfl ?_;iterate 3 refine za rfl ?_
  refine zb ?_;refine zi rfl (fun hc5=>?_) (fun hc5=>?_)
  ·exact absurd (h3.symm.trans hc5) (by decide)
  ·(try simp only [zf] at hc5)
   refine zt ?_;refine ze zc [] rfl ?_;iterate 3 refine za rfl ?_
   refine zb ?_;refine zi rfl (fun hc6=>?_) (fun hc6=>?_)
   ·exact absurd (h16.symm.trans hc6) (by decide)
   ·(try simp only [zf] at hc6)
    refine zt ?_;exact ⟨trivial,_,rfl,rfl,rfl⟩
theorem ze3 (m : Mg) (n : List Int) (top : Int) (ok : m.Ok top) (htop : top≤1000000) (hn : 9≤n.length) (i : Nat) (v : Fr) (he : m.F[i]? = some (n[1]!,v)) (hp : posK m.F n[1]! = some i) (hm : 0≤n[2]!∧n[2]!≤2147483647) (e4 : bit n[2]! 4 = false) (e8 : bit n[2]! 8 = false) (eL : (bit n[2]! 1 || bit n[2]! 2) = false) (e16 : bit n[2]! 16 = true) (eB : confBig v n[2]! n[5]! n[6]! = false) :
  CallT Tryd.prog 90 [.ptr 0 0,cIf n] (tnH m (mF m) (mW m) []) (fun t H'=>t = .tup []∧H' = ranH (m.conf n[1]! n[2]! n[3]! n[4]! n[5]! n[6]! n[7]! n[8]!).1 (m.conf n[1]! n[2]! n[3]! n[4]! n[5]! n[6]! n[7]! n[8]!).2 []):=by
 have hc:=ok.cnt
 have hpF:=piF m.F
 have hpW:=piW m.W
 have hlk:=lookF ok.fk n[1]! true
 have hmo:=he
 obtain ⟨R0,hR0⟩ : ∃ R,R = rq 5 [v.fr,16,0,0,0,0,0,n[8]!]:=⟨_,rfl⟩
 have h12 : (bitV .and .i64 n[2]! 12 != 0) = false:=by rw [and12 hm,e4,e8];rfl
 have h4 : (bitV .and .i64 n[2]! 4 != 0) = false:=by rw [and4 hm,e4]
 have h8 : (bitV .and .i64 n[2]! 8 != 0) = false:=by rw [and8 hm,e8]
 have h16 : (bitV .and .i64 n[2]! 16 != 0) = true:=by rw [and16 hm,e16]
 have h3 : (bitV .and .i64 n[2]! 3 != 0) = false:=by rw [and3 hm,eL]
 have h3v:=and3v hm
 have hr : m.conf n[1]! n[2]! n[3]! n[4]! n[5]! n[6]! n[7]! n[8]! = (m.up 1,[R0]):=by
  unfold Mg.conf;rw [hp];simp only [getM he,confA,eB,eL,e16,confW,confH,e4,e8,if_true,if_false,Bool.false_eq_true,List.append_nil,List.nil_append,List.cons_append,List.length_cons,List.length_nil,hR0]
  try rfl
 rw [hr]
 rw [xb hp he] at hlk
 have c0 : CallT Tryd.prog 125 [.ptr 0 0,I64 v.fr,I64 16,I64 0,I64 0,I64 0,I64 0,I64 n[8]!] (tnH m (mF m) (mW m) []) (fun t H'=>t = .tup []∧H' = tnH1 (m.up 1) (mF m) (mW m) [R0]):=by
  have:=yi m (mF m) (mW m) v.fr 16 0 0 0 0 n[8]! [] (by simp) (by skip;omega) hpF hpW
  rw [← hR0] at this
  exact this
 refine CallT.intro zc Tryd.func90 rfl (by kernel_rfl) (Nat.le_of_ble_eq_true rfl) ?_;refine yu zc [] [_,_,_,_,_,_,_,_,_,_,_,_,_,_,_,_,_,_,_,_] rfl yj yj ?_;refine za rfl ?_;refine zr rfl rfl rfl rfl rfl y9 zu ?_;refine zm rfl rfl yn ?_;refine za rfl ?_;refine zr rfl rfl rfl rfl rfl y9 zu ?_;refine zm rfl rfl yn ?_;refine za rfl ?_;refine zr rfl rfl rfl rfl rfl y9 zu ?_;refine zm rfl rfl yn ?_;refine za rfl ?_;refine zr rfl rfl rfl rfl rfl y9 zu ?_;refine zm rfl rfl yn ?_;refine za rfl ?_;refine zr rfl rfl rfl rfl rfl y9 zu ?_;refine zm rfl rfl yn ?_;iterate 5 refine za rfl ?_
 iterate 2 refine zb ?_
 refine ze zc [] rfl ?_;iterate 6 refine za rfl ?_
 refine yy zc rfl rfl rfl hlk ?_;iterate 3 refine za rfl ?_
 refine yk rfl rfl ?_;refine zp rfl rfl rfl rfl rfl xf rfl ?_;refine za rfl ?_;refine zb ?_;refine z7 ([(0,.ptr 0 0),(9,.iptr (frC v) 0)]) (tnH m (mF m) (mW m) []) [1,4,5,6,7,8,10] rfl (by refine ⟨[some 0,some 1,some 2,some 3],rfl,yb,ya,?_,?_⟩ <;> (repeat' first | exact trivial | exact yc | exact yd | exact z9 rfl | refine zn ?_ ?_ | refine zk rfl ?_ ?_ | refine zj ?_ ?_ | refine ye rfl ?_ | fail) <;> first | exact yv | (first | exact yg (Cv.om rfl) (Cv.om rfl) (Cv.slc rfl (.inr rfl)) | exact yg (Cv.om rfl) (Cv.om rfl) (Cv.slc rfl (.inl rfl)) | exact CvL.pure (zg _ _) | exact Cv.ptr rfl | exact CvL.pure rfl | exact Cv.fptr ⟨rfl,(by simp)⟩ (CvL.pure rfl))) ?_
 refine zo ?_;refine ze zc [] rfl ?_;iterate 2 refine za rfl ?_
 refine zb ?_;refine yq rfl ?_;refine zt ?_;refine zo ?_;refine ze zc [] rfl ?_;iterate 3 refine za rfl ?_
 refine zb ?_;refine zi rfl (fun hc1=>?_) (fun hc1=>?_)
 ·exact absurd (h12.symm.trans hc1) (by decide)
 ·(try simp only [zf] at hc1)
  refine zt ?_;refine zo ?_;refine ze zc [] rfl ?_;iterate 3 refine za rfl ?_
  refine zb ?_;refine zi rfl (fun hc5=>?_) (fun hc5=>?_)
  ·exact absurd (h3.symm.trans hc5) (by decide)
  ·(try simp only [zf] at hc5)
   refine zt ?_;refine ze zc [] rfl ?_;iterate 3 refine za rfl ?_
   refine zb ?_;refine zi rfl (fun hc6=>?_) (fun hc6=>?_)
   ·(try simp only [zf] at hc6)
    refine z4 zc [] rfl ?_;iterate 4 refine za rfl ?_
    refine zq rfl rfl (CallT.frame (c0) [0,1,2,3] rfl z3 z3 ?_)
    rintro _ _ ⟨rfl,rfl⟩;refine frK zy zy ?_;refine zb ?_;exact ⟨trivial,_,rfl,rfl,rfl⟩
   ·exact absurd (h16.symm.trans hc6) (by decide)
theorem ze2 (m : Mg) (n : List Int) (top : Int) (ok : m.Ok top) (htop : top≤1000000) (hn : 9≤n.length) (i : Nat) (v : Fr) (he : m.F[i]? = some (n[1]!,v)) (hp : posK m.F n[1]! = some i) (hm : 0≤n[2]!∧n[2]!≤2147483647) (e4 : bit n[2]! 4 = false) (e8 : bit n[2]! 8 = false) (eL : (bit n[2]! 1 || bit n[2]! 2) = true) (e16 : bit n[2]! 16 = false) (eB : confBig v n[2]! n[5]! n[6]! = false) :
  CallT Tryd.prog 90 [.ptr 0 0,cIf n] (tnH m (mF m) (mW m) []) (fun t H'=>t = .tup []∧H' = ranH (m.conf n[1]! n[2]! n[3]! n[4]! n[5]! n[6]! n[7]! n[8]!).1 (m.conf n[1]! n[2]! n[3]! n[4]! n[5]! n[6]! n[7]! n[8]!).2 []):=by
 have hc:=ok.cnt
 have hpF:=piF m.F
 have hpW:=piW m.W
 have hlk:=lookF ok.fk n[1]! true
 have hmo:=he
 obtain ⟨R0,hR0⟩ : ∃ R,R = rq 5 [v.fr,n[2]! % 4,n[3]!,n[4]!,0,0,0,0]:=⟨_,rfl⟩
 have h12 : (bitV .and .i64 n[2]! 12 != 0) = false:=by rw [and12 hm,e4,e8];rfl
 have h4 : (bitV .and .i64 n[2]! 4 != 0) = false:=by rw [and4 hm,e4]
 have h8 : (bitV .and .i64 n[2]! 8 != 0) = false:=by rw [and8 hm,e8]
 have h16 : (bitV .and .i64 n[2]! 16 != 0) = false:=by rw [and16 hm,e16]
 have h3 : (bitV .and .i64 n[2]! 3 != 0) = true:=by rw [and3 hm,eL]
 have h3v:=and3v hm
 have hr : m.conf n[1]! n[2]! n[3]! n[4]! n[5]! n[6]! n[7]! n[8]! = (m.up 1,[R0]):=by
  unfold Mg.conf;rw [hp];simp only [getM he,confA,eB,eL,e16,confW,confH,e4,e8,if_true,if_false,Bool.false_eq_true,List.append_nil,List.nil_append,List.cons_append,List.length_cons,List.length_nil,hR0]
  try rfl
 rw [hr]
 rw [xb hp he] at hlk
 have c0 : CallT Tryd.prog 125 [.ptr 0 0,I64 v.fr,I64 (n[2]! % 4),I64 n[3]!,I64 n[4]!,I64 0,I64 0,I64 0] (tnH m (mF m) (mW m) []) (fun t H'=>t = .tup []∧H' = tnH1 (m.up 1) (mF m) (mW m) [R0]):=by
  have:=yi m (mF m) (mW m) v.fr (n[2]! % 4) n[3]! n[4]! 0 0 0 [] (by simp) (by skip;omega) hpF hpW
  rw [← hR0] at this
  exact this
 refine CallT.intro zc Tryd.func90 rfl (by kernel_rfl) (Nat.le_of_ble_eq_true rfl) ?_;refine yu zc [] [_,_,_,_,_,_,_,_,_,_,_,_,_,_,_,_,_,_,_,_] rfl yj yj ?_;refine za rfl ?_;refine zr rfl rfl rfl rfl rfl y9 zu ?_;refine zm rfl rfl yn ?_;refine za rfl ?_;refine zr rfl rfl rfl rfl rfl y9 zu ?_;refine zm rfl rfl yn ?_;refine za rfl ?_;refine zr rfl rfl rfl rfl rfl y9 zu ?_;refine zm rfl rfl yn ?_;refine za rfl ?_;refine zr rfl rfl rfl rfl rfl y9 zu ?_;refine zm rfl rfl yn ?_;refine za rfl ?_;refine zr rfl rfl rfl rfl rfl y9 zu ?_;refine zm rfl rfl yn ?_;iterate 5 refine za rfl ?_
 iterate 2 refine zb ?_
 refine ze zc [] rfl ?_;iterate 6 refine za rfl ?_
 refine yy zc rfl rfl rfl hlk ?_;iterate 3 refine za rfl ?_
 refine yk rfl rfl ?_;refine zp rfl rfl rfl rfl rfl xf rfl ?_;refine za rfl ?_;refine zb ?_;refine z7 ([(0,.ptr 0 0),(9,.iptr (frC v) 0)]) (tnH m (mF m) (mW m) []) [1,4,5,6,7,8,10] rfl (by refine ⟨[some 0,some 1,some 2,some 3],rfl,yb,ya,?_,?_⟩ <;> (repeat' first | exact trivial | exact yc | exact yd | exact z9 rfl | refine zn ?_ ?_ | refine zk rfl ?_ ?_ | refine zj ?_ ?_ | refine ye rfl ?_ | fail) <;> first | exact yv | (first | exact yg (Cv.om rfl) (Cv.om rfl) (Cv.slc rfl (.inr rfl)) | exact yg (Cv.om rfl) (Cv.om rfl) (Cv.slc rfl (.inl rfl)) | exact CvL.pure (zg _ _) | exact Cv.ptr rfl | exact CvL.pure rfl | exact Cv.fptr ⟨rfl,(by simp)⟩ (CvL.pure rfl))) ?_
 refine zo ?_;refine ze zc [] rfl ?_;iterate 2 refine za rfl ?_
 refine zb ?_;refine yq rfl ?_;refine zt ?_;refine zo ?_;refine ze zc [] rfl ?_;iterate 3 refine za rfl ?_
 refine zb ?_;refine zi rfl (fun hc1=>?_) (fun hc1=>?_)
 ·exact absurd (h12.symm.trans hc1) (by decide)
 ·(try simp only [zf] at hc1)
  refine zt ?_;refine zo ?_;refine ze zc [] rfl ?_;iterate 3 refine za rfl ?_
  refine zb ?_;refine zi rfl (fun hc5=>?_) (fun hc5=>?_)
  ·(try simp only [zf] at hc5)
   refine z4 zc [] rfl ?_;iterate 4 refine za rfl ?_
   refine za (t:=I64 (n[2]! % 4)) (by show some (T.v (.int .i64 (bitV .and .i64 n[2]! 3)),(none : Option (Nat × List T))) = _;rw [h3v]) ?_;iterate 2 refine za rfl ?_
   refine zq rfl rfl (CallT.frame (c0) [0,1,2,3] rfl z3 z3 ?_)
   rintro _ _ ⟨rfl,rfl⟩;refine frK zy zy ?_;refine zb ?_;refine ze zc [] rfl ?_;iterate 3 refine za rfl ?_
   refine zb ?_;refine zi rfl (fun hc6=>?_) (fun hc6=>?_)
   ·exact absurd (h16.symm.trans hc6) (by decide)
   ·(try simp only [zf] at hc6)
    refine zt ?_;exact ⟨trivial,_,rfl,rfl,rfl⟩
  ·exact absurd (h3.symm.trans hc5) (by decide)
theorem ze1 (m : Mg) (n : List Int) (top : Int) (ok : m.Ok top) (htop : top≤1000000) (hn : 9≤n.length) (i : Nat) (v : Fr) (he : m.F[i]? = some (n[1]!,v)) (hp : posK m.F n[1]! = some i) (hm : 0≤n[2]!∧n[2]!≤2147483647) (e4 : bit n[2]! 4 = false) (e8 : bit n[2]! 8 = false) (eL : (bit n[2]! 1 || bit n[2]! 2) = true) (e16 : bit n[2]! 16 = true) (eB : confBig v n[2]! n[5]! n[6]! = false) :
  CallT Tryd.prog 90 [.ptr 0 0,cIf n] (tnH m (mF m) (mW m) []) (fun t H'=>t = .tup []∧H' = ranH (m.conf n[1]! n[2]! n[3]! n[4]! n[5]! n[6]! n[7]! n[8]!).1 (m.conf n[1]! n[2]! n[3]! n[4]! n[5]! n[6]! n[7]! n[8]!).2 []):=by
 have hc:=ok.cnt
 have hpF:=piF m.F
 have hpW:=piW m.W
 have hlk:=lookF ok.fk n[1]! true
 have hmo:=he
 obtain ⟨R0,hR0⟩ : ∃ R,R = rq 5 [v.fr,n[2]! % 4,n[3]!,n[4]!,0,0,0,0]:=⟨_,rfl⟩
 obtain ⟨R1,hR1⟩ : ∃ R,R = rq 5 [v.fr,16,0,0,0,0,0,n[8]!]:=⟨_,rfl⟩
 have h12 : (bitV .and .i64 n[2]! 12 != 0) = false:=by rw [and12 hm,e4,e8];rfl
 have h4 : (bitV .and .i64 n[2]! 4 != 0) = false:=by rw [and4 hm,e4]
 have h8 : (bitV .and .i64 n[2]! 8 != 0) = false:=by rw [and8 hm,e8]
 have h16 : (bitV .and .i64 n[2]! 16 != 0) = true:=by rw [and16 hm,e16]
 have h3 : (bitV .and .i64 n[2]! 3 != 0) = true:=by rw [and3 hm,eL]
 have h3v:=and3v hm
 have hr : m.conf n[1]! n[2]! n[3]! n[4]! n[5]! n[6]! n[7]! n[8]! = (m.up 2,[R0,R1]):=by
  unfold Mg.conf;rw [hp];simp only [getM he,confA,eB,eL,e16,confW,confH,e4,e8,if_true,if_false,Bool.false_eq_true,List.append_nil,List.nil_append,List.cons_append,List.length_cons,List.length_nil,hR0,hR1]
  try rfl
 rw [hr]
 rw [xb hp he] at hlk
 have c0 : CallT Tryd.prog 125 [.ptr 0 0,I64 v.fr,I64 (n[2]! % 4),I64 n[3]!,I64 n[4]!,I64 0,I64 0,I64 0] (tnH m (mF m) (mW m) []) (fun t H'=>t = .tup []∧H' = tnH1 (m.up 1) (mF m) (mW m) [R0]):=by
  have:=yi m (mF m) (mW m) v.fr (n[2]! % 4) n[3]! n[4]! 0 0 0 [] (by simp) (by skip;omega) hpF hpW
  rw [← hR0] at this
  exact this
 have c1 : CallT Tryd.prog 125 [.ptr 0 0,I64 v.fr,I64 16,I64 0,I64 0,I64 0,I64 0,I64 n[8]!] (tnH (m.up 1) (mF m) (mW m) [R0]) (fun t H'=>t = .tup []∧H' = tnH1 (m.up 2) (mF m) (mW m) [R0,R1]):=by
  have:=yi (m.up 1) (mF m) (mW m) v.fr 16 0 0 0 0 n[8]! [R0] (by simp) (by show 0≤m.cnt + 1∧m.cnt + 1≤2000000;omega) hpF hpW
  rw [← hR1,we m 1 1 2 (by decide)] at this
  exact this
 refine CallT.intro zc Tryd.func90 rfl (by kernel_rfl) (Nat.le_of_ble_eq_true rfl) ?_;refine yu zc [] [_,_,_,_,_,_,_,_,_,_,_,_,_,_,_,_,_,_,_,_] rfl yj yj ?_;refine za rfl ?_;refine zr rfl rfl rfl rfl rfl y9 zu ?_;refine zm rfl rfl yn ?_;refine za rfl ?_;refine zr rfl rfl rfl rfl rfl y9 zu ?_;refine zm rfl rfl yn ?_;refine za rfl ?_;refine zr rfl rfl rfl rfl rfl y9 zu ?_;refine zm rfl rfl yn ?_;refine za rfl ?_;refine zr rfl rfl rfl rfl rfl y9 zu ?_;refine zm rfl rfl yn ?_;refine za rfl ?_;refine zr rfl rfl rfl rfl rfl y9 zu ?_;refine zm rfl rfl yn ?_;iterate 5 refine za rfl ?_
 iterate 2 refine zb ?_
 refine ze zc [] rfl ?_;iterate 6 refine za rfl ?_
 refine yy zc rfl rfl rfl hlk ?_;iterate 3 refine za rfl ?_
 refine yk rfl rfl ?_;refine zp rfl rfl rfl rfl rfl xf rfl ?_;refine za rfl ?_;refine zb ?_;refine z7 ([(0,.ptr 0 0),(9,.iptr (frC v) 0)]) (tnH m (mF m) (mW m) []) [1,4,5,6,7,8,10] rfl (by refine ⟨[some 0,some 1,some 2,some 3],rfl,yb,ya,?_,?_⟩ <;> (repeat' first | exact trivial | exact yc | exact yd | exact z9 rfl | refine zn ?_ ?_ | refine zk rfl ?_ ?_ | refine zj ?_ ?_ | refine ye rfl ?_ | fail) <;> first | exact yv | (first | exact yg (Cv.om rfl) (Cv.om rfl) (Cv.slc rfl (.inr rfl)) | exact yg (Cv.om rfl) (Cv.om rfl) (Cv.slc rfl (.inl rfl)) | exact CvL.pure (zg _ _) | exact Cv.ptr rfl | exact CvL.pure rfl | exact Cv.fptr ⟨rfl,(by simp)⟩ (CvL.pure rfl))) ?_
 refine zo ?_;refine ze zc [] rfl ?_;iterate 2 refine za rfl ?_
 refine zb ?_;refine yq rfl ?_;refine zt ?_;refine zo ?_;refine ze zc [] rfl ?_;iterate 3 refine za rfl ?_
 refine zb ?_;refine zi rfl (fun hc1=>?_) (fun hc1=>?_)
 ·exact absurd (h12.symm.trans hc1) (by decide)
 ·(try simp only [zf] at hc1)
  refine zt ?_;refine zo ?_;refine ze zc [] rfl ?_;iterate 3 refine za rfl ?_
  refine zb ?_;refine zi rfl (fun hc5=>?_) (fun hc5=>?_)
  ·(try simp only [zf] at hc5)
   refine z4 zc [] rfl ?_;iterate 4 refine za rfl ?_
   refine za (t:=I64 (n[2]! % 4)) (by show some (T.v (.int .i64 (bitV .and .i64 n[2]! 3)),(none : Option (Nat × List T))) = _;rw [h3v]) ?_;iterate 2 refine za rfl ?_
   refine zq rfl rfl (CallT.frame (c0) [0,1,2,3] rfl z3 z3 ?_)
   rintro _ _ ⟨rfl,rfl⟩;refine frK zy zy ?_;refine zb ?_;refine ze zc [] rfl ?_;iterate 3 refine za rfl ?_
   refine zb ?_;refine zi rfl (fun hc6=>?_) (fun hc6=>?_)
   ·(try simp only [zf] at hc6)
    refine z4 zc [] rfl ?_;iterate 4 refine za rfl ?_
    refine zq rfl rfl (CallT.frame (c1) [0,1,2,4] rfl z3 z3 ?_)
    rintro _ _ ⟨rfl,rfl⟩;refine frK zy zy ?_;refine zb ?_;exact ⟨trivial,_,rfl,rfl,rfl⟩
   ·exact absurd (h16.symm.trans hc6) (by decide)
  ·exact absurd (h3.symm.trans hc5) (by decide)
end

section
open Go.RowKit
set_option maxRecDepth 10000
set_option maxHeartbeats 2000000
theorem zes (m : Mg) (n : List Int) (top : Int) (ok : m.Ok top) (htop : top≤1000000) (hn : 9≤n.length) (i : Nat) (v : Fr) (he : m.F[i]? = some (n[1]!,v)) (hp : posK m.F n[1]! = some i) (hm : 0≤n[2]!∧n[2]!≤2147483647) (e4 : bit n[2]! 4 = true) (e8 : bit n[2]! 8 = false) (eL : (bit n[2]! 1 || bit n[2]! 2) = false) (e16 : bit n[2]! 16 = false) (eB : confBig v n[2]! n[5]! n[6]! = false) :
  CallT Tryd.prog 90 [.ptr 0 0,cIf n] (tnH m (mF m) (mW m) []) (fun t H'=>t = .tup []∧H' = ranH (m.conf n[1]! n[2]! n[3]! n[4]! n[5]! n[6]! n[7]! n[8]!).1 (m.conf n[1]! n[2]! n[3]! n[4]! n[5]! n[6]! n[7]! n[8]!).2 []):=by
 have hc:=ok.cnt
 have hpF:=piF m.F
 have hpW:=piW m.W
 have hlk:=lookF ok.fk n[1]! true
 have hmo:=he
 have h12 : (bitV .and .i64 n[2]! 12 != 0) = true:=by rw [and12 hm,e4,e8];rfl
 have h4 : (bitV .and .i64 n[2]! 4 != 0) = true:=by rw [and4 hm,e4]
 have h8 : (bitV .and .i64 n[2]! 8 != 0) = false:=by rw [and8 hm,e8]
 have h16 : (bitV .and .i64 n[2]! 16 != 0) = false:=by rw [and16 hm,e16]
 have h3 : (bitV .and .i64 n[2]! 3 != 0) = false:=by rw [and3 hm,eL]
 have h3v:=and3v hm
 have hr : m.conf n[1]! n[2]! n[3]! n[4]! n[5]! n[6]! n[7]! n[8]! = (m,[]):=by
  unfold Mg.conf;rw [hp];simp only [getM he,confA,eB,eL,e16,confW,confH,e4,e8,if_true,if_false,Bool.false_eq_true,List.append_nil,List.nil_append,List.cons_append,List.length_cons,List.length_nil]
  exact Prod.ext (by show ({ m with cnt:=m.cnt + ((0 : Nat) : Int) } : Mg) = m;rw [show m.cnt + ((0 : Nat) : Int) = m.cnt from by omega]) rfl
 unfold confBig confW confH at eB
 rw [e4,e8] at eB
 simp only [Bool.or_true,Bool.or_false,Bool.true_or,Bool.false_or,Bool.true_and,if_true,if_false,Bool.false_eq_true,Bool.and_eq_true,decide_eq_true_eq,Bool.and_eq_false_iff,decide_eq_false_iff_not] at eB
 rw [hr]
 rw [xb hp he] at hlk
 refine CallT.intro zc Tryd.func90 rfl (by kernel_rfl) (Nat.le_of_ble_eq_true rfl) ?_;refine yu zc [] [_,_,_,_,_,_,_,_,_,_,_,_,_,_,_,_,_,_,_,_] rfl yj yj ?_;refine za rfl ?_;refine zr rfl rfl rfl rfl rfl y9 zu ?_;refine zm rfl rfl yn ?_;refine za rfl ?_;refine zr rfl rfl rfl rfl rfl y9 zu ?_;refine zm rfl rfl yn ?_;refine za rfl ?_;refine zr rfl rfl rfl rfl rfl y9 zu ?_;refine zm rfl rfl yn ?_;refine za rfl ?_;refine zr rfl rfl rfl rfl rfl y9 zu ?_;refine zm rfl rfl yn ?_;refine za rfl ?_;refine zr rfl rfl rfl rfl rfl y9 zu ?_;refine zm rfl rfl yn ?_;iterate 5 refine za rfl ?_
 iterate 2 refine zb ?_
 refine ze zc [] rfl ?_;iterate 6 refine za rfl ?_
 refine yy zc rfl rfl rfl hlk ?_;iterate 3 refine za rfl ?_
 refine yk rfl rfl ?_;refine zp rfl rfl rfl rfl rfl xf rfl ?_;refine za rfl ?_;refine zb ?_;refine z7 ([(0,.ptr 0 0),(9,.iptr (frC v) 0)]) (tnH m (mF m) (mW m) []) [1,4,5,6,7,8,10] rfl (by refine ⟨[some 0,some 1,some 2,some 3],rfl,yb,ya,?_,?_⟩ <;> (repeat' first | exact trivial | exact yc | exact yd | exact z9 rfl | refine zn ?_ ?_ | refine zk rfl ?_ ?_ | refine zj ?_ ?_ | refine ye rfl ?_ | fail) <;> first | exact yv | (first | exact yg (Cv.om rfl) (Cv.om rfl) (Cv.slc rfl (.inr rfl)) | exact yg (Cv.om rfl) (Cv.om rfl) (Cv.slc rfl (.inl rfl)) | exact CvL.pure (zg _ _) | exact Cv.ptr rfl | exact CvL.pure rfl | exact Cv.fptr ⟨rfl,(by simp)⟩ (CvL.pure rfl))) ?_
 refine zo ?_;refine ze zc [] rfl ?_;iterate 2 refine za rfl ?_
 refine zb ?_;refine yq rfl ?_;refine zt ?_;refine zo ?_;refine ze zc [] rfl ?_;iterate 3 refine za rfl ?_
 refine zb ?_;refine zi rfl (fun hc1=>?_) (fun hc1=>?_)
 ·(try simp only [zf] at hc1)
  refine yu zc [] [_,_,_,_,_,_] rfl yj yj ?_;iterate 6 refine za rfl ?_
  iterate 2 refine zb ?_
  refine zo ?_;refine ze zc [] rfl ?_;iterate 3 refine za rfl ?_
  refine zb ?_;refine zi rfl (fun hc2=>?_) (fun hc2=>?_)
  ·(try simp only [zf] at hc2)
   refine z4 zc [] rfl ?_;refine za rfl ?_;refine zr rfl rfl rfl rfl rfl y9 zu ?_;refine zm rfl rfl yn ?_;refine za rfl ?_;refine zb ?_;refine zo ?_;refine ze zc [] rfl ?_;iterate 3 refine za rfl ?_
   refine zb ?_;refine zi rfl (fun hc3=>?_) (fun hc3=>?_)
   ·exact absurd (h8.symm.trans hc3) (by decide)
   ·(try simp only [zf] at hc3)
    refine zt ?_;refine ze zc [] rfl ?_;iterate 3 refine za rfl ?_
    refine' zx (d:=68) [_,_,_] rfl ?_ rfl ?_
    rotate_left
    ·refine zw rfl rfl (fun hb10_2=>?_) (fun hb10_2=>?_)
     ·have ghb10_2:=hb10_2
      try simp only [zf,Bool.not_true,Bool.not_false] at ghb10_2
      refine za rfl ?_;refine zd rfl rfl hb10_2 ?_;refine za rfl ?_;refine zh rfl (fun _=>rfl) ?_;exact zb ⟨rfl,rfl⟩
     ·refine zl rfl rfl hb10_2 ?_;exact zh rfl (fun h=>absurd (h.symm.trans hb10_2) (by decide)) (zb ⟨rfl,rfl⟩)
    refine za rfl ?_;refine' zx (d:=72) [_,_,_] rfl ?_ rfl ?_
    rotate_left
    ·refine zw rfl rfl (fun hb10_6=>?_) (fun hb10_6=>?_)
     ·have ghb10_6:=hb10_6
      try simp only [zf,Bool.not_true,Bool.not_false] at ghb10_6
      refine za rfl ?_;refine zd rfl rfl hb10_6 ?_;refine za rfl ?_;refine zh rfl (fun _=>rfl) ?_;exact zb ⟨rfl,rfl⟩
     ·refine zl rfl rfl hb10_6 ?_;exact zh rfl (fun h=>absurd (h.symm.trans hb10_6) (by decide)) (zb ⟨rfl,rfl⟩)
    refine za rfl ?_;refine' zx (d:=76) [_,_,_] rfl ?_ rfl ?_
    rotate_left
    ·refine zw rfl rfl (fun hb10_10=>?_) (fun hb10_10=>?_)
     ·have ghb10_10:=hb10_10
      try simp only [zf,Bool.not_true,Bool.not_false] at ghb10_10
      refine za rfl ?_;refine zd rfl rfl hb10_10 ?_;refine za rfl ?_;refine zh rfl (fun _=>rfl) ?_;exact zb ⟨rfl,rfl⟩
     ·refine zl rfl rfl hb10_10 ?_;exact zh rfl (fun h=>absurd (h.symm.trans hb10_10) (by decide)) (zb ⟨rfl,rfl⟩)
    refine zb ?_;refine zi rfl (fun hc4=>?_) (fun hc4=>?_)
    ·(try simp only [zf] at hc4);have e5 : n[Int.toNat 5]! = n[5]!:=rfl;have e6 : n[Int.toNat 6]! = n[6]!:=rfl;exfalso;omega
    ·(try simp only [zf] at hc4)
     refine zt ?_;refine zo ?_;refine ze zc [] rfl ?_;iterate 3 refine za rfl ?_
     refine zb ?_;refine zi rfl (fun hc5=>?_) (fun hc5=>?_)
     ·exact absurd (h3.symm.trans hc5) (by decide)
     ·(try simp only [zf] at hc5)
      refine zt ?_;refine ze zc [] rfl ?_;iterate 3 refine za rfl ?_
      refine zb ?_;refine zi rfl (fun hc6=>?_) (fun hc6=>?_)
      ·exact absurd (h16.symm.trans hc6) (by decide)
      ·(try simp only [zf] at hc6)
       refine zt ?_;exact ⟨trivial,_,rfl,rfl,rfl⟩
  ·exact absurd (h4.symm.trans hc2) (by decide)
 ·exact absurd (h12.symm.trans hc1) (by decide)
theorem zer (m : Mg) (n : List Int) (top : Int) (ok : m.Ok top) (htop : top≤1000000) (hn : 9≤n.length) (i : Nat) (v : Fr) (he : m.F[i]? = some (n[1]!,v)) (hp : posK m.F n[1]! = some i) (hm : 0≤n[2]!∧n[2]!≤2147483647) (e4 : bit n[2]! 4 = true) (e8 : bit n[2]! 8 = false) (eL : (bit n[2]! 1 || bit n[2]! 2) = false) (e16 : bit n[2]! 16 = true) (eB : confBig v n[2]! n[5]! n[6]! = false) :
  CallT Tryd.prog 90 [.ptr 0 0,cIf n] (tnH m (mF m) (mW m) []) (fun t H'=>t = .tup []∧H' = ranH (m.conf n[1]! n[2]! n[3]! n[4]! n[5]! n[6]! n[7]! n[8]!).1 (m.conf n[1]! n[2]! n[3]! n[4]! n[5]! n[6]! n[7]! n[8]!).2 []):=by
 have hc:=ok.cnt
 have hpF:=piF m.F
 have hpW:=piW m.W
 have hlk:=lookF ok.fk n[1]! true
 have hmo:=he
 obtain ⟨R0,hR0⟩ : ∃ R,R = rq 5 [v.fr,16,0,0,0,0,0,n[8]!]:=⟨_,rfl⟩
 have h12 : (bitV .and .i64 n[2]! 12 != 0) = true:=by rw [and12 hm,e4,e8];rfl
 have h4 : (bitV .and .i64 n[2]! 4 != 0) = true:=by rw [and4 hm,e4]
 have h8 : (bitV .and .i64 n[2]! 8 != 0) = false:=by rw [and8 hm,e8]
 have h16 : (bitV .and .i64 n[2]! 16 != 0) = true:=by rw [and16 hm,e16]
 have h3 : (bitV .and .i64 n[2]! 3 != 0) = false:=by rw [and3 hm,eL]
 have h3v:=and3v hm
 have hr : m.conf n[1]! n[2]! n[3]! n[4]! n[5]! n[6]! n[7]! n[8]! = (m.up 1,[R0]):=by
  unfold Mg.conf;rw [hp];simp only [getM he,confA,eB,eL,e16,confW,confH,e4,e8,if_true,if_false,Bool.false_eq_true,List.append_nil,List.nil_append,List.cons_append,List.length_cons,List.length_nil,hR0]
  try rfl
 unfold confBig confW confH at eB
 rw [e4,e8] at eB
 simp only [Bool.or_true,Bool.or_false,Bool.true_or,Bool.false_or,Bool.true_and,if_true,if_false,Bool.false_eq_true,Bool.and_eq_true,decide_eq_true_eq,Bool.and_eq_false_iff,decide_eq_false_iff_not] at eB
 rw [hr]
 rw [xb hp he] at hlk
 have c0 : CallT Tryd.prog 125 [.ptr 0 0,I64 v.fr,I64 16,I64 0,I64 0,I64 0,I64 0,I64 n[8]!] (tnH m (mF m) (mW m) []) (fun t H'=>t = .tup []∧H' = tnH1 (m.up 1) (mF m) (mW m) [R0]):=by
  have:=yi m (mF m) (mW m) v.fr 16 0 0 0 0 n[8]! [] (by simp) (by skip;omega) hpF hpW
  rw [← hR0] at this
  exact this
 refine CallT.intro zc Tryd.func90 rfl (by kernel_rfl) (Nat.le_of_ble_eq_true rfl) ?_;refine yu zc [] [_,_,_,_,_,_,_,_,_,_,_,_,_,_,_,_,_,_,_,_] rfl yj yj ?_;refine za rfl ?_;refine zr rfl rfl rfl rfl rfl y9 zu ?_;refine zm rfl rfl yn ?_;refine za rfl ?_;refine zr rfl rfl rfl rfl rfl y9 zu ?_;refine zm rfl rfl yn ?_;refine za rfl ?_;refine zr rfl rfl rfl rfl rfl y9 zu ?_;refine zm rfl rfl yn ?_;refine za rfl ?_;refine zr rfl rfl rfl rfl rfl y9 zu ?_;refine zm rfl rfl yn ?_;refine za rfl ?_;refine zr rfl rfl rfl rfl rfl y9 zu ?_;refine zm rfl rfl yn ?_;iterate 5 refine za rfl ?_
 iterate 2 refine zb ?_
 refine ze zc [] rfl ?_;iterate 6 refine za rfl ?_
 refine yy zc rfl rfl rfl hlk ?_;iterate 3 refine za rfl ?_
 refine yk rfl rfl ?_;refine zp rfl rfl rfl rfl rfl xf rfl ?_;refine za rfl ?_;refine zb ?_;refine z7 ([(0,.ptr 0 0),(9,.iptr (frC v) 0)]) (tnH m (mF m) (mW m) []) [1,4,5,6,7,8,10] rfl (by refine ⟨[some 0,some 1,some 2,some 3],rfl,yb,ya,?_,?_⟩ <;> (repeat' first | exact trivial | exact yc | exact yd | exact z9 rfl | refine zn ?_ ?_ | refine zk rfl ?_ ?_ | refine zj ?_ ?_ | refine ye rfl ?_ | fail) <;> first | exact yv | (first | exact yg (Cv.om rfl) (Cv.om rfl) (Cv.slc rfl (.inr rfl)) | exact yg (Cv.om rfl) (Cv.om rfl) (Cv.slc rfl (.inl rfl)) | exact CvL.pure (zg _ _) | exact Cv.ptr rfl | exact CvL.pure rfl | exact Cv.fptr ⟨rfl,(by simp)⟩ (CvL.pure rfl))) ?_
 refine zo ?_;refine ze zc [] rfl ?_;iterate 2 refine za rfl ?_
 refine zb ?_;refine yq rfl ?_;refine zt ?_;refine zo ?_;refine ze zc [] rfl ?_;iterate 3 refine za rfl ?_
 refine zb ?_;refine zi rfl (fun hc1=>?_) (fun hc1=>?_)
 ·(try simp only [zf] at hc1)
  refine yu zc [] [_,_,_,_,_,_] rfl yj yj ?_;iterate 6 refine za rfl ?_
  iterate 2 refine zb ?_
  refine zo ?_;refine ze zc [] rfl ?_;iterate 3 refine za rfl ?_
  refine zb ?_;refine zi rfl (fun hc2=>?_) (fun hc2=>?_)
  ·(try simp only [zf] at hc2)
   refine z4 zc [] rfl ?_;refine za rfl ?_;refine zr rfl rfl rfl rfl rfl y9 zu ?_;refine zm rfl rfl yn ?_;refine za rfl ?_;refine zb ?_;refine zo ?_;refine ze zc [] rfl ?_;iterate 3 refine za rfl ?_
   refine zb ?_;refine zi rfl (fun hc3=>?_) (fun hc3=>?_)
   ·exact absurd (h8.symm.trans hc3) (by decide)
   ·(try simp only [zf] at hc3)
    refine zt ?_;refine ze zc [] rfl ?_;iterate 3 refine za rfl ?_
    refine' zx (d:=68) [_,_,_] rfl ?_ rfl ?_
    rotate_left
    ·refine zw rfl rfl (fun hb10_2=>?_) (fun hb10_2=>?_)
     ·have ghb10_2:=hb10_2
      try simp only [zf,Bool.not_true,Bool.not_false] at ghb10_2
      refine za rfl ?_;refine zd rfl rfl hb10_2 ?_;refine za rfl ?_;refine zh rfl (fun _=>rfl) ?_;exact zb ⟨rfl,rfl⟩
     ·refine zl rfl rfl hb10_2 ?_;exact zh rfl (fun h=>absurd (h.symm.trans hb10_2) (by decide)) (zb ⟨rfl,rfl⟩)
    refine za rfl ?_;refine' zx (d:=72) [_,_,_] rfl ?_ rfl ?_
    rotate_left
    ·refine zw rfl rfl (fun hb10_6=>?_) (fun hb10_6=>?_)
     ·have ghb10_6:=hb10_6
      try simp only [zf,Bool.not_true,Bool.not_false] at ghb10_6
      refine za rfl ?_;refine zd rfl rfl hb10_6 ?_;refine za rfl ?_;refine zh rfl (fun _=>rfl) ?_;exact zb ⟨rfl,rfl⟩
     ·refine zl rfl rfl hb10_6 ?_;exact zh rfl (fun h=>absurd (h.symm.trans hb10_6) (by decide)) (zb ⟨rfl,rfl⟩)
    refine za rfl ?_;refine' zx (d:=76) [_,_,_] rfl ?_ rfl ?_
    rotate_left
    ·refine zw rfl rfl (fun hb10_10=>?_) (fun hb10_10=>?_)
     ·have ghb10_10:=hb10_10
      try simp only [zf,Bool.not_true,Bool.not_false] at ghb10_10
      refine za rfl ?_;refine zd rfl rfl hb10_10 ?_;refine za rfl ?_;refine zh rfl (fun _=>rfl) ?_;exact zb ⟨rfl,rfl⟩
     ·refine zl rfl rfl hb10_10 ?_;exact zh rfl (fun h=>absurd (h.symm.trans hb10_10) (by decide)) (zb ⟨rfl,rfl⟩)
    refine zb ?_;refine zi rfl (fun hc4=>?_) (fun hc4=>?_)
    ·(try simp only [zf] at hc4);have e5 : n[Int.toNat 5]! = n[5]!:=rfl;have e6 : n[Int.toNat 6]! = n[6]!:=rfl;exfalso;omega
    ·(try simp only [zf] at hc4)
     refine zt ?_;refine zo ?_;refine ze zc [] rfl ?_;iterate 3 refine za rfl ?_
     refine zb ?_;refine zi rfl (fun hc5=>?_) (fun hc5=>?_)
     ·exact absurd (h3.symm.trans hc5) (by decide)
     ·(try simp only [zf] at hc5)
      refine zt ?_;refine ze zc [] rfl ?_;iterate 3 refine za rfl ?_
      refine zb ?_;refine zi rfl (fun hc6=>?_) (fun hc6=>?_)
      ·(try simp only [zf] at hc6)
       refine z4 zc [] rfl ?_;iterate 4 refine za rfl ?_
       refine zq rfl rfl (CallT.frame (c0) [0,1,2,3] rfl z3 z3 ?_)
       rintro _ _ ⟨rfl,rfl⟩;refine frK zy zy ?_;refine zb ?_;exact ⟨trivial,_,rfl,rfl,rfl⟩
      ·exact absurd (h16.symm.trans hc6) (by decide)
  ·exact absurd (h4.symm.trans hc2) (by decide)
 ·exact absurd (h12.symm.trans hc1) (by decide)
theorem zeq (m : Mg) (n : List Int) (top : Int) (ok : m.Ok top) (htop : top≤1000000) (hn : 9≤n.length) (i : Nat) (v : Fr) (he : m.F[i]? = some (n[1]!,v)) (hp : posK m.F n[1]! = some i) (hm : 0≤n[2]!∧n[2]!≤2147483647) (e4 : bit n[2]! 4 = true) (e8 : bit n[2]! 8 = false) (eL : (bit n[2]! 1 || bit n[2]! 2) = true) (e16 : bit n[2]! 16 = false) (eB : confBig v n[2]! n[5]! n[6]! = false) :
  CallT Tryd.prog 90 [.ptr 0 0,cIf n] (tnH m (mF m) (mW m) []) (fun t H'=>t = .tup []∧H' = ranH (m.conf n[1]! n[2]! n[3]! n[4]! n[5]! n[6]! n[7]! n[8]!).1 (m.conf n[1]! n[2]! n[3]! n[4]! n[5]! n[6]! n[7]! n[8]!).2 []):=by
 have hc:=ok.cnt
 have hpF:=piF m.F
 have hpW:=piW m.W
 have hlk:=lookF ok.fk n[1]! true
 have hmo:=he
 obtain ⟨R0,hR0⟩ : ∃ R,R = rq 5 [v.fr,n[2]! % 4,n[3]!,n[4]!,0,0,0,0]:=⟨_,rfl⟩
 have h12 : (bitV .and .i64 n[2]! 12 != 0) = true:=by rw [and12 hm,e4,e8];rfl
 have h4 : (bitV .and .i64 n[2]! 4 != 0) = true:=by rw [and4 hm,e4]
 have h8 : (bitV .and .i64 n[2]! 8 != 0) = false:=by rw [and8 hm,e8]
 have h16 : (bitV .and .i64 n[2]! 16 != 0) = false:=by rw [and16 hm,e16]
 have h3 : (bitV .and .i64 n[2]! 3 != 0) = true:=by rw [and3 hm,eL]
 have h3v:=and3v hm
 have hr : m.conf n[1]! n[2]! n[3]! n[4]! n[5]! n[6]! n[7]! n[8]! = (m.up 1,[R0]):=by
  unfold Mg.conf;rw [hp];simp only [getM he,confA,eB,eL,e16,confW,confH,e4,e8,if_true,if_false,Bool.false_eq_true,List.append_nil,List.nil_append,List.cons_append,List.length_cons,List.length_nil,hR0]
  try rfl
 unfold confBig confW confH at eB
 rw [e4,e8] at eB
 simp only [Bool.or_true,Bool.or_false,Bool.true_or,Bool.false_or,Bool.true_and,if_true,if_false,Bool.false_eq_true,Bool.and_eq_true,decide_eq_true_eq,Bool.and_eq_false_iff,decide_eq_false_iff_not] at eB
 rw [hr]
 rw [xb hp he] at hlk
 have c0 : CallT Tryd.prog 125 [.ptr 0 0,I64 v.fr,I64 (n[2]! % 4),I64 n[3]!,I64 n[4]!,I64 0,I64 0,I64 0] (tnH m (mF m) (mW m) []) (fun t H'=>t = .tup []∧H' = tnH1 (m.up 1) (mF m) (mW m) [R0]):=by
  have:=yi m (mF m) (mW m) v.fr (n[2]! % 4) n[3]! n[4]! 0 0 0 [] (by simp) (by skip;omega) hpF hpW
  rw [← hR0] at this
  exact this
 refine CallT.intro zc Tryd.func90 rfl (by kernel_rfl) (Nat.le_of_ble_eq_true rfl) ?_;refine yu zc [] [_,_,_,_,_,_,_,_,_,_,_,_,_,_,_,_,_,_,_,_] rfl yj yj ?_;refine za rfl ?_;refine zr rfl rfl rfl rfl rfl y9 zu ?_;refine zm rfl rfl yn ?_;refine za rfl ?_;refine zr rfl rfl rfl rfl rfl y9 zu ?_;refine zm rfl rfl yn ?_;refine za rfl ?_;refine zr rfl rfl rfl rfl rfl y9 zu ?_;refine zm rfl rfl yn ?_;refine za rfl ?_;refine zr rfl rfl rfl rfl rfl y9 zu ?_;refine zm rfl rfl yn ?_;refine za rfl ?_;refine zr rfl rfl rfl rfl rfl y9 zu ?_;refine zm rfl rfl yn ?_;iterate 5 refine za rfl ?_
 iterate 2 refine zb ?_
 refine ze zc [] rfl ?_;iterate 6 refine za rfl ?_
 refine yy zc rfl rfl rfl hlk ?_;iterate 3 refine za rfl ?_
 refine yk rfl rfl ?_;refine zp rfl rfl rfl rfl rfl xf rfl ?_;refine za rfl ?_;refine zb ?_;refine z7 ([(0,.ptr 0 0),(9,.iptr (frC v) 0)]) (tnH m (mF m) (mW m) []) [1,4,5,6,7,8,10] rfl (by refine ⟨[some 0,some 1,some 2,some 3],rfl,yb,ya,?_,?_⟩ <;> (repeat' first | exact trivial | exact yc | exact yd | exact z9 rfl | refine zn ?_ ?_ | refine zk rfl ?_ ?_ | refine zj ?_ ?_ | refine ye rfl ?_ | fail) <;> first | exact yv | (first | exact yg (Cv.om rfl) (Cv.om rfl) (Cv.slc rfl (.inr rfl)) | exact yg (Cv.om rfl) (Cv.om rfl) (Cv.slc rfl (.inl rfl)) | exact CvL.pure (zg _ _) | exact Cv.ptr rfl | exact CvL.pure rfl | exact Cv.fptr ⟨rfl,(by simp)⟩ (CvL.pure rfl))) ?_
 refine zo ?_;refine ze zc [] rfl ?_;iterate 2 refine za rfl ?_
 refine zb ?_;refine yq rfl ?_;refine zt ?_;refine zo ?_;refine ze zc [] rfl ?_;iterate 3 refine za rfl ?_
 refine zb ?_;refine zi rfl (fun hc1=>?_) (fun hc1=>?_)
 ·(try simp only [zf] at hc1)
  refine yu zc [] [_,_,_,_,_,_] rfl yj yj ?_;iterate 6 refine za rfl ?_
  iterate 2 refine zb ?_
  refine zo ?_;refine ze zc [] rfl ?_;iterate 3 refine za rfl ?_
  refine zb ?_;refine zi rfl (fun hc2=>?_) (fun hc2=>?_)
  ·(try simp only [zf] at hc2)
   refine z4 zc [] rfl ?_;refine za rfl ?_;refine zr rfl rfl rfl rfl rfl y9 zu ?_;refine zm rfl rfl yn ?_;refine za rfl ?_;refine zb ?_;refine zo ?_;refine ze zc [] rfl ?_;iterate 3 refine za rfl ?_
   refine zb ?_;refine zi rfl (fun hc3=>?_) (fun hc3=>?_)
   ·exact absurd (h8.symm.trans hc3) (by decide)
   ·(try simp only [zf] at hc3)
    refine zt ?_;refine ze zc [] rfl ?_;iterate 3 refine za rfl ?_
    refine' zx (d:=68) [_,_,_] rfl ?_ rfl ?_
    rotate_left
    ·refine zw rfl rfl (fun hb10_2=>?_) (fun hb10_2=>?_)
     ·have ghb10_2:=hb10_2
      try simp only [zf,Bool.not_true,Bool.not_false] at ghb10_2
      refine za rfl ?_;refine zd rfl rfl hb10_2 ?_;refine za rfl ?_;refine zh rfl (fun _=>rfl) ?_;exact zb ⟨rfl,rfl⟩
     ·refine zl rfl rfl hb10_2 ?_;exact zh rfl (fun h=>absurd (h.symm.trans hb10_2) (by decide)) (zb ⟨rfl,rfl⟩)
    refine za rfl ?_;refine' zx (d:=72) [_,_,_] rfl ?_ rfl ?_
    rotate_left
    ·refine zw rfl rfl (fun hb10_6=>?_) (fun hb10_6=>?_)
     ·have ghb10_6:=hb10_6
      try simp only [zf,Bool.not_true,Bool.not_false] at ghb10_6
      refine za rfl ?_;refine zd rfl rfl hb10_6 ?_;refine za rfl ?_;refine zh rfl (fun _=>rfl) ?_;exact zb ⟨rfl,rfl⟩
     ·refine zl rfl rfl hb10_6 ?_;exact zh rfl (fun h=>absurd (h.symm.trans hb10_6) (by decide)) (zb ⟨rfl,rfl⟩)
    refine za rfl ?_;refine' zx (d:=76) [_,_,_] rfl ?_ rfl ?_
    rotate_left
    ·refine zw rfl rfl (fun hb10_10=>?_) (fun hb10_10=>?_)
     ·have ghb10_10:=hb10_10
      try simp only [zf,Bool.not_true,Bool.not_false] at ghb10_10
      refine za rfl ?_;refine zd rfl rfl hb10_10 ?_;refine za rfl ?_;refine zh rfl (fun _=>rfl) ?_;exact zb ⟨rfl,rfl⟩
     ·refine zl rfl rfl hb10_10 ?_;exact zh rfl (fun h=>absurd (h.symm.trans hb10_10) (by decide)) (zb ⟨rfl,rfl⟩)
    refine zb ?_;refine zi rfl (fun hc4=>?_) (fun hc4=>?_)
    ·(try simp only [zf] at hc4);have e5 : n[Int.toNat 5]! = n[5]!:=rfl;have e6 : n[Int.toNat 6]! = n[6]!:=rfl;exfalso;omega
    ·(try simp only [zf] at hc4)
     refine zt ?_;refine zo ?_;refine ze zc [] rfl ?_;iterate 3 refine za rfl ?_
     refine zb ?_;refine zi rfl (fun hc5=>?_) (fun hc5=>?_)
     ·(try simp only [zf] at hc5)
      refine z4 zc [] rfl ?_;iterate 4 refine za rfl ?_
      refine za (t:=I64 (n[2]! % 4)) (by show some (T.v (.int .i64 (bitV .and .i64 n[2]! 3)),(none : Option (Nat × List T))) = _;rw [h3v]) ?_;iterate 2 refine za rfl ?_
      refine zq rfl rfl (CallT.frame (c0) [0,1,2,3] rfl z3 z3 ?_)
      rintro _ _ ⟨rfl,rfl⟩;refine frK zy zy ?_;refine zb ?_;refine ze zc [] rfl ?_;iterate 3 refine za rfl ?_
      refine zb ?_;refine zi rfl (fun hc6=>?_) (fun hc6=>?_)
      ·exact absurd (h16.symm.trans hc6) (by decide)
      ·(try simp only [zf] at hc6)
       refine zt ?_;exact ⟨trivial,_,rfl,rfl,rfl⟩
     ·exact absurd (h3.symm.trans hc5) (by decide)
  ·exact absurd (h4.symm.trans hc2) (by decide)
 ·exact absurd (h12.symm.trans hc1) (by decide)
theorem zep (m : Mg) (n : List Int) (top : Int) (ok : m.Ok top) (htop : top≤1000000) (hn : 9≤n.length) (i : Nat) (v : Fr) (he : m.F[i]? = some (n[1]!,v)) (hp : posK m.F n[1]! = some i) (hm : 0≤n[2]!∧n[2]!≤2147483647) (e4 : bit n[2]! 4 = true) (e8 : bit n[2]! 8 = false) (eL : (bit n[2]! 1 || bit n[2]! 2) = true) (e16 : bit n[2]! 16 = true) (eB : confBig v n[2]! n[5]! n[6]! = false) :
  CallT Tryd.prog 90 [.ptr 0 0,cIf n] (tnH m (mF m) (mW m) []) (fun t H'=>t = .tup []∧H' = ranH (m.conf n[1]! n[2]! n[3]! n[4]! n[5]! n[6]! n[7]! n[8]!).1 (m.conf n[1]! n[2]! n[3]! n[4]! n[5]! n[6]! n[7]! n[8]!).2 []):=by
 have hc:=ok.cnt
 have hpF:=piF m.F
 have hpW:=piW m.W
 have hlk:=lookF ok.fk n[1]! true
 have hmo:=he
 obtain ⟨R0,hR0⟩ : ∃ R,R = rq 5 [v.fr,n[2]! % 4,n[3]!,n[4]!,0,0,0,0]:=⟨_,rfl⟩
 obtain ⟨R1,hR1⟩ : ∃ R,R = rq 5 [v.fr,16,0,0,0,0,0,n[8]!]:=⟨_,rfl⟩
 have h12 : (bitV .and .i64 n[2]! 12 != 0) = true:=by rw [and12 hm,e4,e8];rfl
 have h4 : (bitV .and .i64 n[2]! 4 != 0) = true:=by rw [and4 hm,e4]
 have h8 : (bitV .and .i64 n[2]! 8 != 0) = false:=by rw [and8 hm,e8]
 have h16 : (bitV .and .i64 n[2]! 16 != 0) = true:=by rw [and16 hm,e16]
 have h3 : (bitV .and .i64 n[2]! 3 != 0) = true:=by rw [and3 hm,eL]
 have h3v:=and3v hm
 have hr : m.conf n[1]! n[2]! n[3]! n[4]! n[5]! n[6]! n[7]! n[8]! = (m.up 2,[R0,R1]):=by
  unfold Mg.conf;rw [hp];simp only [getM he,confA,eB,eL,e16,confW,confH,e4,e8,if_true,if_false,Bool.false_eq_true,List.append_nil,List.nil_append,List.cons_append,List.length_cons,List.length_nil,hR0,hR1]
  try rfl
 unfold confBig confW confH at eB
 rw [e4,e8] at eB
 simp only [Bool.or_true,Bool.or_false,Bool.true_or,Bool.false_or,Bool.true_and,if_true,if_false,Bool.false_eq_true,Bool.and_eq_true,decide_eq_true_eq,Bool.and_eq_false_iff,decide_eq_false_iff_not] at eB
 rw [hr]
 rw [xb hp he] at hlk
 have c0 : CallT Tryd.prog 125 [.ptr 0 0,I64 v.fr,I64 (n[2]! % 4),I64 n[3]!,I64 n[4]!,I64 0,I64 0,I64 0] (tnH m (mF m) (mW m) []) (fun t H'=>t = .tup []∧H' = tnH1 (m.up 1) (mF m) (mW m) [R0]):=by
  have:=yi m (mF m) (mW m) v.fr (n[2]! % 4) n[3]! n[4]! 0 0 0 [] (by simp) (by skip;omega) hpF hpW
  rw [← hR0] at this
  exact this
 have c1 : CallT Tryd.prog 125 [.ptr 0 0,I64 v.fr,I64 16,I64 0,I64 0,I64 0,I64 0,I64 n[8]!] (tnH (m.up 1) (mF m) (mW m) [R0]) (fun t H'=>t = .tup []∧H' = tnH1 (m.up 2) (mF m) (mW m) [R0,R1]):=by
  have:=yi (m.up 1) (mF m) (mW m) v.fr 16 0 0 0 0 n[8]! [R0] (by simp) (by show 0≤m.cnt + 1∧m.cnt + 1≤2000000;omega) hpF hpW
  rw [← hR1,we m 1 1 2 (by decide)] at this
  exact this
 refine CallT.intro zc Tryd.func90 rfl (by kernel_rfl) (Nat.le_of_ble_eq_true rfl) ?_;refine yu zc [] [_,_,_,_,_,_,_,_,_,_,_,_,_,_,_,_,_,_,_,_] rfl yj yj ?_;refine za rfl ?_;refine zr rfl rfl rfl rfl rfl y9 zu ?_;refine zm rfl rfl yn ?_;refine za rfl ?_;refine zr rfl rfl rfl rfl rfl y9 zu ?_;refine zm rfl rfl yn ?_;refine za rfl ?_;refine zr rfl rfl rfl rfl rfl y9 zu ?_;refine zm rfl rfl yn ?_;refine za rfl ?_;refine zr rfl rfl rfl rfl rfl y9 zu ?_;refine zm rfl rfl yn ?_;refine za rfl ?_;refine zr rfl rfl rfl rfl rfl y9 zu ?_;refine zm rfl rfl yn ?_;iterate 5 refine za rfl ?_
 iterate 2 refine zb ?_
 refine ze zc [] rfl ?_;iterate 6 refine za rfl ?_
 refine yy zc rfl rfl rfl hlk ?_;iterate 3 refine za rfl ?_
 refine yk rfl rfl ?_;refine zp rfl rfl rfl rfl rfl xf rfl ?_;refine za rfl ?_;refine zb ?_;refine z7 ([(0,.ptr 0 0),(9,.iptr (frC v) 0)]) (tnH m (mF m) (mW m) []) [1,4,5,6,7,8,10] rfl (by refine ⟨[some 0,some 1,some 2,some 3],rfl,yb,ya,?_,?_⟩ <;> (repeat' first | exact trivial | exact yc | exact yd | exact z9 rfl | refine zn ?_ ?_ | refine zk rfl ?_ ?_ | refine zj ?_ ?_ | refine ye rfl ?_ | fail) <;> first | exact yv | (first | exact yg (Cv.om rfl) (Cv.om rfl) (Cv.slc rfl (.inr rfl)) | exact yg (Cv.om rfl) (Cv.om rfl) (Cv.slc rfl (.inl rfl)) | exact CvL.pure (zg _ _) | exact Cv.ptr rfl | exact CvL.pure rfl | exact Cv.fptr ⟨rfl,(by simp)⟩ (CvL.pure rfl))) ?_
 refine zo ?_;refine ze zc [] rfl ?_;iterate 2 refine za rfl ?_
 refine zb ?_;refine yq rfl ?_;refine zt ?_;refine zo ?_;refine ze zc [] rfl ?_;iterate 3 refine za rfl ?_
 refine zb ?_;refine zi rfl (fun hc1=>?_) (fun hc1=>?_)
 ·(try simp only [zf] at hc1)
  refine yu zc [] [_,_,_,_,_,_] rfl yj yj ?_;iterate 6 refine za rfl ?_
  iterate 2 refine zb ?_
  refine zo ?_;refine ze zc [] rfl ?_;iterate 3 refine za rfl ?_
  refine zb ?_;refine zi rfl (fun hc2=>?_) (fun hc2=>?_)
  ·(try simp only [zf] at hc2)
   refine z4 zc [] rfl ?_;refine za rfl ?_;refine zr rfl rfl rfl rfl rfl y9 zu ?_;refine zm rfl rfl yn ?_;refine za rfl ?_;refine zb ?_;refine zo ?_;refine ze zc [] rfl ?_;iterate 3 refine za rfl ?_
   refine zb ?_;refine zi rfl (fun hc3=>?_) (fun hc3=>?_)
   ·exact absurd (h8.symm.trans hc3) (by decide)
   ·(try simp only [zf] at hc3)
    refine zt ?_;refine ze zc [] rfl ?_;iterate 3 refine za rfl ?_
    refine' zx (d:=68) [_,_,_] rfl ?_ rfl ?_
    rotate_left
    ·refine zw rfl rfl (fun hb10_2=>?_) (fun hb10_2=>?_)
     ·have ghb10_2:=hb10_2
      try simp only [zf,Bool.not_true,Bool.not_false] at ghb10_2
      refine za rfl ?_;refine zd rfl rfl hb10_2 ?_;refine za rfl ?_;refine zh rfl (fun _=>rfl) ?_;exact zb ⟨rfl,rfl⟩
     ·refine zl rfl rfl hb10_2 ?_;exact zh rfl (fun h=>absurd (h.symm.trans hb10_2) (by decide)) (zb ⟨rfl,rfl⟩)
    refine za rfl ?_;refine' zx (d:=72) [_,_,_] rfl ?_ rfl ?_
    rotate_left
    ·refine zw rfl rfl (fun hb10_6=>?_) (fun hb10_6=>?_)
     ·have ghb10_6:=hb10_6
      try simp only [zf,Bool.not_true,Bool.not_false] at ghb10_6
      refine za rfl ?_;refine zd rfl rfl hb10_6 ?_;refine za rfl ?_;refine zh rfl (fun _=>rfl) ?_;exact zb ⟨rfl,rfl⟩
     ·refine zl rfl rfl hb10_6 ?_;exact zh rfl (fun h=>absurd (h.symm.trans hb10_6) (by decide)) (zb ⟨rfl,rfl⟩)
    refine za rfl ?_;refine' zx (d:=76) [_,_,_] rfl ?_ rfl ?_
    rotate_left
    ·refine zw rfl rfl (fun hb10_10=>?_) (fun hb10_10=>?_)
     ·have ghb10_10:=hb10_10
      try simp only [zf,Bool.not_true,Bool.not_false] at ghb10_10
      refine za rfl ?_;refine zd rfl rfl hb10_10 ?_;refine za rfl ?_;refine zh rfl (fun _=>rfl) ?_;exact zb ⟨rfl,rfl⟩
     ·refine zl rfl rfl hb10_10 ?_;exact zh rfl (fun h=>absurd (h.symm.trans hb10_10) (by decide)) (zb ⟨rfl,rfl⟩)
    refine zb ?_;refine zi rfl (fun hc4=>?_) (fun hc4=>?_)
    ·(try simp only [zf] at hc4);have e5 : n[Int.toNat 5]! = n[5]!:=rfl;have e6 : n[Int.toNat 6]! = n[6]!:=rfl;exfalso;omega
    ·(try simp only [zf] at hc4)
     refine zt ?_;refine zo ?_;refine ze zc [] rfl ?_;iterate 3 refine za rfl ?_
     refine zb ?_;refine zi rfl (fun hc5=>?_) (fun hc5=>?_)
     ·(try simp only [zf] at hc5)
      refine z4 zc [] rfl ?_;iterate 4 refine za rfl ?_
      refine za (t:=I64 (n[2]! % 4)) (by show some (T.v (.int .i64 (bitV .and .i64 n[2]! 3)),(none : Option (Nat × List T))) = _;rw [h3v]) ?_;iterate 2 refine za rfl ?_
      refine zq rfl rfl (CallT.frame (c0) [0,1,2,3] rfl z3 z3 ?_)
      rintro _ _ ⟨rfl,rfl⟩;refine frK zy zy ?_;refine zb ?_;refine ze zc [] rfl ?_;iterate 3 refine za rfl ?_
      refine zb ?_;refine zi rfl (fun hc6=>?_) (fun hc6=>?_)
      ·(try simp only [zf] at hc6)
       refine z4 zc [] rfl ?_;iterate 4 refine za rfl ?_
       refine zq rfl rfl (CallT.frame (c1) [0,1,2,4] rfl z3 z3 ?_)
       rintro _ _ ⟨rfl,rfl⟩;refine frK zy zy ?_;refine zb ?_;exact ⟨trivial,_,rfl,rfl,rfl⟩
      ·exact absurd (h16.symm.trans hc6) (by decide)
     ·exact absurd (h3.symm.trans hc5) (by decide)
  ·exact absurd (h4.symm.trans hc2) (by decide)
 ·exact absurd (h12.symm.trans hc1) (by decide)
theorem zeo (m : Mg) (n : List Int) (top : Int) (ok : m.Ok top) (htop : top≤1000000) (hn : 9≤n.length) (i : Nat) (v : Fr) (he : m.F[i]? = some (n[1]!,v)) (hp : posK m.F n[1]! = some i) (hm : 0≤n[2]!∧n[2]!≤2147483647) (e4 : bit n[2]! 4 = true) (e8 : bit n[2]! 8 = false) (eL : (bit n[2]! 1 || bit n[2]! 2) = false) (e16 : bit n[2]! 16 = false) (eB : confBig v n[2]! n[5]! n[6]! = true) :
  CallT Tryd.prog 90 [.ptr 0 0,cIf n] (tnH m (mF m) (mW m) []) (fun t H'=>t = .tup []∧H' = ranH (m.conf n[1]! n[2]! n[3]! n[4]! n[5]! n[6]! n[7]! n[8]!).1 (m.conf n[1]! n[2]! n[3]! n[4]! n[5]! n[6]! n[7]! n[8]!).2 []):=by
 have hc:=ok.cnt
 have hpF:=piF m.F
 have hpW:=piW m.W
 have hlk:=lookF ok.fk n[1]! true
 have hmo:=he
 obtain ⟨R0,hR0⟩ : ∃ R,R = rq 5 [n[1]!,12,0,0,n[5]!,v.h,0,0]:=⟨_,rfl⟩
 obtain ⟨R1,hR1⟩ : ∃ R,R = rq 5 [v.fr,12,0,0,n[5]! + 2,v.h + 10,0,0]:=⟨_,rfl⟩
 have h12 : (bitV .and .i64 n[2]! 12 != 0) = true:=by rw [and12 hm,e4,e8];rfl
 have h4 : (bitV .and .i64 n[2]! 4 != 0) = true:=by rw [and4 hm,e4]
 have h8 : (bitV .and .i64 n[2]! 8 != 0) = false:=by rw [and8 hm,e8]
 have h16 : (bitV .and .i64 n[2]! 16 != 0) = false:=by rw [and16 hm,e16]
 have h3 : (bitV .and .i64 n[2]! 3 != 0) = false:=by rw [and3 hm,eL]
 have h3v:=and3v hm
 have hr : m.conf n[1]! n[2]! n[3]! n[4]! n[5]! n[6]! n[7]! n[8]! = ({ m.up 2 with F:=m.F.set i (n[1]!,⟨v.fr,n[5]!,v.h,v.title⟩) },[R0,R1]):=by
  unfold Mg.conf;rw [hp];simp only [getM he,confA,eB,eL,e16,confW,confH,e4,e8,if_true,if_false,Bool.false_eq_true,List.append_nil,List.nil_append,List.cons_append,List.length_cons,List.length_nil,hR0,hR1]
  try rfl
 unfold confBig confW confH at eB
 rw [e4,e8] at eB
 simp only [Bool.or_true,Bool.or_false,Bool.true_or,Bool.false_or,Bool.true_and,if_true,if_false,Bool.false_eq_true,Bool.and_eq_true,decide_eq_true_eq,Bool.and_eq_false_iff,decide_eq_false_iff_not] at eB
 rw [hr]
 rw [xb hp he] at hlk
 have c0 : CallT Tryd.prog 125 [.ptr 0 0,I64 n[1]!,I64 12,I64 0,I64 0,I64 n[5]!,I64 v.h,I64 0] (tnH m (mF m) (mW m) []) (fun t H'=>t = .tup []∧H' = tnH1 (m.up 1) (mF m) (mW m) [R0]):=by
  have:=yi m (mF m) (mW m) n[1]! 12 0 0 n[5]! v.h 0 [] (by simp) (by skip;omega) hpF hpW
  rw [← hR0] at this
  exact this
 have c1 : CallT Tryd.prog 125 [.ptr 0 0,I64 v.fr,I64 12,I64 0,I64 0,I64 (n[5]! + 2),I64 (v.h + 10),I64 0] (tnH (m.up 1) (mF m) (mW m) [R0]) (fun t H'=>t = .tup []∧H' = tnH1 (m.up 2) (mF m) (mW m) [R0,R1]):=by
  have:=yi (m.up 1) (mF m) (mW m) v.fr 12 0 0 (n[5]! + 2) (v.h + 10) 0 [R0] (by simp) (by show 0≤m.cnt + 1∧m.cnt + 1≤2000000;omega) hpF hpW
  rw [← hR1,we m 1 1 2 (by decide)] at this
  exact this
 obtain ⟨MM,hMM⟩ : ∃ MM : Int→Mg,MM = fun j=>{ m.up j with F:=m.F.set i (n[1]!,⟨v.fr,n[5]!,v.h,v.title⟩) }:=⟨_,rfl⟩
 have hMF : ∀ j,(MM j).F = m.F.set i (n[1]!,⟨v.fr,n[5]!,v.h,v.title⟩):=fun j=>by rw [hMM]
 have hMt : ∀ j a,tnC (MM j) a = tnC (m.up j) a:=fun j a=>by rw [hMM]
 have hMc : ∀ j,(MM j).cnt = m.cnt + j:=fun j=>by rw [hMM]
 have hup : ∀ a b c : Int,a + b = c→(MM a).up b = MM c:=fun a b c h=>by rw [hMM];exact vz m _ a b c h
 obtain ⟨p,hpe⟩ : ∃ p : OP,p = mapP (kF (m.F.set i (n[1]!,⟨v.fr,n[5]!,v.h,v.title⟩))) (tF (m.F.set i (n[1]!,⟨v.fr,n[5]!,v.h,v.title⟩))):=⟨_,rfl⟩
 have hpp : p.pi = true:=by rw [hpe];exact piF _
 refine CallT.intro zc Tryd.func90 rfl (by kernel_rfl) (Nat.le_of_ble_eq_true rfl) ?_;refine yu zc [] [_,_,_,_,_,_,_,_,_,_,_,_,_,_,_,_,_,_,_,_] rfl yj yj ?_;refine za rfl ?_;refine zr rfl rfl rfl rfl rfl y9 zu ?_;refine zm rfl rfl yn ?_;refine za rfl ?_;refine zr rfl rfl rfl rfl rfl y9 zu ?_;refine zm rfl rfl yn ?_;refine za rfl ?_;refine zr rfl rfl rfl rfl rfl y9 zu ?_;refine zm rfl rfl yn ?_;refine za rfl ?_;refine zr rfl rfl rfl rfl rfl y9 zu ?_;refine zm rfl rfl yn ?_;refine za rfl ?_;refine zr rfl rfl rfl rfl rfl y9 zu ?_;refine zm rfl rfl yn ?_;iterate 5 refine za rfl ?_
 iterate 2 refine zb ?_
 refine ze zc [] rfl ?_;iterate 6 refine za rfl ?_
 refine yy zc rfl rfl rfl hlk ?_;iterate 3 refine za rfl ?_
 refine yk rfl rfl ?_;refine zp rfl rfl rfl rfl rfl xf rfl ?_;refine za rfl ?_;refine zb ?_;refine z7 ([(0,.ptr 0 0),(9,.ptr 4 0)]) (tnHf m (mF m) (mW m) [] v) [1,4,5,6,7,8,10] rfl (by refine ⟨[some 0,some 1,some 2,some 3,some 4],rfl,yb,ya,?_,?_⟩ <;> (repeat' first | exact trivial | exact yc | exact yd | exact z9 rfl | refine zn ?_ ?_ | refine zk rfl ?_ ?_ | refine zj ?_ ?_ | refine ye rfl ?_ | fail) <;> first | exact yv | (first | exact yg (Cv.om rfl) (Cv.om rfl) (Cv.slc rfl (.inr rfl)) | exact yg (Cv.om rfl) (Cv.om rfl) (Cv.slc rfl (.inl rfl)) | exact CvL.pure (zg _ _) | exact Cv.ptr rfl | exact CvL.pure rfl | exact Cv.fptr ⟨rfl,(by simp)⟩ (CvL.pure rfl))) ?_
 refine zo ?_;refine ze zc [] rfl ?_;iterate 2 refine za rfl ?_
 refine zb ?_;refine yq rfl ?_;refine zt ?_;refine zo ?_;refine ze zc [] rfl ?_;iterate 3 refine za rfl ?_
 refine zb ?_;refine zi rfl (fun hc1=>?_) (fun hc1=>?_)
 ·(try simp only [zf] at hc1)
  refine yu zc [] [_,_,_,_,_,_] rfl yj yj ?_;iterate 6 refine za rfl ?_
  iterate 2 refine zb ?_
  refine zo ?_;refine ze zc [] rfl ?_;iterate 3 refine za rfl ?_
  refine zb ?_;refine zi rfl (fun hc2=>?_) (fun hc2=>?_)
  ·(try simp only [zf] at hc2)
   refine z4 zc [] rfl ?_;refine za rfl ?_;refine zr rfl rfl rfl rfl rfl y9 zu ?_;refine zm rfl rfl yn ?_;refine za rfl ?_;refine zb ?_;refine zo ?_;refine ze zc [] rfl ?_;iterate 3 refine za rfl ?_
   refine zb ?_;refine zi rfl (fun hc3=>?_) (fun hc3=>?_)
   ·exact absurd (h8.symm.trans hc3) (by decide)
   ·(try simp only [zf] at hc3)
    refine zt ?_;refine ze zc [] rfl ?_;iterate 3 refine za rfl ?_
    refine' zx (d:=68) [_,_,_] rfl ?_ rfl ?_
    rotate_left
    ·refine zw rfl rfl (fun hb10_2=>?_) (fun hb10_2=>?_)
     ·have ghb10_2:=hb10_2
      try simp only [zf,Bool.not_true,Bool.not_false] at ghb10_2
      refine za rfl ?_;refine zd rfl rfl hb10_2 ?_;refine za rfl ?_;refine zh rfl (fun _=>rfl) ?_;exact zb ⟨rfl,rfl⟩
     ·refine zl rfl rfl hb10_2 ?_;exact zh rfl (fun h=>absurd (h.symm.trans hb10_2) (by decide)) (zb ⟨rfl,rfl⟩)
    refine za rfl ?_;refine' zx (d:=72) [_,_,_] rfl ?_ rfl ?_
    rotate_left
    ·refine zw rfl rfl (fun hb10_6=>?_) (fun hb10_6=>?_)
     ·have ghb10_6:=hb10_6
      try simp only [zf,Bool.not_true,Bool.not_false] at ghb10_6
      refine za rfl ?_;refine zd rfl rfl hb10_6 ?_;refine za rfl ?_;refine zh rfl (fun _=>rfl) ?_;exact zb ⟨rfl,rfl⟩
     ·refine zl rfl rfl hb10_6 ?_;exact zh rfl (fun h=>absurd (h.symm.trans hb10_6) (by decide)) (zb ⟨rfl,rfl⟩)
    refine za rfl ?_;refine' zx (d:=76) [_,_,_] rfl ?_ rfl ?_
    rotate_left
    ·refine zw rfl rfl (fun hb10_10=>?_) (fun hb10_10=>?_)
     ·have ghb10_10:=hb10_10
      try simp only [zf,Bool.not_true,Bool.not_false] at ghb10_10
      refine za rfl ?_;refine zd rfl rfl hb10_10 ?_;refine za rfl ?_;refine zh rfl (fun _=>rfl) ?_;exact zb ⟨rfl,rfl⟩
     ·refine zl rfl rfl hb10_10 ?_;exact zh rfl (fun h=>absurd (h.symm.trans hb10_10) (by decide)) (zb ⟨rfl,rfl⟩)
    refine zb ?_;refine zi rfl (fun hc4=>?_) (fun hc4=>?_)
    ·(try simp only [zf] at hc4)
     refine ze zc [] rfl ?_;iterate 4 refine za rfl ?_
     refine zq rfl rfl (CallT.frame (c0) [0,1,2,3] rfl z3 z3 ?_)
     rintro _ _ ⟨rfl,rfl⟩;refine frK zy zy ?_;refine zb ?_;refine z7 ([(0,.ptr 0 0),(9,.ptr 5 0)]) (tnH1f (m.up 1) (mF m) (mW m) [R0] v) [4,5,6,7,8,11,12] rfl (by refine ⟨[some 0,some 1,some 2,some 3,some 5,some 4],rfl,yb,ya,?_,?_⟩ <;> (repeat' first | exact trivial | exact yc | exact yd | exact z9 rfl | refine zn ?_ ?_ | refine zk rfl ?_ ?_ | refine zj ?_ ?_ | refine ye rfl ?_ | fail) <;> first | exact yv | (first | exact yg (Cv.om rfl) (Cv.om rfl) (Cv.slc rfl (.inr rfl)) | exact yg (Cv.om rfl) (Cv.om rfl) (Cv.slc rfl (.inl rfl)) | exact CvL.pure (zg _ _) | exact Cv.ptr rfl | exact CvL.pure rfl | exact Cv.fptr ⟨rfl,(by simp)⟩ (CvL.pure rfl))) ?_
     refine ze zc [] rfl ?_;iterate 4 refine za rfl ?_
     refine xg rfl rfl zu ?_;refine za rfl ?_;refine xg rfl rfl zu ?_;refine zq rfl rfl (CallT.frame (c1) [0,1,2,4] rfl z3 z3 ?_)
     rintro _ _ ⟨rfl,rfl⟩;refine frK zy zy ?_;refine zb ?_;refine z7 ([(0,.ptr 0 0),(9,.ptr 6 0)]) (tnH2f (m.up 2) (mF m) (mW m) [R0,R1] v) [4,5,6,7,8,11,12] rfl (by refine ⟨[some 0,some 1,some 2,some 3,some 4,some 6,some 5],rfl,yb,ya,?_,?_⟩ <;> (repeat' first | exact trivial | exact yc | exact yd | exact z9 rfl | refine zn ?_ ?_ | refine zk rfl ?_ ?_ | refine zj ?_ ?_ | refine ye rfl ?_ | fail) <;> first | exact yv | (first | exact yg (Cv.om rfl) (Cv.om rfl) (Cv.slc rfl (.inr rfl)) | exact yg (Cv.om rfl) (Cv.om rfl) (Cv.slc rfl (.inl rfl)) | exact CvL.pure (zg _ _) | exact Cv.ptr rfl | exact CvL.pure rfl | exact Cv.fptr ⟨rfl,(by simp)⟩ (CvL.pure rfl))) ?_
     refine ze zc [] rfl ?_;iterate 3 refine za rfl ?_
     refine zp rfl rfl rfl rfl rfl xf rfl ?_;refine za rfl ?_;refine zp rfl rfl rfl rfl rfl xf rfl ?_;refine zb ?_;refine z7 ([(0,.ptr 0 0),(9,.ptr 6 0)]) (tnH2f (m.up 2) (mF m) (mW m) [R0,R1] ⟨v.fr,n[5]!,v.h,v.title⟩) [4,5,6,7,8] rfl (by refine ⟨[some 0,some 1,some 2,some 3,some 4,some 5,some 6],rfl,yb,ya,?_,?_⟩ <;> (repeat' first | exact trivial | exact yc | exact yd | exact z9 rfl | refine zn ?_ ?_ | refine zk rfl ?_ ?_ | refine zj ?_ ?_ | refine ye rfl ?_ | fail) <;> first | exact yv | (first | exact yg (Cv.om rfl) (Cv.om rfl) (Cv.slc rfl (.inr rfl)) | exact yg (Cv.om rfl) (Cv.om rfl) (Cv.slc rfl (.inl rfl)) | exact CvL.pure (zg _ _) | exact Cv.ptr rfl | exact CvL.pure rfl | exact Cv.fptr ⟨rfl,(by simp)⟩ (CvL.pure rfl))) ?_
     refine wc zc [] [_,_,_,_,_,_,_] rfl yj yj ?_;iterate 6 refine za rfl ?_
     refine za (t:=frT ⟨v.fr,n[5]!,v.h,v.title⟩) rfl ?_;refine zb ?_;refine x9 zc rfl rfl rfl rfl rfl rfl rfl rfl (by exact likeF _ _) (keyAt he) ?_;rw [show mapP (kF m.F) ((tF m.F).set i (frT ⟨v.fr,n[5]!,v.h,v.title⟩)) = p from (setF he).trans hpe.symm]
     refine zb ?_;refine z7 ([(0,.ptr 0 0),(9,.iptr (frC ⟨v.fr,n[5]!,v.h,v.title⟩) 0)]) (tnH2 (MM 2) p (mW m) [R0,R1]) [5,6,7,8] rfl (by refine ⟨[some 0,some 1,some 2,some 3,some 4,some 5],rfl,yb,ya,?_,?_⟩ <;> (repeat' first | exact trivial | exact yc | exact yd | exact z9 rfl | refine zn ?_ ?_ | refine zk rfl ?_ ?_ | refine zj ?_ ?_ | refine ye rfl ?_ | fail) <;> first | exact yv | (first | (rw [hMt];exact yg (Cv.om rfl) (Cv.om rfl) (Cv.slc rfl (.inl rfl))) | first | exact yg (Cv.om rfl) (Cv.om rfl) (Cv.slc rfl (.inr rfl)) | exact yg (Cv.om rfl) (Cv.om rfl) (Cv.slc rfl (.inl rfl)) | exact CvL.pure (zg _ _) | exact Cv.ptr rfl | exact CvL.pure rfl | exact Cv.fptr ⟨rfl,(by simp)⟩ (CvL.pure rfl))) ?_
     refine zo ?_;refine ze zc [] rfl ?_;iterate 3 refine za rfl ?_
     refine zb ?_;refine zi rfl (fun hc5=>?_) (fun hc5=>?_)
     ·exact absurd (h3.symm.trans hc5) (by decide)
     ·(try simp only [zf] at hc5)
      refine zt ?_;refine ze zc [] rfl ?_;iterate 3 refine za rfl ?_
      refine zb ?_;refine zi rfl (fun hc6=>?_) (fun hc6=>?_)
      ·exact absurd (h16.symm.trans hc6) (by decide)
      ·(try simp only [zf] at hc6)
       refine zt ?_;refine ⟨trivial,_,rfl,rfl,?_⟩;rw [hpe,hMM];rfl
    ·(try simp only [zf] at hc4);have e5 : n[Int.toNat 5]! = n[5]!:=rfl;have e6 : n[Int.toNat 6]! = n[6]!:=rfl;exfalso;omega
  ·exact absurd (h4.symm.trans hc2) (by decide)
 ·exact absurd (h12.symm.trans hc1) (by decide)
theorem zen (m : Mg) (n : List Int) (top : Int) (ok : m.Ok top) (htop : top≤1000000) (hn : 9≤n.length) (i : Nat) (v : Fr) (he : m.F[i]? = some (n[1]!,v)) (hp : posK m.F n[1]! = some i) (hm : 0≤n[2]!∧n[2]!≤2147483647) (e4 : bit n[2]! 4 = true) (e8 : bit n[2]! 8 = false) (eL : (bit n[2]! 1 || bit n[2]! 2) = false) (e16 : bit n[2]! 16 = true) (eB : confBig v n[2]! n[5]! n[6]! = true) :
  CallT Tryd.prog 90 [.ptr 0 0,cIf n] (tnH m (mF m) (mW m) []) (fun t H'=>t = .tup []∧H' = ranH (m.conf n[1]! n[2]! n[3]! n[4]! n[5]! n[6]! n[7]! n[8]!).1 (m.conf n[1]! n[2]! n[3]! n[4]! n[5]! n[6]! n[7]! n[8]!).2 []):=by
 have hc:=ok.cnt
 have hpF:=piF m.F
 have hpW:=piW m.W
 have hlk:=lookF ok.fk n[1]! true
 have hmo:=he
 obtain ⟨R0,hR0⟩ : ∃ R,R = rq 5 [n[1]!,12,0,0,n[5]!,v.h,0,0]:=⟨_,rfl⟩
 obtain ⟨R1,hR1⟩ : ∃ R,R = rq 5 [v.fr,12,0,0,n[5]! + 2,v.h + 10,0,0]:=⟨_,rfl⟩
 obtain ⟨R2,hR2⟩ : ∃ R,R = rq 5 [v.fr,16,0,0,0,0,0,n[8]!]:=⟨_,rfl⟩
 have h12 : (bitV .and .i64 n[2]! 12 != 0) = true:=by rw [and12 hm,e4,e8];rfl
 have h4 : (bitV .and .i64 n[2]! 4 != 0) = true:=by rw [and4 hm,e4]
 have h8 : (bitV .and .i64 n[2]! 8 != 0) = false:=by rw [and8 hm,e8]
 have h16 : (bitV .and .i64 n[2]! 16 != 0) = true:=by rw [and16 hm,e16]
 have h3 : (bitV .and .i64 n[2]! 3 != 0) = false:=by rw [and3 hm,eL]
 have h3v:=and3v hm
 have hr : m.conf n[1]! n[2]! n[3]! n[4]! n[5]! n[6]! n[7]! n[8]! = ({ m.up 3 with F:=m.F.set i (n[1]!,⟨v.fr,n[5]!,v.h,v.title⟩) },[R0,R1,R2]):=by
  unfold Mg.conf;rw [hp];simp only [getM he,confA,eB,eL,e16,confW,confH,e4,e8,if_true,if_false,Bool.false_eq_true,List.append_nil,List.nil_append,List.cons_append,List.length_cons,List.length_nil,hR0,hR1,hR2]
  try rfl
 unfold confBig confW confH at eB
 rw [e4,e8] at eB
 simp only [Bool.or_true,Bool.or_false,Bool.true_or,Bool.false_or,Bool.true_and,if_true,if_false,Bool.false_eq_true,Bool.and_eq_true,decide_eq_true_eq,Bool.and_eq_false_iff,decide_eq_false_iff_not] at eB
 rw [hr]
 rw [xb hp he] at hlk
 have c0 : CallT Tryd.prog 125 [.ptr 0 0,I64 n[1]!,I64 12,I64 0,I64 0,I64 n[5]!,I64 v.h,I64 0] (tnH m (mF m) (mW m) []) (fun t H'=>t = .tup []∧H' = tnH1 (m.up 1) (mF m) (mW m) [R0]):=by
  have:=yi m (mF m) (mW m) n[1]! 12 0 0 n[5]! v.h 0 [] (by simp) (by skip;omega) hpF hpW
  rw [← hR0] at this
  exact this
 have c1 : CallT Tryd.prog 125 [.ptr 0 0,I64 v.fr,I64 12,I64 0,I64 0,I64 (n[5]! + 2),I64 (v.h + 10),I64 0] (tnH (m.up 1) (mF m) (mW m) [R0]) (fun t H'=>t = .tup []∧H' = tnH1 (m.up 2) (mF m) (mW m) [R0,R1]):=by
  have:=yi (m.up 1) (mF m) (mW m) v.fr 12 0 0 (n[5]! + 2) (v.h + 10) 0 [R0] (by simp) (by show 0≤m.cnt + 1∧m.cnt + 1≤2000000;omega) hpF hpW
  rw [← hR1,we m 1 1 2 (by decide)] at this
  exact this
 obtain ⟨MM,hMM⟩ : ∃ MM : Int→Mg,MM = fun j=>{ m.up j with F:=m.F.set i (n[1]!,⟨v.fr,n[5]!,v.h,v.title⟩) }:=⟨_,rfl⟩
 have hMF : ∀ j,(MM j).F = m.F.set i (n[1]!,⟨v.fr,n[5]!,v.h,v.title⟩):=fun j=>by rw [hMM]
 have hMt : ∀ j a,tnC (MM j) a = tnC (m.up j) a:=fun j a=>by rw [hMM]
 have hMc : ∀ j,(MM j).cnt = m.cnt + j:=fun j=>by rw [hMM]
 have hup : ∀ a b c : Int,a + b = c→(MM a).up b = MM c:=fun a b c h=>by rw [hMM];exact vz m _ a b c h
 obtain ⟨p,hpe⟩ : ∃ p : OP,p = mapP (kF (m.F.set i (n[1]!,⟨v.fr,n[5]!,v.h,v.title⟩))) (tF (m.F.set i (n[1]!,⟨v.fr,n[5]!,v.h,v.title⟩))):=⟨_,rfl⟩
 have hpp : p.pi = true:=by rw [hpe];exact piF _
 have c2 : CallT Tryd.prog 125 [.ptr 0 0,I64 v.fr,I64 16,I64 0,I64 0,I64 0,I64 0,I64 n[8]!] (tnH (MM 2) p (mW m) [R0,R1]) (fun t H'=>t = .tup []∧H' = tnH1 (MM 3) p (mW m) [R0,R1,R2]):=by
  have:=yi (MM 2) p (mW m) v.fr 16 0 0 0 0 n[8]! [R0,R1] (by simp) (by rw [hMc];omega) hpp hpW
  rw [← hR2,hup 2 1 3 (by decide)] at this
  exact this
 refine CallT.intro zc Tryd.func90 rfl (by kernel_rfl) (Nat.le_of_ble_eq_true rfl) ?_;refine yu zc [] [_,_,_,_,_,_,_,_,_,_,_,_,_,_,_,_,_,_,_,_] rfl yj yj ?_;refine za rfl ?_;refine zr rfl rfl rfl rfl rfl y9 zu ?_;refine zm rfl rfl yn ?_;refine za rfl ?_;refine zr rfl rfl rfl rfl rfl y9 zu ?_;refine zm rfl rfl yn ?_;refine za rfl ?_;refine zr rfl rfl rfl rfl rfl y9 zu ?_;refine zm rfl rfl yn ?_;refine za rfl ?_;refine zr rfl rfl rfl rfl rfl y9 zu ?_;refine zm rfl rfl yn ?_;refine za rfl ?_;refine zr rfl rfl rfl rfl rfl y9 zu ?_;refine zm rfl rfl yn ?_;iterate 5 refine za rfl ?_
 iterate 2 refine zb ?_
 refine ze zc [] rfl ?_;iterate 6 refine za rfl ?_
 refine yy zc rfl rfl rfl hlk ?_;iterate 3 refine za rfl ?_
 refine yk rfl rfl ?_;refine zp rfl rfl rfl rfl rfl xf rfl ?_;refine za rfl ?_;refine zb ?_;refine z7 ([(0,.ptr 0 0),(9,.ptr 4 0)]) (tnHf m (mF m) (mW m) [] v) [1,4,5,6,7,8,10] rfl (by refine ⟨[some 0,some 1,some 2,some 3,some 4],rfl,yb,ya,?_,?_⟩ <;> (repeat' first | exact trivial | exact yc | exact yd | exact z9 rfl | refine zn ?_ ?_ | refine zk rfl ?_ ?_ | refine zj ?_ ?_ | refine ye rfl ?_ | fail) <;> first | exact yv | (first | exact yg (Cv.om rfl) (Cv.om rfl) (Cv.slc rfl (.inr rfl)) | exact yg (Cv.om rfl) (Cv.om rfl) (Cv.slc rfl (.inl rfl)) | exact CvL.pure (zg _ _) | exact Cv.ptr rfl | exact CvL.pure rfl | exact Cv.fptr ⟨rfl,(by simp)⟩ (CvL.pure rfl))) ?_
 refine zo ?_;refine ze zc [] rfl ?_;iterate 2 refine za rfl ?_
 refine zb ?_;refine yq rfl ?_;refine zt ?_;refine zo ?_;refine ze zc [] rfl ?_;iterate 3 refine za rfl ?_
 refine zb ?_;refine zi rfl (fun hc1=>?_) (fun hc1=>?_)
 ·(try simp only [zf] at hc1)
  refine yu zc [] [_,_,_,_,_,_] rfl yj yj ?_;iterate 6 refine za rfl ?_
  iterate 2 refine zb ?_
  refine zo ?_;refine ze zc [] rfl ?_;iterate 3 refine za rfl ?_
  refine zb ?_;refine zi rfl (fun hc2=>?_) (fun hc2=>?_)
  ·(try simp only [zf] at hc2)
   refine z4 zc [] rfl ?_;refine za rfl ?_;refine zr rfl rfl rfl rfl rfl y9 zu ?_;refine zm rfl rfl yn ?_;refine za rfl ?_;refine zb ?_;refine zo ?_;refine ze zc [] rfl ?_;iterate 3 refine za rfl ?_
   refine zb ?_;refine zi rfl (fun hc3=>?_) (fun hc3=>?_)
   ·exact absurd (h8.symm.trans hc3) (by decide)
   ·(try simp only [zf] at hc3)
    refine zt ?_;refine ze zc [] rfl ?_;iterate 3 refine za rfl ?_
    refine' zx (d:=68) [_,_,_] rfl ?_ rfl ?_
    rotate_left
    ·refine zw rfl rfl (fun hb10_2=>?_) (fun hb10_2=>?_)
     ·have ghb10_2:=hb10_2
      try simp only [zf,Bool.not_true,Bool.not_false] at ghb10_2
      refine za rfl ?_;refine zd rfl rfl hb10_2 ?_;refine za rfl ?_;refine zh rfl (fun _=>rfl) ?_;exact zb ⟨rfl,rfl⟩
     ·refine zl rfl rfl hb10_2 ?_;exact zh rfl (fun h=>absurd (h.symm.trans hb10_2) (by decide)) (zb ⟨rfl,rfl⟩)
    refine za rfl ?_;refine' zx (d:=72) [_,_,_] rfl ?_ rfl ?_
    rotate_left
    ·refine zw rfl rfl (fun hb10_6=>?_) (fun hb10_6=>?_)
     ·have ghb10_6:=hb10_6
      try simp only [zf,Bool.not_true,Bool.not_false] at ghb10_6
      refine za rfl ?_;refine zd rfl rfl hb10_6 ?_;refine za rfl ?_;refine zh rfl (fun _=>rfl) ?_;exact zb ⟨rfl,rfl⟩
     ·refine zl rfl rfl hb10_6 ?_;exact zh rfl (fun h=>absurd (h.symm.trans hb10_6) (by decide)) (zb ⟨rfl,rfl⟩)
    refine za rfl ?_;refine' zx (d:=76) [_,_,_] rfl ?_ rfl ?_
    rotate_left
    ·refine zw rfl rfl (fun hb10_10=>?_) (fun hb10_10=>?_)
     ·have ghb10_10:=hb10_10
      try simp only [zf,Bool.not_true,Bool.not_false] at ghb10_10
      refine za rfl ?_;refine zd rfl rfl hb10_10 ?_;refine za rfl ?_;refine zh rfl (fun _=>rfl) ?_;exact zb ⟨rfl,rfl⟩
     ·refine zl rfl rfl hb10_10 ?_;exact zh rfl (fun h=>absurd (h.symm.trans hb10_10) (by decide)) (zb ⟨rfl,rfl⟩)
    refine zb ?_;refine zi rfl (fun hc4=>?_) (fun hc4=>?_)
    ·(try simp only [zf] at hc4)
     refine ze zc [] rfl ?_;iterate 4 refine za rfl ?_
     refine zq rfl rfl (CallT.frame (c0) [0,1,2,3] rfl z3 z3 ?_)
     rintro _ _ ⟨rfl,rfl⟩;refine frK zy zy ?_;refine zb ?_;refine z7 ([(0,.ptr 0 0),(9,.ptr 5 0)]) (tnH1f (m.up 1) (mF m) (mW m) [R0] v) [4,5,6,7,8,11,12] rfl (by refine ⟨[some 0,some 1,some 2,some 3,some 5,some 4],rfl,yb,ya,?_,?_⟩ <;> (repeat' first | exact trivial | exact yc | exact yd | exact z9 rfl | refine zn ?_ ?_ | refine zk rfl ?_ ?_ | refine zj ?_ ?_ | refine ye rfl ?_ | fail) <;> first | exact yv | (first | exact yg (Cv.om rfl) (Cv.om rfl) (Cv.slc rfl (.inr rfl)) | exact yg (Cv.om rfl) (Cv.om rfl) (Cv.slc rfl (.inl rfl)) | exact CvL.pure (zg _ _) | exact Cv.ptr rfl | exact CvL.pure rfl | exact Cv.fptr ⟨rfl,(by simp)⟩ (CvL.pure rfl))) ?_
     refine ze zc [] rfl ?_;iterate 4 refine za rfl ?_
     refine xg rfl rfl zu ?_;refine za rfl ?_;refine xg rfl rfl zu ?_;refine zq rfl rfl (CallT.frame (c1) [0,1,2,4] rfl z3 z3 ?_)
     rintro _ _ ⟨rfl,rfl⟩;refine frK zy zy ?_;refine zb ?_;refine z7 ([(0,.ptr 0 0),(9,.ptr 5 0)]) (tnH1f (m.up 2) (mF m) (mW m) [R0,R1] v) [4,5,6,7,8,11,12] rfl (by refine ⟨[some 0,some 1,some 2,some 3,some 6,some 5],rfl,yb,ya,?_,?_⟩ <;> (repeat' first | exact trivial | exact yc | exact yd | exact z9 rfl | refine zn ?_ ?_ | refine zk rfl ?_ ?_ | refine zj ?_ ?_ | refine ye rfl ?_ | fail) <;> first | exact yv | (first | exact yg (Cv.om rfl) (Cv.om rfl) (Cv.slc rfl (.inr rfl)) | exact yg (Cv.om rfl) (Cv.om rfl) (Cv.slc rfl (.inl rfl)) | exact CvL.pure (zg _ _) | exact Cv.ptr rfl | exact CvL.pure rfl | exact Cv.fptr ⟨rfl,(by simp)⟩ (CvL.pure rfl))) ?_
     refine ze zc [] rfl ?_;iterate 3 refine za rfl ?_
     refine zp rfl rfl rfl rfl rfl xf rfl ?_;refine za rfl ?_;refine zp rfl rfl rfl rfl rfl xf rfl ?_;refine zb ?_;refine z7 ([(0,.ptr 0 0),(9,.ptr 5 0)]) (tnH1f (m.up 2) (mF m) (mW m) [R0,R1] ⟨v.fr,n[5]!,v.h,v.title⟩) [4,5,6,7,8] rfl (by refine ⟨[some 0,some 1,some 2,some 3,some 4,some 5],rfl,yb,ya,?_,?_⟩ <;> (repeat' first | exact trivial | exact yc | exact yd | exact z9 rfl | refine zn ?_ ?_ | refine zk rfl ?_ ?_ | refine zj ?_ ?_ | refine ye rfl ?_ | fail) <;> first | exact yv | (first | exact yg (Cv.om rfl) (Cv.om rfl) (Cv.slc rfl (.inr rfl)) | exact yg (Cv.om rfl) (Cv.om rfl) (Cv.slc rfl (.inl rfl)) | exact CvL.pure (zg _ _) | exact Cv.ptr rfl | exact CvL.pure rfl | exact Cv.fptr ⟨rfl,(by simp)⟩ (CvL.pure rfl))) ?_
     refine wc zc [] [_,_,_,_,_,_,_] rfl yj yj ?_;iterate 6 refine za rfl ?_
     refine za (t:=frT ⟨v.fr,n[5]!,v.h,v.title⟩) rfl ?_;refine zb ?_;refine x9 zc rfl rfl rfl rfl rfl rfl rfl rfl (by exact likeF _ _) (keyAt he) ?_;rw [show mapP (kF m.F) ((tF m.F).set i (frT ⟨v.fr,n[5]!,v.h,v.title⟩)) = p from (setF he).trans hpe.symm]
     refine zb ?_;refine z7 ([(0,.ptr 0 0),(9,.iptr (frC ⟨v.fr,n[5]!,v.h,v.title⟩) 0)]) (tnH1 (MM 2) p (mW m) [R0,R1]) [5,6,7,8] rfl (by refine ⟨[some 0,some 1,some 2,some 3,some 4],rfl,yb,ya,?_,?_⟩ <;> (repeat' first | exact trivial | exact yc | exact yd | exact z9 rfl | refine zn ?_ ?_ | refine zk rfl ?_ ?_ | refine zj ?_ ?_ | refine ye rfl ?_ | fail) <;> first | exact yv | (first | (rw [hMt];exact yg (Cv.om rfl) (Cv.om rfl) (Cv.slc rfl (.inl rfl))) | first | exact yg (Cv.om rfl) (Cv.om rfl) (Cv.slc rfl (.inr rfl)) | exact yg (Cv.om rfl) (Cv.om rfl) (Cv.slc rfl (.inl rfl)) | exact CvL.pure (zg _ _) | exact Cv.ptr rfl | exact CvL.pure rfl | exact Cv.fptr ⟨rfl,(by simp)⟩ (CvL.pure rfl))) ?_
     refine zo ?_;refine ze zc [] rfl ?_;iterate 3 refine za rfl ?_
     refine zb ?_;refine zi rfl (fun hc5=>?_) (fun hc5=>?_)
     ·exact absurd (h3.symm.trans hc5) (by decide)
     ·(try simp only [zf] at hc5)
      refine zt ?_;refine ze zc [] rfl ?_;iterate 3 refine za rfl ?_
      refine zb ?_;refine zi rfl (fun hc6=>?_) (fun hc6=>?_)
      ·(try simp only [zf] at hc6)
       refine z4 zc [] rfl ?_;iterate 4 refine za rfl ?_
       refine zq rfl rfl (CallT.frame (c2) [0,1,2,4] rfl z3 z3 ?_)
       rintro _ _ ⟨rfl,rfl⟩;refine frK zy zy ?_;refine zb ?_;refine ⟨trivial,_,rfl,rfl,?_⟩;rw [hpe,hMM];rfl
      ·exact absurd (h16.symm.trans hc6) (by decide)
    ·(try simp only [zf] at hc4);have e5 : n[Int.toNat 5]! = n[5]!:=rfl;have e6 : n[Int.toNat 6]! = n[6]!:=rfl;exfalso;omega
  ·exact absurd (h4.symm.trans hc2) (by decide)
 ·exact absurd (h12.symm.trans hc1) (by decide)
theorem zem (m : Mg) (n : List Int) (top : Int) (ok : m.Ok top) (htop : top≤1000000) (hn : 9≤n.length) (i : Nat) (v : Fr) (he : m.F[i]? = some (n[1]!,v)) (hp : posK m.F n[1]! = some i) (hm : 0≤n[2]!∧n[2]!≤2147483647) (e4 : bit n[2]! 4 = true) (e8 : bit n[2]! 8 = false) (eL : (bit n[2]! 1 || bit n[2]! 2) = true) (e16 : bit n[2]! 16 = false) (eB : confBig v n[2]! n[5]! n[6]! = true) :
  CallT Tryd.prog 90 [.ptr 0 0,cIf n] (tnH m (mF m) (mW m) []) (fun t H'=>t = .tup []∧H' = ranH (m.conf n[1]! n[2]! n[3]! n[4]! n[5]! n[6]! n[7]! n[8]!).1 (m.conf n[1]! n[2]! n[3]! n[4]! n[5]! n[6]! n[7]! n[8]!).2 []):=by
 have hc:=ok.cnt
 have hpF:=piF m.F
 have hpW:=piW m.W
 have hlk:=lookF ok.fk n[1]! true
 have hmo:=he
 obtain ⟨R0,hR0⟩ : ∃ R,R = rq 5 [n[1]!,12,0,0,n[5]!,v.h,0,0]:=⟨_,rfl⟩
 obtain ⟨R1,hR1⟩ : ∃ R,R = rq 5 [v.fr,12,0,0,n[5]! + 2,v.h + 10,0,0]:=⟨_,rfl⟩
 obtain ⟨R2,hR2⟩ : ∃ R,R = rq 5 [v.fr,n[2]! % 4,n[3]!,n[4]!,0,0,0,0]:=⟨_,rfl⟩
 have h12 : (bitV .and .i64 n[2]! 12 != 0) = true:=by rw [and12 hm,e4,e8];rfl
 have h4 : (bitV .and .i64 n[2]! 4 != 0) = true:=by rw [and4 hm,e4]
 have h8 : (bitV .and .i64 n[2]! 8 != 0) = false:=by rw [and8 hm,e8]
 have h16 : (bitV .and .i64 n[2]! 16 != 0) = false:=by rw [and16 hm,e16]
 have h3 : (bitV .and .i64 n[2]! 3 != 0) = true:=by rw [and3 hm,eL]
 have h3v:=and3v hm
 have hr : m.conf n[1]! n[2]! n[3]! n[4]! n[5]! n[6]! n[7]! n[8]! = ({ m.up 3 with F:=m.F.set i (n[1]!,⟨v.fr,n[5]!,v.h,v.title⟩) },[R0,R1,R2]):=by
  unfold Mg.conf;rw [hp];simp only [getM he,confA,eB,eL,e16,confW,confH,e4,e8,if_true,if_false,Bool.false_eq_true,List.append_nil,List.nil_append,List.cons_append,List.length_cons,List.length_nil,hR0,hR1,hR2]
  try rfl
 unfold confBig confW confH at eB
 rw [e4,e8] at eB
 simp only [Bool.or_true,Bool.or_false,Bool.true_or,Bool.false_or,Bool.true_and,if_true,if_false,Bool.false_eq_true,Bool.and_eq_true,decide_eq_true_eq,Bool.and_eq_false_iff,decide_eq_false_iff_not] at eB
 rw [hr]
 rw [xb hp he] at hlk
 have c0 : CallT Tryd.prog 125 [.ptr 0 0,I64 n[1]!,I64 12,I64 0,I64 0,I64 n[5]!,I64 v.h,I64 0] (tnH m (mF m) (mW m) []) (fun t H'=>t = .tup []∧H' = tnH1 (m.up 1) (mF m) (mW m) [R0]):=by
  have:=yi m (mF m) (mW m) n[1]! 12 0 0 n[5]! v.h 0 [] (by simp) (by skip;omega) hpF hpW
  rw [← hR0] at this
  exact this
 have c1 : CallT Tryd.prog 125 [.ptr 0 0,I64 v.fr,I64 12,I64 0,I64 0,I64 (n[5]! + 2),I64 (v.h + 10),I64 0] (tnH (m.up 1) (mF m) (mW m) [R0]) (fun t H'=>t = .tup []∧H' = tnH1 (m.up 2) (mF m) (mW m) [R0,R1]):=by
  have:=yi (m.up 1) (mF m) (mW m) v.fr 12 0 0 (n[5]! + 2) (v.h + 10) 0 [R0] (by simp) (by show 0≤m.cnt + 1∧m.cnt + 1≤2000000;omega) hpF hpW
  rw [← hR1,we m 1 1 2 (by decide)] at this
  exact this
 obtain ⟨MM,hMM⟩ : ∃ MM : Int→Mg,MM = fun j=>{ m.up j with F:=m.F.set i (n[1]!,⟨v.fr,n[5]!,v.h,v.title⟩) }:=⟨_,rfl⟩
 have hMF : ∀ j,(MM j).F = m.F.set i (n[1]!,⟨v.fr,n[5]!,v.h,v.title⟩):=fun j=>by rw [hMM]
 have hMt : ∀ j a,tnC (MM j) a = tnC (m.up j) a:=fun j a=>by rw [hMM]
 have hMc : ∀ j,(MM j).cnt = m.cnt + j:=fun j=>by rw [hMM]
 have hup : ∀ a b c : Int,a + b = c→(MM a).up b = MM c:=fun a b c h=>by rw [hMM];exact vz m _ a b c h
 obtain ⟨p,hpe⟩ : ∃ p : OP,p = mapP (kF (m.F.set i (n[1]!,⟨v.fr,n[5]!,v.h,v.title⟩))) (tF (m.F.set i (n[1]!,⟨v.fr,n[5]!,v.h,v.title⟩))):=⟨_,rfl⟩
 have hpp : p.pi = true:=by rw [hpe];exact piF _
 have c2 : CallT Tryd.prog 125 [.ptr 0 0,I64 v.fr,I64 (n[2]! % 4),I64 n[3]!,I64 n[4]!,I64 0,I64 0,I64 0] (tnH (MM 2) p (mW m) [R0,R1]) (fun t H'=>t = .tup []∧H' = tnH1 (MM 3) p (mW m) [R0,R1,R2]):=by
  have:=yi (MM 2) p (mW m) v.fr (n[2]! % 4) n[3]! n[4]! 0 0 0 [R0,R1] (by simp) (by rw [hMc];omega) hpp hpW
  rw [← hR2,hup 2 1 3 (by decide)] at this
  exact this
 refine CallT.intro zc Tryd.func90 rfl (by kernel_rfl) (Nat.le_of_ble_eq_true rfl) ?_;refine yu zc [] [_,_,_,_,_,_,_,_,_,_,_,_,_,_,_,_,_,_,_,_] rfl yj yj ?_;refine za rfl ?_;refine zr rfl rfl rfl rfl rfl y9 zu ?_;refine zm rfl rfl yn ?_;refine za rfl ?_;refine zr rfl rfl rfl rfl rfl y9 zu ?_;refine zm rfl rfl yn ?_;refine za rfl ?_;refine zr rfl rfl rfl rfl rfl y9 zu ?_;refine zm rfl rfl yn ?_;refine za rfl ?_;refine zr rfl rfl rfl rfl rfl y9 zu ?_;refine zm rfl rfl yn ?_;refine za rfl ?_;refine zr rfl rfl rfl rfl rfl y9 zu ?_;refine zm rfl rfl yn ?_;iterate 5 refine za rfl ?_
 iterate 2 refine zb ?_
 refine ze zc [] rfl ?_;iterate 6 refine za rfl ?_
 refine yy zc rfl rfl rfl hlk ?_;iterate 3 refine za rfl ?_
 refine yk rfl rfl ?_;refine zp rfl rfl rfl rfl rfl xf rfl ?_;refine za rfl ?_;refine zb ?_;refine z7 ([(0,.ptr 0 0),(9,.ptr 4 0)]) (tnHf m (mF m) (mW m) [] v) [1,4,5,6,7,8,10] rfl (by refine ⟨[some 0,some 1,some 2,some 3,some 4],rfl,yb,ya,?_,?_⟩ <;> (repeat' first | exact trivial | exact yc | exact yd | exact z9 rfl | refine zn ?_ ?_ | refine zk rfl ?_ ?_ | refine zj ?_ ?_ | refine ye rfl ?_ | fail) <;> first | exact yv | (first | exact yg (Cv.om rfl) (Cv.om rfl) (Cv.slc rfl (.inr rfl)) | exact yg (Cv.om rfl) (Cv.om rfl) (Cv.slc rfl (.inl rfl)) | exact CvL.pure (zg _ _) | exact Cv.ptr rfl | exact CvL.pure rfl | exact Cv.fptr ⟨rfl,(by simp)⟩ (CvL.pure rfl))) ?_
 refine zo ?_;refine ze zc [] rfl ?_;iterate 2 refine za rfl ?_
 refine zb ?_;refine yq rfl ?_;refine zt ?_;refine zo ?_;refine ze zc [] rfl ?_;iterate 3 refine za rfl ?_
 refine zb ?_;refine zi rfl (fun hc1=>?_) (fun hc1=>?_)
 ·(try simp only [zf] at hc1)
  refine yu zc [] [_,_,_,_,_,_] rfl yj yj ?_;iterate 6 refine za rfl ?_
  iterate 2 refine zb ?_
  refine zo ?_;refine ze zc [] rfl ?_;iterate 3 refine za rfl ?_
  refine zb ?_;refine zi rfl (fun hc2=>?_) (fun hc2=>?_)
  ·(try simp only [zf] at hc2)
   refine z4 zc [] rfl ?_;refine za rfl ?_;refine zr rfl rfl rfl rfl rfl y9 zu ?_;refine zm rfl rfl yn ?_;refine za rfl ?_;refine zb ?_;refine zo ?_;refine ze zc [] rfl ?_;iterate 3 refine za rfl ?_
   refine zb ?_;refine zi rfl (fun hc3=>?_) (fun hc3=>?_)
   ·exact absurd (h8.symm.trans hc3) (by decide)
   ·(try simp only [zf] at hc3)
    refine zt ?_;refine ze zc [] rfl ?_;iterate 3 refine za rfl ?_
    refine' zx (d:=68) [_,_,_] rfl ?_ rfl ?_
    rotate_left
    ·refine zw rfl rfl (fun hb10_2=>?_) (fun hb10_2=>?_)
     ·have ghb10_2:=hb10_2
      try simp only [zf,Bool.not_true,Bool.not_false] at ghb10_2
      refine za rfl ?_;refine zd rfl rfl hb10_2 ?_;refine za rfl ?_;refine zh rfl (fun _=>rfl) ?_;exact zb ⟨rfl,rfl⟩
     ·refine zl rfl rfl hb10_2 ?_;exact zh rfl (fun h=>absurd (h.symm.trans hb10_2) (by decide)) (zb ⟨rfl,rfl⟩)
    refine za rfl ?_;refine' zx (d:=72) [_,_,_] rfl ?_ rfl ?_
    rotate_left
    ·refine zw rfl rfl (fun hb10_6=>?_) (fun hb10_6=>?_)
     ·have ghb10_6:=hb10_6
      try simp only [zf,Bool.not_true,Bool.not_false] at ghb10_6
      refine za rfl ?_;refine zd rfl rfl hb10_6 ?_;refine za rfl ?_;refine zh rfl (fun _=>rfl) ?_;exact zb ⟨rfl,rfl⟩
     ·refine zl rfl rfl hb10_6 ?_;exact zh rfl (fun h=>absurd (h.symm.trans hb10_6) (by decide)) (zb ⟨rfl,rfl⟩)
    refine za rfl ?_;refine' zx (d:=76) [_,_,_] rfl ?_ rfl ?_
    rotate_left
    ·refine zw rfl rfl (fun hb10_10=>?_) (fun hb10_10=>?_)
     ·have ghb10_10:=hb10_10
      try simp only [zf,Bool.not_true,Bool.not_false] at ghb10_10
      refine za rfl ?_;refine zd rfl rfl hb10_10 ?_;refine za rfl ?_;refine zh rfl (fun _=>rfl) ?_;exact zb ⟨rfl,rfl⟩
     ·refine zl rfl rfl hb10_10 ?_;exact zh rfl (fun h=>absurd (h.symm.trans hb10_10) (by decide)) (zb ⟨rfl,rfl⟩)
    refine zb ?_;refine zi rfl (fun hc4=>?_) (fun hc4=>?_)
    ·(try simp only [zf] at hc4)
     refine ze zc [] rfl ?_;iterate 4 refine za rfl ?_
     refine zq rfl rfl (CallT.frame (c0) [0,1,2,3] rfl z3 z3 ?_)
     rintro _ _ ⟨rfl,rfl⟩;refine frK zy zy ?_;refine zb ?_;refine z7 ([(0,.ptr 0 0),(9,.ptr 5 0)]) (tnH1f (m.up 1) (mF m) (mW m) [R0] v) [4,5,6,7,8,11,12] rfl (by refine ⟨[some 0,some 1,some 2,some 3,some 5,some 4],rfl,yb,ya,?_,?_⟩ <;> (repeat' first | exact trivial | exact yc | exact yd | exact z9 rfl | refine zn ?_ ?_ | refine zk rfl ?_ ?_ | refine zj ?_ ?_ | refine ye rfl ?_ | fail) <;> first | exact yv | (first | exact yg (Cv.om rfl) (Cv.om rfl) (Cv.slc rfl (.inr rfl)) | exact yg (Cv.om rfl) (Cv.om rfl) (Cv.slc rfl (.inl rfl)) | exact CvL.pure (zg _ _) | exact Cv.ptr rfl | exact CvL.pure rfl | exact Cv.fptr ⟨rfl,(by simp)⟩ (CvL.pure rfl))) ?_
     refine ze zc [] rfl ?_;iterate 4 refine za rfl ?_
     refine xg rfl rfl zu ?_;refine za rfl ?_;refine xg rfl rfl zu ?_;refine zq rfl rfl (CallT.frame (c1) [0,1,2,4] rfl z3 z3 ?_)
     rintro _ _ ⟨rfl,rfl⟩;refine frK zy zy ?_;refine zb ?_;refine z7 ([(0,.ptr 0 0),(9,.ptr 5 0)]) (tnH1f (m.up 2) (mF m) (mW m) [R0,R1] v) [4,5,6,7,8,11,12] rfl (by refine ⟨[some 0,some 1,some 2,some 3,some 6,some 5],rfl,yb,ya,?_,?_⟩ <;> (repeat' first | exact trivial | exact yc | exact yd | exact z9 rfl | refine zn ?_ ?_ | refine zk rfl ?_ ?_ | refine zj ?_ ?_ | refine ye rfl ?_ | fail) <;> first | exact yv | (first | exact yg (Cv.om rfl) (Cv.om rfl) (Cv.slc rfl (.inr rfl)) | exact yg (Cv.om rfl) (Cv.om rfl) (Cv.slc rfl (.inl rfl)) | exact CvL.pure (zg _ _) | exact Cv.ptr rfl | exact CvL.pure rfl | exact Cv.fptr ⟨rfl,(by simp)⟩ (CvL.pure rfl))) ?_
     refine ze zc [] rfl ?_;iterate 3 refine za rfl ?_
     refine zp rfl rfl rfl rfl rfl xf rfl ?_;refine za rfl ?_;refine zp rfl rfl rfl rfl rfl xf rfl ?_;refine zb ?_;refine z7 ([(0,.ptr 0 0),(9,.ptr 5 0)]) (tnH1f (m.up 2) (mF m) (mW m) [R0,R1] ⟨v.fr,n[5]!,v.h,v.title⟩) [4,5,6,7,8] rfl (by refine ⟨[some 0,some 1,some 2,some 3,some 4,some 5],rfl,yb,ya,?_,?_⟩ <;> (repeat' first | exact trivial | exact yc | exact yd | exact z9 rfl | refine zn ?_ ?_ | refine zk rfl ?_ ?_ | refine zj ?_ ?_ | refine ye rfl ?_ | fail) <;> first | exact yv | (first | exact yg (Cv.om rfl) (Cv.om rfl) (Cv.slc rfl (.inr rfl)) | exact yg (Cv.om rfl) (Cv.om rfl) (Cv.slc rfl (.inl rfl)) | exact CvL.pure (zg _ _) | exact Cv.ptr rfl | exact CvL.pure rfl | exact Cv.fptr ⟨rfl,(by simp)⟩ (CvL.pure rfl))) ?_
     refine wc zc [] [_,_,_,_,_,_,_] rfl yj yj ?_;iterate 6 refine za rfl ?_
     refine za (t:=frT ⟨v.fr,n[5]!,v.h,v.title⟩) rfl ?_;refine zb ?_;refine x9 zc rfl rfl rfl rfl rfl rfl rfl rfl (by exact likeF _ _) (keyAt he) ?_;rw [show mapP (kF m.F) ((tF m.F).set i (frT ⟨v.fr,n[5]!,v.h,v.title⟩)) = p from (setF he).trans hpe.symm]
     refine zb ?_;refine z7 ([(0,.ptr 0 0),(9,.iptr (frC ⟨v.fr,n[5]!,v.h,v.title⟩) 0)]) (tnH1 (MM 2) p (mW m) [R0,R1]) [5,6,7,8] rfl (by refine ⟨[some 0,some 1,some 2,some 3,some 4],rfl,yb,ya,?_,?_⟩ <;> (repeat' first | exact trivial | exact yc | exact yd | exact z9 rfl | refine zn ?_ ?_ | refine zk rfl ?_ ?_ | refine zj ?_ ?_ | refine ye rfl ?_ | fail) <;> first | exact yv | (first | (rw [hMt];exact yg (Cv.om rfl) (Cv.om rfl) (Cv.slc rfl (.inl rfl))) | first | exact yg (Cv.om rfl) (Cv.om rfl) (Cv.slc rfl (.inr rfl)) | exact yg (Cv.om rfl) (Cv.om rfl) (Cv.slc rfl (.inl rfl)) | exact CvL.pure (zg _ _) | exact Cv.ptr rfl | exact CvL.pure rfl | exact Cv.fptr ⟨rfl,(by simp)⟩ (CvL.pure rfl))) ?_
     refine zo ?_;refine ze zc [] rfl ?_;iterate 3 refine za rfl ?_
     refine zb ?_;refine zi rfl (fun hc5=>?_) (fun hc5=>?_)
     ·(try simp only [zf] at hc5)
      refine z4 zc [] rfl ?_;iterate 4 refine za rfl ?_
      refine za (t:=I64 (n[2]! % 4)) (by show some (T.v (.int .i64 (bitV .and .i64 n[2]! 3)),(none : Option (Nat × List T))) = _;rw [h3v]) ?_;iterate 2 refine za rfl ?_
      refine zq rfl rfl (CallT.frame (c2) [0,1,2,4] rfl z3 z3 ?_)
      rintro _ _ ⟨rfl,rfl⟩;refine frK zy zy ?_;refine zb ?_;refine ze zc [] rfl ?_;iterate 3 refine za rfl ?_
      refine zb ?_;refine zi rfl (fun hc6=>?_) (fun hc6=>?_)
      ·exact absurd (h16.symm.trans hc6) (by decide)
      ·(try simp only [zf] at hc6)
       refine zt ?_;refine ⟨trivial,_,rfl,rfl,?_⟩;rw [hpe,hMM];rfl
     ·exact absurd (h3.symm.trans hc5) (by decide)
    ·(try simp only [zf] at hc4);have e5 : n[Int.toNat 5]! = n[5]!:=rfl;have e6 : n[Int.toNat 6]! = n[6]!:=rfl;exfalso;omega
  ·exact absurd (h4.symm.trans hc2) (by decide)
 ·exact absurd (h12.symm.trans hc1) (by decide)
theorem zel (m : Mg) (n : List Int) (top : Int) (ok : m.Ok top) (htop : top≤1000000) (hn : 9≤n.length) (i : Nat) (v : Fr) (he : m.F[i]? = some (n[1]!,v)) (hp : posK m.F n[1]! = some i) (hm : 0≤n[2]!∧n[2]!≤2147483647) (e4 : bit n[2]! 4 = true) (e8 : bit n[2]! 8 = false) (eL : (bit n[2]! 1 || bit n[2]! 2) = true) (e16 : bit n[2]! 16 = true) (eB : confBig v n[2]! n[5]! n[6]! = true) :
  CallT Tryd.prog 90 [.ptr 0 0,cIf n] (tnH m (mF m) (mW m) []) (fun t H'=>t = .tup []∧H' = ranH (m.conf n[1]! n[2]! n[3]! n[4]! n[5]! n[6]! n[7]! n[8]!).1 (m.conf n[1]! n[2]! n[3]! n[4]! n[5]! n[6]! n[7]! n[8]!).2 []):=by
 have hc:=ok.cnt
 have hpF:=piF m.F
 have hpW:=piW m.W
 have hlk:=lookF ok.fk n[1]! true
 have hmo:=he
 obtain ⟨R0,hR0⟩ : ∃ R,R = rq 5 [n[1]!,12,0,0,n[5]!,v.h,0,0]:=⟨_,rfl⟩
 obtain ⟨R1,hR1⟩ : ∃ R,R = rq 5 [v.fr,12,0,0,n[5]! + 2,v.h + 10,0,0]:=⟨_,rfl⟩
 obtain ⟨R2,hR2⟩ : ∃ R,R = rq 5 [v.fr,n[2]! % 4,n[3]!,n[4]!,0,0,0,0]:=⟨_,rfl⟩
 obtain ⟨R3,hR3⟩ : ∃ R,R = rq 5 [v.fr,16,0,0,0,0,0,n[8]!]:=⟨_,rfl⟩
 have h12 : (bitV .and .i64 n[2]! 12 != 0) = true:=by rw [and12 hm,e4,e8];rfl
 have h4 : (bitV .and .i64 n[2]! 4 != 0) = true:=by rw [and4 hm,e4]
 have h8 : (bitV .and .i64 n[2]! 8 != 0) = false:=by rw [and8 hm,e8]
 have h16 : (bitV .and .i64 n[2]! 16 != 0) = true:=by rw [and16 hm,e16]
 have h3 : (bitV .and .i64 n[2]! 3 != 0) = true:=by rw [and3 hm,eL]
 have h3v:=and3v hm
 have hr : m.conf n[1]! n[2]! n[3]! n[4]! n[5]! n[6]! n[7]! n[8]! = ({ m.up 4 with F:=m.F.set i (n[1]!,⟨v.fr,n[5]!,v.h,v.title⟩) },[R0,R1,R2,R3]):=by
  unfold Mg.conf;rw [hp];simp only [getM he,confA,eB,eL,e16,confW,confH,e4,e8,if_true,if_false,Bool.false_eq_true,List.append_nil,List.nil_append,List.cons_append,List.length_cons,List.length_nil,hR0,hR1,hR2,hR3]
  try rfl
 unfold confBig confW confH at eB
 rw [e4,e8] at eB
 simp only [Bool.or_true,Bool.or_false,Bool.true_or,Bool.false_or,Bool.true_and,if_true,if_false,Bool.false_eq_true,Bool.and_eq_true,decide_eq_true_eq,Bool.and_eq_false_iff,decide_eq_false_iff_not] at eB
 rw [hr]
 rw [xb hp he] at hlk
 have c0 : CallT Tryd.prog 125 [.ptr 0 0,I64 n[1]!,I64 12,I64 0,I64 0,I64 n[5]!,I64 v.h,I64 0] (tnH m (mF m) (mW m) []) (fun t H'=>t = .tup []∧H' = tnH1 (m.up 1) (mF m) (mW m) [R0]):=by
  have:=yi m (mF m) (mW m) n[1]! 12 0 0 n[5]! v.h 0 [] (by simp) (by skip;omega) hpF hpW
  rw [← hR0] at this
  exact this
 have c1 : CallT Tryd.prog 125 [.ptr 0 0,I64 v.fr,I64 12,I64 0,I64 0,I64 (n[5]! + 2),I64 (v.h + 10),I64 0] (tnH (m.up 1) (mF m) (mW m) [R0]) (fun t H'=>t = .tup []∧H' = tnH1 (m.up 2) (mF m) (mW m) [R0,R1]):=by
  have:=yi (m.up 1) (mF m) (mW m) v.fr 12 0 0 (n[5]! + 2) (v.h + 10) 0 [R0] (by simp) (by show 0≤m.cnt + 1∧m.cnt + 1≤2000000;omega) hpF hpW
  rw [← hR1,we m 1 1 2 (by decide)] at this
  exact this
 obtain ⟨MM,hMM⟩ : ∃ MM : Int→Mg,MM = fun j=>{ m.up j with F:=m.F.set i (n[1]!,⟨v.fr,n[5]!,v.h,v.title⟩) }:=⟨_,rfl⟩
 have hMF : ∀ j,(MM j).F = m.F.set i (n[1]!,⟨v.fr,n[5]!,v.h,v.title⟩):=fun j=>by rw [hMM]
 have hMt : ∀ j a,tnC (MM j) a = tnC (m.up j) a:=fun j a=>by rw [hMM]
 have hMc : ∀ j,(MM j).cnt = m.cnt + j:=fun j=>by rw [hMM]
 have hup : ∀ a b c : Int,a + b = c→(MM a).up b = MM c:=fun a b c h=>by rw [hMM];exact vz m _ a b c h
 obtain ⟨p,hpe⟩ : ∃ p : OP,p = mapP (kF (m.F.set i (n[1]!,⟨v.fr,n[5]!,v.h,v.title⟩))) (tF (m.F.set i (n[1]!,⟨v.fr,n[5]!,v.h,v.title⟩))):=⟨_,rfl⟩
 have hpp : p.pi = true:=by rw [hpe];exact piF _
 have c2 : CallT Tryd.prog 125 [.ptr 0 0,I64 v.fr,I64 (n[2]! % 4),I64 n[3]!,I64 n[4]!,I64 0,I64 0,I64 0] (tnH (MM 2) p (mW m) [R0,R1]) (fun t H'=>t = .tup []∧H' = tnH1 (MM 3) p (mW m) [R0,R1,R2]):=by
  have:=yi (MM 2) p (mW m) v.fr (n[2]! % 4) n[3]! n[4]! 0 0 0 [R0,R1] (by simp) (by rw [hMc];omega) hpp hpW
  rw [← hR2,hup 2 1 3 (by decide)] at this
  exact this
 have c3 : CallT Tryd.prog 125 [.ptr 0 0,I64 v.fr,I64 16,I64 0,I64 0,I64 0,I64 0,I64 n[8]!] (tnH (MM 3) p (mW m) [R0,R1,R2]) (fun t H'=>t = .tup []∧H' = tnH1 (MM 4) p (mW m) [R0,R1,R2,R3]):=by
  have:=yi (MM 3) p (mW m) v.fr 16 0 0 0 0 n[8]! [R0,R1,R2] (by simp) (by rw [hMc];omega) hpp hpW
  rw [← hR3,hup 3 1 4 (by decide)] at this
  exact this
 refine CallT.intro zc Tryd.func90 rfl (by kernel_rfl) (Nat.le_of_ble_eq_true rfl) ?_;refine yu zc [] [_,_,_,_,_,_,_,_,_,_,_,_,_,_,_,_,_,_,_,_] rfl yj yj ?_;refine za rfl ?_;refine zr rfl rfl rfl rfl rfl y9 zu ?_;refine zm rfl rfl yn ?_;refine za rfl ?_;refine zr rfl rfl rfl rfl rfl y9 zu ?_;refine zm rfl rfl yn ?_;refine za rfl ?_;refine zr rfl rfl rfl rfl rfl y9 zu ?_;refine zm rfl rfl yn ?_;refine za rfl ?_;refine zr rfl rfl rfl rfl rfl y9 zu ?_;refine zm rfl rfl yn ?_;refine za rfl ?_;refine zr rfl rfl rfl rfl rfl y9 zu ?_;refine zm rfl rfl yn ?_;iterate 5 refine za rfl ?_
 iterate 2 refine zb ?_
 refine ze zc [] rfl ?_;iterate 6 refine za rfl ?_
 refine yy zc rfl rfl rfl hlk ?_;iterate 3 refine za rfl ?_
 refine yk rfl rfl ?_;refine zp rfl rfl rfl rfl rfl xf rfl ?_;refine za rfl ?_;refine zb ?_;refine z7 ([(0,.ptr 0 0),(9,.ptr 4 0)]) (tnHf m (mF m) (mW m) [] v) [1,4,5,6,7,8,10] rfl (by refine ⟨[some 0,some 1,some 2,some 3,some 4],rfl,yb,ya,?_,?_⟩ <;> (repeat' first | exact trivial | exact yc | exact yd | exact z9 rfl | refine zn ?_ ?_ | refine zk rfl ?_ ?_ | refine zj ?_ ?_ | refine ye rfl ?_ | fail) <;> first | exact yv | (first | exact yg (Cv.om rfl) (Cv.om rfl) (Cv.slc rfl (.inr rfl)) | exact yg (Cv.om rfl) (Cv.om rfl) (Cv.slc rfl (.inl rfl)) | exact CvL.pure (zg _ _) | exact Cv.ptr rfl | exact CvL.pure rfl | exact Cv.fptr ⟨rfl,(by simp)⟩ (CvL.pure rfl))) ?_
 refine zo ?_;refine ze zc [] rfl ?_;iterate 2 refine za rfl ?_
 refine zb ?_;refine yq rfl ?_;refine zt ?_;refine zo ?_;refine ze zc [] rfl ?_;iterate 3 refine za rfl ?_
 refine zb ?_;refine zi rfl (fun hc1=>?_) (fun hc1=>?_)
 ·(try simp only [zf] at hc1)
  refine yu zc [] [_,_,_,_,_,_] rfl yj yj ?_;iterate 6 refine za rfl ?_
  iterate 2 refine zb ?_
  refine zo ?_;refine ze zc [] rfl ?_;iterate 3 refine za rfl ?_
  refine zb ?_;refine zi rfl (fun hc2=>?_) (fun hc2=>?_)
  ·(try simp only [zf] at hc2)
   refine z4 zc [] rfl ?_;refine za rfl ?_;refine zr rfl rfl rfl rfl rfl y9 zu ?_;refine zm rfl rfl yn ?_;refine za rfl ?_;refine zb ?_;refine zo ?_;refine ze zc [] rfl ?_;iterate 3 refine za rfl ?_
   refine zb ?_;refine zi rfl (fun hc3=>?_) (fun hc3=>?_)
   ·exact absurd (h8.symm.trans hc3) (by decide)
   ·(try simp only [zf] at hc3)
    refine zt ?_;refine ze zc [] rfl ?_;iterate 3 refine za rfl ?_
    refine' zx (d:=68) [_,_,_] rfl ?_ rfl ?_
    rotate_left
    ·refine zw rfl rfl (fun hb10_2=>?_) (fun hb10_2=>?_)
     ·have ghb10_2:=hb10_2
      try simp only [zf,Bool.not_true,Bool.not_false] at ghb10_2
      refine za rfl ?_;refine zd rfl rfl hb10_2 ?_;refine za rfl ?_;refine zh rfl (fun _=>rfl) ?_;exact zb ⟨rfl,rfl⟩
     ·refine zl rfl rfl hb10_2 ?_;exact zh rfl (fun h=>absurd (h.symm.trans hb10_2) (by decide)) (zb ⟨rfl,rfl⟩)
    refine za rfl ?_;refine' zx (d:=72) [_,_,_] rfl ?_ rfl ?_
    rotate_left
    ·refine zw rfl rfl (fun hb10_6=>?_) (fun hb10_6=>?_)
     ·have ghb10_6:=hb10_6
      try simp only [zf,Bool.not_true,Bool.not_false] at ghb10_6
      refine za rfl ?_;refine zd rfl rfl hb10_6 ?_;refine za rfl ?_;refine zh rfl (fun _=>rfl) ?_;exact zb ⟨rfl,rfl⟩
     ·refine zl rfl rfl hb10_6 ?_;exact zh rfl (fun h=>absurd (h.symm.trans hb10_6) (by decide)) (zb ⟨rfl,rfl⟩)
    refine za rfl ?_;refine' zx (d:=76) [_,_,_] rfl ?_ rfl ?_
    rotate_left
    ·refine zw rfl rfl (fun hb10_10=>?_) (fun hb10_10=>?_)
     ·have ghb10_10:=hb10_10
      try simp only [zf,Bool.not_true,Bool.not_false] at ghb10_10
      refine za rfl ?_;refine zd rfl rfl hb10_10 ?_;refine za rfl ?_;refine zh rfl (fun _=>rfl) ?_;exact zb ⟨rfl,rfl⟩
     ·refine zl rfl rfl hb10_10 ?_;exact zh rfl (fun h=>absurd (h.symm.trans hb10_10) (by decide)) (zb ⟨rfl,rfl⟩)
    refine zb ?_;refine zi rfl (fun hc4=>?_) (fun hc4=>?_)
    ·(try simp only [zf] at hc4)
     refine ze zc [] rfl ?_;iterate 4 refine za rfl ?_
     refine zq rfl rfl (CallT.frame (c0) [0,1,2,3] rfl z3 z3 ?_)
     rintro _ _ ⟨rfl,rfl⟩;refine frK zy zy ?_;refine zb ?_;refine z7 ([(0,.ptr 0 0),(9,.ptr 5 0)]) (tnH1f (m.up 1) (mF m) (mW m) [R0] v) [4,5,6,7,8,11,12] rfl (by refine ⟨[some 0,some 1,some 2,some 3,some 5,some 4],rfl,yb,ya,?_,?_⟩ <;> (repeat' first | exact trivial | exact yc | exact yd | exact z9 rfl | refine zn ?_ ?_ | refine zk rfl ?_ ?_ | refine zj ?_ ?_ | refine ye rfl ?_ | fail) <;> first | exact yv | (first | exact yg (Cv.om rfl) (Cv.om rfl) (Cv.slc rfl (.inr rfl)) | exact yg (Cv.om rfl) (Cv.om rfl) (Cv.slc rfl (.inl rfl)) | exact CvL.pure (zg _ _) | exact Cv.ptr rfl | exact CvL.pure rfl | exact Cv.fptr ⟨rfl,(by simp)⟩ (CvL.pure rfl))) ?_
     refine ze zc [] rfl ?_;iterate 4 refine za rfl ?_
     refine xg rfl rfl zu ?_;refine za rfl ?_;refine xg rfl rfl zu ?_;refine zq rfl rfl (CallT.frame (c1) [0,1,2,4] rfl z3 z3 ?_)
     rintro _ _ ⟨rfl,rfl⟩;refine frK zy zy ?_;refine zb ?_;refine z7 ([(0,.ptr 0 0),(9,.ptr 5 0)]) (tnH1f (m.up 2) (mF m) (mW m) [R0,R1] v) [4,5,6,7,8,11,12] rfl (by refine ⟨[some 0,some 1,some 2,some 3,some 6,some 5],rfl,yb,ya,?_,?_⟩ <;> (repeat' first | exact trivial | exact yc | exact yd | exact z9 rfl | refine zn ?_ ?_ | refine zk rfl ?_ ?_ | refine zj ?_ ?_ | refine ye rfl ?_ | fail) <;> first | exact yv | (first | exact yg (Cv.om rfl) (Cv.om rfl) (Cv.slc rfl (.inr rfl)) | exact yg (Cv.om rfl) (Cv.om rfl) (Cv.slc rfl (.inl rfl)) | exact CvL.pure (zg _ _) | exact Cv.ptr rfl | exact CvL.pure rfl | exact Cv.fptr ⟨rfl,(by simp)⟩ (CvL.pure rfl))) ?_
     refine ze zc [] rfl ?_;iterate 3 refine za rfl ?_
     refine zp rfl rfl rfl rfl rfl xf rfl ?_;refine za rfl ?_;refine zp rfl rfl rfl rfl rfl xf rfl ?_;refine zb ?_;refine z7 ([(0,.ptr 0 0),(9,.ptr 5 0)]) (tnH1f (m.up 2) (mF m) (mW m) [R0,R1] ⟨v.fr,n[5]!,v.h,v.title⟩) [4,5,6,7,8] rfl (by refine ⟨[some 0,some 1,some 2,some 3,some 4,some 5],rfl,yb,ya,?_,?_⟩ <;> (repeat' first | exact trivial | exact yc | exact yd | exact z9 rfl | refine zn ?_ ?_ | refine zk rfl ?_ ?_ | refine zj ?_ ?_ | refine ye rfl ?_ | fail) <;> first | exact yv | (first | exact yg (Cv.om rfl) (Cv.om rfl) (Cv.slc rfl (.inr rfl)) | exact yg (Cv.om rfl) (Cv.om rfl) (Cv.slc rfl (.inl rfl)) | exact CvL.pure (zg _ _) | exact Cv.ptr rfl | exact CvL.pure rfl | exact Cv.fptr ⟨rfl,(by simp)⟩ (CvL.pure rfl))) ?_
     refine wc zc [] [_,_,_,_,_,_,_] rfl yj yj ?_;iterate 6 refine za rfl ?_
     refine za (t:=frT ⟨v.fr,n[5]!,v.h,v.title⟩) rfl ?_;refine zb ?_;refine x9 zc rfl rfl rfl rfl rfl rfl rfl rfl (by exact likeF _ _) (keyAt he) ?_;rw [show mapP (kF m.F) ((tF m.F).set i (frT ⟨v.fr,n[5]!,v.h,v.title⟩)) = p from (setF he).trans hpe.symm]
     refine zb ?_;refine z7 ([(0,.ptr 0 0),(9,.iptr (frC ⟨v.fr,n[5]!,v.h,v.title⟩) 0)]) (tnH1 (MM 2) p (mW m) [R0,R1]) [5,6,7,8] rfl (by refine ⟨[some 0,some 1,some 2,some 3,some 4],rfl,yb,ya,?_,?_⟩ <;> (repeat' first | exact trivial | exact yc | exact yd | exact z9 rfl | refine zn ?_ ?_ | refine zk rfl ?_ ?_ | refine zj ?_ ?_ | refine ye rfl ?_ | fail) <;> first | exact yv | (first | (rw [hMt];exact yg (Cv.om rfl) (Cv.om rfl) (Cv.slc rfl (.inl rfl))) | first | exact yg (Cv.om rfl) (Cv.om rfl) (Cv.slc rfl (.inr rfl)) | exact yg (Cv.om rfl) (Cv.om rfl) (Cv.slc rfl (.inl rfl)) | exact CvL.pure (zg _ _) | exact Cv.ptr rfl | exact CvL.pure rfl | exact Cv.fptr ⟨rfl,(by simp)⟩ (CvL.pure rfl))) ?_
     refine zo ?_;refine ze zc [] rfl ?_;iterate 3 refine za rfl ?_
     refine zb ?_;refine zi rfl (fun hc5=>?_) (fun hc5=>?_)
     ·(try simp only [zf] at hc5)
      refine z4 zc [] rfl ?_;iterate 4 refine za rfl ?_
      refine za (t:=I64 (n[2]! % 4)) (by show some (T.v (.int .i64 (bitV .and .i64 n[2]! 3)),(none : Option (Nat × List T))) = _;rw [h3v]) ?_;iterate 2 refine za rfl ?_
      refine zq rfl rfl (CallT.frame (c2) [0,1,2,4] rfl z3 z3 ?_)
      rintro _ _ ⟨rfl,rfl⟩;refine frK zy zy ?_;refine zb ?_;refine z7 ([(0,.ptr 0 0)]) (tnH1 (MM 3) p (mW m) [R0,R1,R2]) [5,8,9] rfl (by refine ⟨[some 0,some 1,some 2,some 3,some 5],rfl,yb,ya,?_,?_⟩ <;> (repeat' first | exact trivial | exact yc | exact yd | exact z9 rfl | refine zn ?_ ?_ | refine zk rfl ?_ ?_ | refine zj ?_ ?_ | refine ye rfl ?_ | fail) <;> first | exact yv | (first | (rw [hMt,hMt];exact yg (Cv.om rfl) (Cv.om rfl) (Cv.slc rfl (.inr rfl))) | (rw [hMt,hMt];exact yg (Cv.om rfl) (Cv.om rfl) (Cv.slc rfl (.inl rfl))) | first | exact yg (Cv.om rfl) (Cv.om rfl) (Cv.slc rfl (.inr rfl)) | exact yg (Cv.om rfl) (Cv.om rfl) (Cv.slc rfl (.inl rfl)) | exact CvL.pure (zg _ _) | exact Cv.ptr rfl | exact CvL.pure rfl | exact Cv.fptr ⟨rfl,(by simp)⟩ (CvL.pure rfl))) ?_
      refine ze zc [] rfl ?_;iterate 3 refine za rfl ?_
      refine zb ?_;refine zi rfl (fun hc6=>?_) (fun hc6=>?_)
      ·(try simp only [zf] at hc6)
       refine z4 zc [] rfl ?_;iterate 4 refine za rfl ?_
       refine zq rfl rfl (CallT.frame (c3) [0,1,2,4] rfl z3 z3 ?_)
       rintro _ _ ⟨rfl,rfl⟩;refine frK zy zy ?_;refine zb ?_;refine ⟨trivial,_,rfl,rfl,?_⟩;rw [hpe,hMM];rfl
      ·exact absurd (h16.symm.trans hc6) (by decide)
     ·exact absurd (h3.symm.trans hc5) (by decide)
    ·(try simp only [zf] at hc4);have e5 : n[Int.toNat 5]! = n[5]!:=rfl;have e6 : n[Int.toNat 6]! = n[6]!:=rfl;exfalso;omega
  ·exact absurd (h4.symm.trans hc2) (by decide)
 ·exact absurd (h12.symm.trans hc1) (by decide)
end
end Go.Proofs.YtjnomaiejmgedaaDoor
