/-
  The proof's lemmas, part 5.
-/
import Derived.Test.YtofmninnienjhaaGreatDoorEdtd
namespace Go.Proofs.YtofmninnienjhaaGreatDoor
set_option linter.unusedSimpArgs false
set_option linter.unusedVariables false

section
open Go.RowKit
set_option maxRecDepth 100000
set_option maxHeartbeats 1000000
theorem zb8 : ∀ (l : List BSt) (t : List UInt8),(pX l t).length = l.length
 | [],_=>rfl
 | o :: l,t=>by show (pX l (unT t o)).length + 1 = _;rw [zb8];rfl
theorem zh0 : ∀ (l : List BSt) (t : List UInt8),(fX l t).length = l.length
 | [],_=>rfl
 | o :: l,t=>by show (fX l (reT t o)).length + 1 = _;rw [zh0];rfl
theorem zg9 : ∀ (n : Nat) (l : List BSt) (t : List UInt8),pX (l.take n) t = (pX l t).take n
 | 0,l,t=>by simp [pX]
 | n + 1,[],t=>rfl
 | n + 1,o :: l,t=>by show unT t o :: pX (l.take n) (unT t o) = unT t o :: (pX l (unT t o)).take n;rw [zg9]
theorem tp (e : Ed) : e.R.past.length = e.c.bf.past.length:=by show (pX _ _).reverse.length = _;rw [List.length_reverse,zb8,List.length_reverse]
theorem R_chg (e : Ed) (ok : e.c.bf.Ok) (o : BSt) (cur anc : Nat) (h : o.pos + o.out.length≤e.c.bf.text.length) (hs : (e.c.bf.text.drop o.pos).take o.out.length = o.out) :
  (e.wc { e.c with bf:=e.c.bf.chg o,cur:=cur,anc:=anc }).R = { e.R.put (reT e.c.bf.text o) with cur:=cur,anc:=anc }:=by
 have h1:=zf7 h hs
 have h2:=ok.few.1
 have hl:=tp e
 have hq : (pX (wth e.c.bf.past o).reverse (reT e.c.bf.text o)).reverse = (e.R.put (reT e.c.bf.text o)).past:=by
  unfold Rx.put wth
  dsimp only
  have hx : e.R.past = (pX e.c.bf.past.reverse e.c.bf.text).reverse:=rfl
  have ht : e.R.text = e.c.bf.text:=rfl
  by_cases hc : 256≤e.c.bf.past.length
  ·rw [if_pos hc,if_pos (by omega),List.reverse_append,List.reverse_singleton,List.singleton_append,List.reverse_drop]
   show (unT (reT e.c.bf.text o) o :: pX _ (unT (reT e.c.bf.text o) o)).reverse = _
   rw [h1,zg9,List.reverse_cons,hx,ht,List.drop_append_of_le_length (by rw [List.length_reverse,zb8,List.length_reverse];omega),List.drop_reverse,zb8,List.length_reverse,show e.c.bf.past.length - (e.c.bf.past.length - 255) = e.c.bf.past.length - 1 by omega]
  ·rw [if_neg hc,if_neg (by omega),List.reverse_append,List.reverse_singleton,List.singleton_append]
   show (unT (reT e.c.bf.text o) o :: pX _ (unT (reT e.c.bf.text o) o)).reverse = _
   rw [h1,List.reverse_cons]
   rfl
 have hz : (e.wc { e.c with bf:=e.c.bf.chg o,cur:=cur,anc:=anc }).R = ⟨e.win,e.w,e.h,reT e.c.bf.text o,(pX (wth e.c.bf.past o).reverse (reT e.c.bf.text o)).reverse,[],cur,anc,e.top,e.left,e.c.cop,e.cnt,e.asked⟩:=rfl
 rw [hz,hq]
 rfl
def Ec.cutN (c : Ec) (a b : Nat) : Ec:=if a < b then { c with bf:=c.bf.chg ⟨a,(c.bf.text.take b).drop a,[]⟩,cur:=a,anc:=a } else { c with cur:=a,anc:=a }
theorem uf (e : Ed) (ok : e.c.Ok) (a b : Nat) (hb : a < b→b≤e.c.bf.text.length) (h1 : a≤100000) (h2 : b≤100000) : CallP Tryz.prog 65 [rxT e.R,I64 a,I64 b] (rxT (e.wc (e.c.cutN a b)).R):=by
 have hpx:=yd e.R
 have hlen:=ok.bf.len
 have hpt:=zg1 e.R (e.c.bf.text.take a ++ e.c.bf.text.drop b) (by rw [tp];exact ok.bf.few.1)
 have hpp:=yd (e.R.put (e.c.bf.text.take a ++ e.c.bf.text.drop b))
 by_cases h : a < b
 case pos=>
  have hbl:=hb h
  have hl : ((e.c.bf.text.take b).drop a).length = b - a:=by rw [List.length_drop,List.length_take];omega
  have e1 : (e.wc (e.c.cutN a b)).R = { e.R.put (e.c.bf.text.take a ++ e.c.bf.text.drop b) with cur:=a,anc:=a }:=by
   unfold Ec.cutN
   rw [if_pos h,R_chg e ok.bf _ a a (by dsimp only;omega) (zg7 (by omega) hbl)]
   unfold reT
   dsimp only
   rw [hl,List.append_nil,show a + (b - a) = b by omega]
  rw [e1]
  refine CallP.intro2 z5 z5 ?_;refine CallT.intro zc Tryz.func65 rfl (by kernel_rfl) (Nat.le_of_ble_eq_true rfl) ?_;refine zf zc [] rfl ?_;iterate 2 refine yc rfl rfl ?_
  refine zb ?_;refine zn ?_;refine zf zc [] rfl ?_;iterate 3 refine za rfl ?_
  refine zb ?_;refine zm rfl (fun hc0=>?_) (fun hc0=>?_)
  ·(try simp only [zh] at hc0)
   refine u6 zc [] [_,_,_,_,_,_,_,_,_,_,_] rfl yj yj ?_;first | refine za rfl ?_ | refine zd rfl rfl zj ?_ | refine ze rfl rfl rfl zj ?_
   refine za rfl ?_;first | refine za rfl ?_ | refine zd rfl rfl zj ?_ | refine ze rfl rfl rfl zj ?_
   refine za rfl ?_;refine ur (r:=a) rfl rfl rfl rfl rfl (by show a≤e.c.bf.text.length;omega) ?_;refine za rfl ?_;first | refine za rfl ?_ | refine zd rfl rfl zj ?_ | refine ze rfl rfl rfl zj ?_
   refine za rfl ?_;refine vj (p:=b) rfl rfl rfl rfl rfl (by show b≤e.c.bf.text.length;omega) ?_;refine xo (a:=e.c.bf.text.take a) (b:=e.c.bf.text.drop b) rfl rfl (by rw [List.length_take,List.length_drop];omega) ?_;refine zi rfl rfl rfl (hpt) ?_;refine zb ?_;refine zk rfl rfl rfl rfl rfl yh rfl ?_;refine zb ?_;refine zf zc [] rfl ?_;iterate 3 refine za rfl ?_
   refine zk rfl rfl rfl rfl rfl yh rfl ?_;refine za rfl ?_;refine zk rfl rfl rfl rfl rfl yh rfl ?_;refine zb ?_;refine zf zc [] rfl ?_;first | refine za rfl ?_ | refine zd rfl rfl zj ?_ | refine ze rfl rfl rfl zj ?_
   refine zk rfl rfl rfl rfl rfl yh rfl ?_;refine zb ?_;refine zq ?_;exact ⟨trivial,_,rfl,Cv.eq rfl (yd _)⟩
  ·(try simp only [zh] at hc0);omega
 case neg=>
  have e1 : (e.wc (e.c.cutN a b)).R = { e.R with cur:=a,anc:=a }:=by unfold Ec.cutN;rw [if_neg h];rfl
  rw [e1]
  refine CallP.intro2 z5 z5 ?_;refine CallT.intro zc Tryz.func65 rfl (by kernel_rfl) (Nat.le_of_ble_eq_true rfl) ?_;refine zf zc [] rfl ?_;iterate 2 refine yc rfl rfl ?_
  refine zb ?_;refine zn ?_;refine zf zc [] rfl ?_;iterate 3 refine za rfl ?_
  refine zb ?_;refine zm rfl (fun hc0=>?_) (fun hc0=>?_)
  ·(try simp only [zh] at hc0);omega
  ·(try simp only [zh] at hc0)
   refine zo ?_;refine zf zc [] rfl ?_;iterate 3 refine za rfl ?_
   refine zk rfl rfl rfl rfl rfl yh rfl ?_;refine za rfl ?_;refine zk rfl rfl rfl rfl rfl yh rfl ?_;refine zb ?_;refine zf zc [] rfl ?_;first | refine za rfl ?_ | refine zd rfl rfl zj ?_ | refine ze rfl rfl rfl zj ?_
   refine zk rfl rfl rfl rfl rfl yh rfl ?_;refine zb ?_;refine zq ?_;exact ⟨trivial,_,rfl,Cv.eq rfl (yd _)⟩
theorem zes (c : Ec) (h : c.cur≠c.anc) : c.cut = c.cutN c.lo c.hi:=by
 unfold Ec.cut Ec.cutN
 rw [if_neg (by unfold Ec.lo Ec.hi;omega),if_pos (by unfold Ec.lo Ec.hi;omega)]
theorem cut_same (c : Ec) (h : c.cur = c.anc) : c.cut = c:=by unfold Ec.cut;rw [if_pos (by unfold Ec.lo Ec.hi;omega)]
def Rx.ins (x : Rx) (s : List UInt8) : Rx:=if 4096 < x.text.length + s.length then x else { x.put (x.text.take x.cur ++ s ++ x.text.drop x.cur) with cur:=x.cur + s.length,anc:=x.cur + s.length }
theorem R_ins (e : Ed) (ok : e.c.Ok) (s : List UInt8) : (e.wc (e.c.ins s)).R = e.R.ins s:=by
 have hc:=ok.cur.1
 unfold Ec.ins Rx.ins
 by_cases h : 4096 < e.c.bf.text.length + s.length
 ·rw [if_pos h,if_pos (show 4096 < e.R.text.length + s.length from h)]
 ·rw [if_neg h,if_neg (show ¬ 4096 < e.R.text.length + s.length from h),R_chg e ok.bf _ _ _ (by dsimp only [List.length_nil];omega) rfl]
  rfl
theorem ziy (l : List UInt8) : (⟨l.toArray⟩ : ByteArray).toList = l:=by
 rw [show (⟨l.toArray⟩ : ByteArray).toList = (⟨l.toArray⟩ : ByteArray).data.toList from ByteArray.toList_eq _]
theorem rv (e : Ed) (ok : e.c.Ok) (s : List UInt8) (hs : s≠[]) (hl : s.length≤100000) : CallP Tryz.prog 36 [rxT e.R,strT s] (rxT (e.wc (e.c.put s)).R):=by
 have hsE : ¬ ((⟨s.toArray⟩ : ByteArray).toList = (⟨#[]⟩ : ByteArray).toList):=by rw [ziy,show (⟨#[]⟩ : ByteArray).toList = [] from ziy []];exact hs
 have hpx:=yd e.R
 have ok2:=ok.cut.1
 have hc:=ok.cur
 have hlen:=ok.bf.len
 have hll:=w5 (e.c.cur : Int) (e.c.anc : Int)
 have hhh:=w4 (e.c.cur : Int) (e.c.anc : Int)
 rw [show min (e.c.cur : Int) (e.c.anc : Int) = ((e.c.lo : Nat) : Int) by unfold Ec.lo;omega] at hll
 rw [show max (e.c.cur : Int) (e.c.anc : Int) = ((e.c.hi : Nat) : Int) by unfold Ec.hi;omega] at hhh
 have hwo:=uf e ok e.c.lo e.c.hi (fun _=>by unfold Ec.hi;omega) (by unfold Ec.lo;omega) (by unfold Ec.hi;omega)
 have e1 : (e.wc (e.c.put s)).R = (e.wc e.c.cut).R.ins s:=R_ins (e.wc e.c.cut) ok2 s
 rw [e1]
 have hput:=fun z=>zg1 (e.wc e.c.cut).R z (by rw [tp];exact ok2.bf.few.1)
 have hlen2 : (e.wc e.c.cut).R.text.length≤4096:=ok2.bf.len
 have hcu2 : (e.wc e.c.cut).R.cur≤(e.wc e.c.cut).R.text.length:=ok2.cur.1
 have hx1 : e.c.cur≠e.c.anc→(e.wc (e.c.cutN e.c.lo e.c.hi)).R = (e.wc e.c.cut).R:=fun h=>by rw [zes _ h]
 have hx2 : e.c.cur = e.c.anc→(e.wc e.c.cut).R = e.R:=fun h=>by rw [cut_same _ h]
 have hcR : e.R.cur = e.c.cur:=rfl
 have haR : e.R.anc = e.c.anc:=rfl
 rw [← hcR,← haR] at hll hhh
 generalize (e.wc e.c.cut).R = x at *
 generalize (e.wc (e.c.cutN e.c.lo e.c.hi)).R = x1 at *
 generalize e.R = x0 at *
 have hpx2:=yd x
 by_cases h : e.c.cur = e.c.anc
 case pos=>
  obtain rfl:=hx2 h
  clear hx1 hx2 hwo hll hhh
  by_cases h4 : 4096 < x.text.length + s.length
  case pos=>
   have e2 : x.ins s = x:=by unfold Rx.ins;rw [if_pos h4]
   rw [e2]
   refine CallP.intro2 z5 z5 ?_;refine CallT.intro zc Tryz.func36 rfl (by kernel_rfl) (Nat.le_of_ble_eq_true rfl) ?_;refine zf zc [] rfl ?_;iterate 2 refine yc rfl rfl ?_
   refine zb ?_;refine zn ?_;refine zf zc [] rfl ?_;refine za rfl ?_;first | refine za rfl ?_ | refine zd rfl rfl zj ?_ | refine ze rfl rfl rfl zj ?_
   refine za rfl ?_;first | refine za rfl ?_ | refine zd rfl rfl zj ?_ | refine ze rfl rfl rfl zj ?_
   refine za rfl ?_;refine zb ?_;refine zm rfl (fun hc0=>?_) (fun hc0=>?_)
   ·(try simp only [zh] at hc0);omega
   ·(try simp only [zh] at hc0)
    refine zo ?_;refine zn ?_;refine zf zc [] rfl ?_;refine za rfl ?_;first | refine za rfl ?_ | refine zd rfl rfl zj ?_ | refine ze rfl rfl rfl zj ?_
    refine za (t:=I64 (x.text.length : Nat)) rfl ?_;refine za rfl ?_;refine za (t:=I64 (s.length : Nat)) rfl ?_;first | refine zy rfl rfl (by omega) ?_ | refine za rfl ?_
    iterate 2 refine za rfl ?_
    refine' zu (d:=33) [_,_,_] rfl ?_ rfl ?_
    rotate_left
    ·refine zt rfl rfl (fun hb3_7=>?_) (fun hb3_7=>?_)
     ·have ghb3_7:=hb3_7
      try simp only [zh,Bool.not_true,Bool.not_false] at ghb3_7
      refine za rfl ?_;refine zg rfl rfl hb3_7 ?_;refine za rfl ?_;refine zr rfl (fun _=>rfl) ?_;exact zb ⟨rfl,rfl⟩
     ·refine zl rfl rfl hb3_7 ?_;exact zr rfl (fun h=>absurd (h.symm.trans hb3_7) (by decide)) (zb ⟨rfl,rfl⟩)
    refine zb ?_;refine zm rfl (fun hc1=>?_) (fun hc1=>?_)
    ·(try simp only [zh] at hc1)
     refine zf zc [] rfl ?_;first | refine za rfl ?_ | refine zd rfl rfl zj ?_ | refine ze rfl rfl rfl zj ?_
     refine zk rfl rfl rfl rfl rfl yh rfl ?_;refine zb ?_;refine zq ?_;exact ⟨trivial,_,rfl,Cv.eq rfl (yd _)⟩
    ·(try simp only [zh] at hc1);omega
  case neg=>
   have e2 : x.ins s = { x.put (x.text.take x.cur ++ s ++ x.text.drop x.cur) with cur:=x.cur + s.length,anc:=x.cur + s.length }:=by unfold Rx.ins;rw [if_neg h4]
   have hp:=hput (x.text.take x.cur ++ s ++ x.text.drop x.cur)
   have hpp:=yd (x.put (x.text.take x.cur ++ s ++ x.text.drop x.cur))
   rw [e2]
   refine CallP.intro2 z5 z5 ?_;refine CallT.intro zc Tryz.func36 rfl (by kernel_rfl) (Nat.le_of_ble_eq_true rfl) ?_;refine zf zc [] rfl ?_;iterate 2 refine yc rfl rfl ?_
   refine zb ?_;refine zn ?_;refine zf zc [] rfl ?_;refine za rfl ?_;first | refine za rfl ?_ | refine zd rfl rfl zj ?_ | refine ze rfl rfl rfl zj ?_
   refine za rfl ?_;first | refine za rfl ?_ | refine zd rfl rfl zj ?_ | refine ze rfl rfl rfl zj ?_
   refine za rfl ?_;refine zb ?_;refine zm rfl (fun hc0=>?_) (fun hc0=>?_)
   ·(try simp only [zh] at hc0);omega
   ·(try simp only [zh] at hc0)
    refine zo ?_;refine zn ?_;refine zf zc [] rfl ?_;refine za rfl ?_;first | refine za rfl ?_ | refine zd rfl rfl zj ?_ | refine ze rfl rfl rfl zj ?_
    refine za (t:=I64 (x.text.length : Nat)) rfl ?_;refine za rfl ?_;refine za (t:=I64 (s.length : Nat)) rfl ?_;first | refine zy rfl rfl (by omega) ?_ | refine za rfl ?_
    iterate 2 refine za rfl ?_
    refine' zu (d:=33) [_,_,_] rfl ?_ rfl ?_
    rotate_left
    ·refine zt rfl rfl (fun hb3_7=>?_) (fun hb3_7=>?_)
     ·have ghb3_7:=hb3_7
      try simp only [zh,Bool.not_true,Bool.not_false] at ghb3_7
      refine za rfl ?_;refine zg rfl rfl hb3_7 ?_;refine za rfl ?_;refine zr rfl (fun _=>rfl) ?_;exact zb ⟨rfl,rfl⟩
     ·refine zl rfl rfl hb3_7 ?_;exact zr rfl (fun h=>absurd (h.symm.trans hb3_7) (by decide)) (zb ⟨rfl,rfl⟩)
    refine zb ?_;refine zm rfl (fun hc1=>?_) (fun hc1=>?_)
    ·(try simp only [zh] at hc1);rcases hc1 with h9 | h9;(omega);(exact absurd h9 hsE)
    ·(try simp only [zh] at hc1)
     refine zo ?_;refine zf zc [] rfl ?_;refine za rfl ?_;first | refine za rfl ?_ | refine zd rfl rfl zj ?_ | refine ze rfl rfl rfl zj ?_
     refine za rfl ?_;refine zb ?_;refine yv zc [] [_,_,_,_,_,_,_,_,_,_,_,_,_] rfl yj yj ?_;first | refine za rfl ?_ | refine zd rfl rfl zj ?_ | refine ze rfl rfl rfl zj ?_
     refine za rfl ?_;first | refine za rfl ?_ | refine zd rfl rfl zj ?_ | refine ze rfl rfl rfl zj ?_
     refine za rfl ?_;refine ur (r:=x.cur) rfl rfl rfl rfl rfl hcu2 ?_;refine za rfl ?_;refine xo (a:=x.text.take x.cur) (b:=s) rfl rfl (by rw [List.length_take];omega) ?_;refine za rfl ?_;first | refine za rfl ?_ | refine zd rfl rfl zj ?_ | refine ze rfl rfl rfl zj ?_
     refine za rfl ?_;refine vj (p:=x.cur) rfl rfl rfl rfl rfl hcu2 ?_;refine xo (a:=x.text.take x.cur ++ s) (b:=x.text.drop x.cur) rfl rfl (by rw [List.length_append,List.length_take,List.length_drop];omega) ?_;refine zi rfl rfl rfl (hp) ?_;refine zb ?_;refine zk rfl rfl rfl rfl rfl yh rfl ?_;refine zb ?_;refine zf zc [] rfl ?_;iterate 2 refine za rfl ?_
     refine za (t:=I64 (s.length : Nat)) rfl ?_;refine zy (a:=(x.cur : Int)) (b:=(s.length : Nat)) rfl rfl z8 ?_;iterate 2 refine za rfl ?_
     refine za (t:=I64 (s.length : Nat)) rfl ?_;refine zy (a:=(x.cur : Int)) (b:=(s.length : Nat)) rfl rfl z8 ?_;refine za rfl ?_;refine zk rfl rfl rfl rfl rfl yh rfl ?_;refine za rfl ?_;refine zk rfl rfl rfl rfl rfl yh rfl ?_;refine zb ?_;refine zf zc [] rfl ?_;first | refine za rfl ?_ | refine zd rfl rfl zj ?_ | refine ze rfl rfl rfl zj ?_
     refine zk rfl rfl rfl rfl rfl yh rfl ?_;refine zb ?_;refine zq ?_;exact ⟨trivial,_,rfl,Cv.eq rfl (yd _)⟩
 case neg=>
  obtain rfl:=hx1 h
  clear hx1 hx2
  by_cases h4 : 4096 < x1.text.length + s.length
  case pos=>
   have e2 : x1.ins s = x1:=by unfold Rx.ins;rw [if_pos h4]
   rw [e2]
   refine CallP.intro2 z5 z5 ?_;refine CallT.intro zc Tryz.func36 rfl (by kernel_rfl) (Nat.le_of_ble_eq_true rfl) ?_;refine zf zc [] rfl ?_;iterate 2 refine yc rfl rfl ?_
   refine zb ?_;refine zn ?_;refine zf zc [] rfl ?_;refine za rfl ?_;first | refine za rfl ?_ | refine zd rfl rfl zj ?_ | refine ze rfl rfl rfl zj ?_
   refine za rfl ?_;first | refine za rfl ?_ | refine zd rfl rfl zj ?_ | refine ze rfl rfl rfl zj ?_
   refine za rfl ?_;refine zb ?_;refine zm rfl (fun hc0=>?_) (fun hc0=>?_)
   ·(try simp only [zh] at hc0)
    refine u6 zc [] [_,_,_,_,_,_,_,_,_,_,_,_] rfl yj yj ?_;first | refine za rfl ?_ | refine zd rfl rfl zj ?_ | refine ze rfl rfl rfl zj ?_
    refine za rfl ?_;first | refine za rfl ?_ | refine zd rfl rfl zj ?_ | refine ze rfl rfl rfl zj ?_
    refine za rfl ?_;first | refine za rfl ?_ | refine zd rfl rfl zj ?_ | refine ze rfl rfl rfl zj ?_
    refine zi rfl rfl rfl (hll) ?_;refine za rfl ?_;first | refine za rfl ?_ | refine zd rfl rfl zj ?_ | refine ze rfl rfl rfl zj ?_
    refine za rfl ?_;first | refine za rfl ?_ | refine zd rfl rfl zj ?_ | refine ze rfl rfl rfl zj ?_
    refine zi rfl rfl rfl (hhh) ?_;refine zi rfl rfl rfl (hwo) ?_;refine zb ?_;refine zk rfl rfl rfl rfl rfl yh rfl ?_;refine zb ?_;refine zn ?_;refine zf zc [] rfl ?_;refine za rfl ?_;first | refine za rfl ?_ | refine zd rfl rfl zj ?_ | refine ze rfl rfl rfl zj ?_
    refine za (t:=I64 (x1.text.length : Nat)) rfl ?_;refine za rfl ?_;refine za (t:=I64 (s.length : Nat)) rfl ?_;first | refine zy rfl rfl (by omega) ?_ | refine za rfl ?_
    iterate 2 refine za rfl ?_
    refine' zu (d:=33) [_,_,_] rfl ?_ rfl ?_
    rotate_left
    ·refine zt rfl rfl (fun hb3_7=>?_) (fun hb3_7=>?_)
     ·have ghb3_7:=hb3_7
      try simp only [zh,Bool.not_true,Bool.not_false] at ghb3_7
      refine za rfl ?_;refine zg rfl rfl hb3_7 ?_;refine za rfl ?_;refine zr rfl (fun _=>rfl) ?_;exact zb ⟨rfl,rfl⟩
     ·refine zl rfl rfl hb3_7 ?_;exact zr rfl (fun h=>absurd (h.symm.trans hb3_7) (by decide)) (zb ⟨rfl,rfl⟩)
    refine zb ?_;refine zm rfl (fun hc1=>?_) (fun hc1=>?_)
    ·(try simp only [zh] at hc1)
     refine zf zc [] rfl ?_;first | refine za rfl ?_ | refine zd rfl rfl zj ?_ | refine ze rfl rfl rfl zj ?_
     refine zk rfl rfl rfl rfl rfl yh rfl ?_;refine zb ?_;refine zq ?_;exact ⟨trivial,_,rfl,Cv.eq rfl (yd _)⟩
    ·(try simp only [zh] at hc1);omega
   ·(try simp only [zh] at hc0);omega
  case neg=>
   have e2 : x1.ins s = { x1.put (x1.text.take x1.cur ++ s ++ x1.text.drop x1.cur) with cur:=x1.cur + s.length,anc:=x1.cur + s.length }:=by unfold Rx.ins;rw [if_neg h4]
   have hp:=hput (x1.text.take x1.cur ++ s ++ x1.text.drop x1.cur)
   have hpp:=yd (x1.put (x1.text.take x1.cur ++ s ++ x1.text.drop x1.cur))
   rw [e2]
   refine CallP.intro2 z5 z5 ?_;refine CallT.intro zc Tryz.func36 rfl (by kernel_rfl) (Nat.le_of_ble_eq_true rfl) ?_;refine zf zc [] rfl ?_;iterate 2 refine yc rfl rfl ?_
   refine zb ?_;refine zn ?_;refine zf zc [] rfl ?_;refine za rfl ?_;first | refine za rfl ?_ | refine zd rfl rfl zj ?_ | refine ze rfl rfl rfl zj ?_
   refine za rfl ?_;first | refine za rfl ?_ | refine zd rfl rfl zj ?_ | refine ze rfl rfl rfl zj ?_
   refine za rfl ?_;refine zb ?_;refine zm rfl (fun hc0=>?_) (fun hc0=>?_)
   ·(try simp only [zh] at hc0)
    refine u6 zc [] [_,_,_,_,_,_,_,_,_,_,_,_] rfl yj yj ?_;first | refine za rfl ?_ | refine zd rfl rfl zj ?_ | refine ze rfl rfl rfl zj ?_
    refine za rfl ?_;first | refine za rfl ?_ | refine zd rfl rfl zj ?_ | refine ze rfl rfl rfl zj ?_
    refine za rfl ?_;first | refine za rfl ?_ | refine zd rfl rfl zj ?_ | refine ze rfl rfl rfl zj ?_
    refine zi rfl rfl rfl (hll) ?_;refine za rfl ?_;first | refine za rfl ?_ | refine zd rfl rfl zj ?_ | refine ze rfl rfl rfl zj ?_
    refine za rfl ?_;first | refine za rfl ?_ | refine zd rfl rfl zj ?_ | refine ze rfl rfl rfl zj ?_
    refine zi rfl rfl rfl (hhh) ?_;refine zi rfl rfl rfl (hwo) ?_;refine zb ?_;refine zk rfl rfl rfl rfl rfl yh rfl ?_;refine zb ?_;refine zn ?_;refine zf zc [] rfl ?_;refine za rfl ?_;first | refine za rfl ?_ | refine zd rfl rfl zj ?_ | refine ze rfl rfl rfl zj ?_
    refine za (t:=I64 (x1.text.length : Nat)) rfl ?_;refine za rfl ?_;refine za (t:=I64 (s.length : Nat)) rfl ?_;first | refine zy rfl rfl (by omega) ?_ | refine za rfl ?_
    iterate 2 refine za rfl ?_
    refine' zu (d:=33) [_,_,_] rfl ?_ rfl ?_
    rotate_left
    ·refine zt rfl rfl (fun hb3_7=>?_) (fun hb3_7=>?_)
     ·have ghb3_7:=hb3_7
      try simp only [zh,Bool.not_true,Bool.not_false] at ghb3_7
      refine za rfl ?_;refine zg rfl rfl hb3_7 ?_;refine za rfl ?_;refine zr rfl (fun _=>rfl) ?_;exact zb ⟨rfl,rfl⟩
     ·refine zl rfl rfl hb3_7 ?_;exact zr rfl (fun h=>absurd (h.symm.trans hb3_7) (by decide)) (zb ⟨rfl,rfl⟩)
    refine zb ?_;refine zm rfl (fun hc1=>?_) (fun hc1=>?_)
    ·(try simp only [zh] at hc1);rcases hc1 with h9 | h9;(omega);(exact absurd h9 hsE)
    ·(try simp only [zh] at hc1)
     refine zo ?_;refine zf zc [] rfl ?_;refine za rfl ?_;first | refine za rfl ?_ | refine zd rfl rfl zj ?_ | refine ze rfl rfl rfl zj ?_
     refine za rfl ?_;refine zb ?_;refine yv zc [] [_,_,_,_,_,_,_,_,_,_,_,_,_] rfl yj yj ?_;first | refine za rfl ?_ | refine zd rfl rfl zj ?_ | refine ze rfl rfl rfl zj ?_
     refine za rfl ?_;first | refine za rfl ?_ | refine zd rfl rfl zj ?_ | refine ze rfl rfl rfl zj ?_
     refine za rfl ?_;refine ur (r:=x1.cur) rfl rfl rfl rfl rfl hcu2 ?_;refine za rfl ?_;refine xo (a:=x1.text.take x1.cur) (b:=s) rfl rfl (by rw [List.length_take];omega) ?_;refine za rfl ?_;first | refine za rfl ?_ | refine zd rfl rfl zj ?_ | refine ze rfl rfl rfl zj ?_
     refine za rfl ?_;refine vj (p:=x1.cur) rfl rfl rfl rfl rfl hcu2 ?_;refine xo (a:=x1.text.take x1.cur ++ s) (b:=x1.text.drop x1.cur) rfl rfl (by rw [List.length_append,List.length_take,List.length_drop];omega) ?_;refine zi rfl rfl rfl (hp) ?_;refine zb ?_;refine zk rfl rfl rfl rfl rfl yh rfl ?_;refine zb ?_;refine zf zc [] rfl ?_;iterate 2 refine za rfl ?_
     refine za (t:=I64 (s.length : Nat)) rfl ?_;refine zy (a:=(x1.cur : Int)) (b:=(s.length : Nat)) rfl rfl z8 ?_;iterate 2 refine za rfl ?_
     refine za (t:=I64 (s.length : Nat)) rfl ?_;refine zy (a:=(x1.cur : Int)) (b:=(s.length : Nat)) rfl rfl z8 ?_;refine za rfl ?_;refine zk rfl rfl rfl rfl rfl yh rfl ?_;refine za rfl ?_;refine zk rfl rfl rfl rfl rfl yh rfl ?_;refine zb ?_;refine zf zc [] rfl ?_;first | refine za rfl ?_ | refine zd rfl rfl zj ?_ | refine ze rfl rfl rfl zj ?_
     refine zk rfl rfl rfl rfl rfl yh rfl ?_;refine zb ?_;refine zq ?_;exact ⟨trivial,_,rfl,Cv.eq rfl (yd _)⟩
   ·(try simp only [zh] at hc0);omega
end

section
open Go.RowKit
set_option maxRecDepth 100000
set_option maxHeartbeats 1000000
def letJ (code mods : Int) : Int:=if code < 32∨126 < code∨1 < mods then -1 else if mods = 1∧97≤code∧code≤122 then code - 32 else code
theorem ub (code mods : Int) : CallP Tryz.prog 95 [I64 code,I64 mods] (I64 (letJ code mods)):=by
 unfold letJ
 refine CallP.intro2 z5 z5 ?_;refine CallT.intro zc Tryz.func95 rfl (by kernel_rfl) (Nat.le_of_ble_eq_true rfl) ?_;refine zf zc [] rfl ?_;refine za rfl ?_;refine zb ?_;refine zn ?_;refine zf zc [] rfl ?_;iterate 3 refine za rfl ?_
 refine' zu (d:=10) [_,_,_] rfl ?_ rfl ?_
 rotate_left
 ·refine zt rfl rfl (fun hb1_2=>?_) (fun hb1_2=>?_)
  ·have ghb1_2:=hb1_2
   try simp only [zh,Bool.not_true,Bool.not_false] at ghb1_2
   refine za rfl ?_;refine zg rfl rfl hb1_2 ?_;refine za rfl ?_;refine zr rfl (fun _=>rfl) ?_;exact zb ⟨rfl,rfl⟩
  ·refine zl rfl rfl hb1_2 ?_;exact zr rfl (fun h=>absurd (h.symm.trans hb1_2) (by decide)) (zb ⟨rfl,rfl⟩)
 refine za rfl ?_;refine' zu (d:=14) [_,_,_] rfl ?_ rfl ?_
 rotate_left
 ·refine zt rfl rfl (fun hb1_6=>?_) (fun hb1_6=>?_)
  ·have ghb1_6:=hb1_6
   try simp only [zh,Bool.not_true,Bool.not_false] at ghb1_6
   refine za rfl ?_;refine zg rfl rfl hb1_6 ?_;refine za rfl ?_;refine zr rfl (fun _=>rfl) ?_;exact zb ⟨rfl,rfl⟩
  ·refine zl rfl rfl hb1_6 ?_;exact zr rfl (fun h=>absurd (h.symm.trans hb1_6) (by decide)) (zb ⟨rfl,rfl⟩)
 refine zb ?_;refine zm rfl (fun hc0=>?_) (fun hc0=>?_)
 ·(try simp only [zh] at hc0);rw [if_pos (by omega)]
  refine zf zc [] rfl ?_;refine za rfl ?_;refine zb ?_;refine zq ?_;exact ⟨trivial,_,rfl,Cv.eq rfl rfl⟩
 ·(try simp only [zh] at hc0);rw [if_neg (by omega)]
  refine zo ?_;refine zn ?_;refine zf zc [] rfl ?_;iterate 3 refine za rfl ?_
  refine' zu (d:=20) [_,_,_] rfl ?_ rfl ?_
  rotate_left
  ·refine zt rfl rfl (fun hb3_2=>?_) (fun hb3_2=>?_)
   ·have ghb3_2:=hb3_2
    try simp only [zh,Bool.not_true,Bool.not_false] at ghb3_2
    refine za rfl ?_;refine zg rfl rfl hb3_2 ?_;refine za rfl ?_;refine z3 rfl (fun _=>rfl) ?_;exact zb ⟨rfl,rfl⟩
   ·refine zl rfl rfl hb3_2 ?_;exact z3 rfl (fun h=>absurd (h.symm.trans hb3_2) (by decide)) (zb ⟨rfl,rfl⟩)
  refine za rfl ?_;refine' zu (d:=24) [_,_,_] rfl ?_ rfl ?_
  rotate_left
  ·refine zt rfl rfl (fun hb3_6=>?_) (fun hb3_6=>?_)
   ·have ghb3_6:=hb3_6
    try simp only [zh,Bool.not_true,Bool.not_false] at ghb3_6
    refine za rfl ?_;refine zg rfl rfl hb3_6 ?_;refine za rfl ?_;refine z3 rfl (fun _=>rfl) ?_;exact zb ⟨rfl,rfl⟩
   ·refine zl rfl rfl hb3_6 ?_;exact z3 rfl (fun h=>absurd (h.symm.trans hb3_6) (by decide)) (zb ⟨rfl,rfl⟩)
  refine zb ?_;refine zm rfl (fun hc1=>?_) (fun hc1=>?_)
  ·(try simp only [zh] at hc1);rw [if_pos (by omega)]
   refine zf zc [] rfl ?_;refine za rfl ?_;first | refine yu rfl rfl (by omega) ?_ | refine za rfl ?_
   refine za rfl ?_;refine zb ?_;refine zq ?_;exact ⟨trivial,_,rfl,Cv.eq rfl rfl⟩
  ·(try simp only [zh] at hc1);rw [if_neg (by omega)]
   refine zo ?_;refine zf zc [] rfl ?_;iterate 2 refine za rfl ?_
   refine zb ?_;refine zq ?_;exact ⟨trivial,_,rfl,Cv.eq rfl rfl⟩
def movI (c : Ec) (code : Int) : Int:=match c.goes code with | some k=>(k : Int) | none=>-1
theorem mov_all (c : Ec) (ok : c.Ok) : movI c 130 = max ((c.cur : Int) - 1) 0∧movI c 131 = min ((c.cur : Int) + 1) (c.bf.text.length : Nat)∧movI c 132 = (begN c.bf.text c.cur : Nat)∧movI c 133 = (endN c.bf.text c.cur : Nat)∧
  movI c 134 = (placeN c.bf.text (((c.bf.text.take c.cur).count 10 : Nat) - 1 : Int) ((c.cur : Int) - (begN c.bf.text c.cur : Nat)) : Nat)∧movI c 135 = (placeN c.bf.text (((c.bf.text.take c.cur).count 10 : Nat) + 1 : Int) ((c.cur : Int) - (begN c.bf.text c.cur : Nat)) : Nat):=by
 have hcu:=ok.cur.1
 have hfb:=zbg c.bf.text c.cur hcu
 have hcol:=zbn c.bf.text hcu
 have hbl:=r7 c.bf.text c.cur
 have hcc : (c.bf.text.take c.cur).count 10≤c.bf.text.count 10:=(List.take_sublist _ _).count_le _
 have hc2 : ((spotN c.bf.text c.cur).2 : Int) = (c.cur : Int) - (begN c.bf.text c.cur : Nat):=by omega
 have hp1 : (spotN c.bf.text c.cur).1 = (c.bf.text.take c.cur).count 10:=rfl
 have hlo:=uk c.bf.text ((c.bf.text.take c.cur).count 10)
 refine ⟨?_,?_,?_,?_,?_,?_⟩
 ·show ((c.cur - 1 : Nat) : Int) = _;omega
 ·show ((min (c.cur + 1) c.bf.text.length : Nat) : Int) = _;omega
 ·show ((placeN c.bf.text (spotN c.bf.text c.cur).1 0 : Nat) : Int) = _
  rw [hp1,zb6 _ hcc,hfb]
 ·show ((placeN c.bf.text (spotN c.bf.text c.cur).1 (lineN c.bf.text (spotN c.bf.text c.cur).1).length : Nat) : Int) = _
  rw [hp1,za9 _ hcc]
  have h1 : clampN (((c.bf.text.take c.cur).count 10 : Nat) : Int) (lnN c.bf.text - 1) = (c.bf.text.take c.cur).count 10:=by unfold clampN lnN;omega
  have h2 : clampN ((((c.bf.text.take (lnTo c.bf.text ((c.bf.text.take c.cur).count 10))).drop (lnFrom c.bf.text ((c.bf.text.take c.cur).count 10))).length : Nat) : Int) (lnTo c.bf.text ((c.bf.text.take c.cur).count 10) - lnFrom c.bf.text ((c.bf.text.take c.cur).count 10)) = lnTo c.bf.text ((c.bf.text.take c.cur).count 10) - lnFrom c.bf.text ((c.bf.text.take c.cur).count 10):=by
   unfold clampN;rw [List.length_drop,List.length_take];omega
  unfold placeN
  rw [h1,h2,← end_from c.bf.text hcu,← hfb,← zei]
  omega
 ·show ((placeN c.bf.text (((spotN c.bf.text c.cur).1 : Int) - 1) (spotN c.bf.text c.cur).2 : Nat) : Int) = _
  rw [hp1,hc2]
 ·show ((placeN c.bf.text (((spotN c.bf.text c.cur).1 : Int) + 1) (spotN c.bf.text c.cur).2 : Nat) : Int) = _
  rw [hp1,hc2]
theorem mov_no (c : Ec) (code : Int) (h : ¬ code = 130) (h1 : ¬ code = 131) (h2 : ¬ code = 132) (h3 : ¬ code = 133) (h4 : ¬ code = 134) (h5 : ¬ code = 135) : movI c code = -1:=by
 unfold movI Ec.goes
 dsimp only
 rw [if_neg h,if_neg h1,if_neg h2,if_neg h3,if_neg h4,if_neg h5]
theorem sw (e : Ed) (ok : e.c.Ok) (code : Int) : CallP Tryz.prog 96 [rxT e.R,I64 code] (I64 (movI e.c code)):=by
 have hpx:=yd e.R
 have hlen:=ok.bf.len
 have hcu:=ok.cur.1
 have hbe:=zdt e.c.bf.text e.c.cur hcu (by omega)
 have hen:=zh8 e.c.bf.text e.c.cur hcu (by omega)
 have hli:=zba e.c.bf.text e.c.cur hcu (by omega)
 have hbl:=r7 e.c.bf.text e.c.cur
 have hcl:=List.count_le_length (a:=(10 : UInt8)) (l:=e.c.bf.text.take e.c.cur)
 rw [List.length_take] at hcl
 have hm:=w4 ((e.c.cur : Int) - 1) 0
 have hl:=w5 ((e.c.cur : Int) + 1) (e.c.bf.text.length : Nat)
 have hs1:=zax e.c.bf.text (((e.c.bf.text.take e.c.cur).count 10 : Nat) - 1 : Int) ((e.c.cur : Int) - (begN e.c.bf.text e.c.cur : Nat)) hlen (by omega) (by omega)
 have hs2:=zax e.c.bf.text (((e.c.bf.text.take e.c.cur).count 10 : Nat) + 1 : Int) ((e.c.cur : Int) - (begN e.c.bf.text e.c.cur : Nat)) hlen (by omega) (by omega)
 obtain ⟨e0,e1,e2,e3,e4,e5⟩:=mov_all e.c ok
 have eN:=mov_no e.c code
 refine CallP.intro2 z5 z5 ?_;refine CallT.intro zc Tryz.func96 rfl (by kernel_rfl) (Nat.le_of_ble_eq_true rfl) ?_;refine zf zc [2] rfl ?_;refine ya rfl rfl ?_;refine za rfl ?_;refine zb ?_;refine zf zc [] rfl ?_;refine za rfl ?_;first | refine za rfl ?_ | refine zd rfl rfl zj ?_ | refine ze rfl rfl rfl zj ?_
 refine za rfl ?_;first | refine za rfl ?_ | refine zd rfl rfl zj ?_ | refine ze rfl rfl rfl zj ?_
 refine zi rfl rfl rfl (hbe) ?_;refine za rfl ?_;refine zb ?_;refine zn ?_;refine zf zc [] rfl ?_;refine za rfl ?_;refine zb ?_;refine yf ?_;refine zf zc [] rfl ?_;iterate 2 refine za rfl ?_
 refine zb ?_;refine zm rfl (fun hc0=>?_) (fun hc0=>?_)
 ·(try simp only [zh] at hc0);subst hc0;rw [e0]
  refine zf zc [] rfl ?_;refine za rfl ?_;first | refine za rfl ?_ | refine zd rfl rfl zj ?_ | refine ze rfl rfl rfl zj ?_
  refine yu (a:=(e.c.cur : Int)) (b:=1) rfl rfl z8 ?_;refine zi rfl rfl rfl (hm) ?_;refine za rfl ?_;refine zb ?_;refine zq ?_;exact ⟨trivial,_,rfl,Cv.eq rfl rfl⟩
 ·(try simp only [zh] at hc0)
  refine zf zc [] rfl ?_;iterate 2 refine za rfl ?_
  refine zb ?_;refine zm rfl (fun hc1=>?_) (fun hc1=>?_)
  ·(try simp only [zh] at hc1);subst hc1;rw [e1]
   refine zf zc [] rfl ?_;refine za rfl ?_;first | refine za rfl ?_ | refine zd rfl rfl zj ?_ | refine ze rfl rfl rfl zj ?_
   refine zy (a:=(e.c.cur : Int)) (b:=1) rfl rfl z8 ?_;refine za rfl ?_;first | refine za rfl ?_ | refine zd rfl rfl zj ?_ | refine ze rfl rfl rfl zj ?_
   refine za (t:=I64 (e.c.bf.text.length : Nat)) rfl ?_;refine zi rfl rfl rfl (hl) ?_;refine za rfl ?_;refine zb ?_;refine zq ?_;exact ⟨trivial,_,rfl,Cv.eq rfl rfl⟩
  ·(try simp only [zh] at hc1)
   refine zf zc [] rfl ?_;iterate 2 refine za rfl ?_
   refine zb ?_;refine zm rfl (fun hc2=>?_) (fun hc2=>?_)
   ·(try simp only [zh] at hc2);subst hc2;rw [e2]
    refine zf zc [] rfl ?_;iterate 2 refine za rfl ?_
    refine zb ?_;refine zq ?_;exact ⟨trivial,_,rfl,Cv.eq rfl rfl⟩
   ·(try simp only [zh] at hc2)
    refine zf zc [] rfl ?_;iterate 2 refine za rfl ?_
    refine zb ?_;refine zm rfl (fun hc3=>?_) (fun hc3=>?_)
    ·(try simp only [zh] at hc3);subst hc3;rw [e3]
     refine zf zc [] rfl ?_;refine za rfl ?_;first | refine za rfl ?_ | refine zd rfl rfl zj ?_ | refine ze rfl rfl rfl zj ?_
     refine za rfl ?_;first | refine za rfl ?_ | refine zd rfl rfl zj ?_ | refine ze rfl rfl rfl zj ?_
     refine zi rfl rfl rfl (hen) ?_;refine za rfl ?_;refine zb ?_;refine zq ?_;exact ⟨trivial,_,rfl,Cv.eq rfl rfl⟩
    ·(try simp only [zh] at hc3)
     refine zf zc [] rfl ?_;iterate 2 refine za rfl ?_
     refine zb ?_;refine zm rfl (fun hc4=>?_) (fun hc4=>?_)
     ·(try simp only [zh] at hc4);subst hc4;rw [e4]
      refine yv zc [] [_,_,_,_,_,_,_,_,_,_,_,_,_,_] rfl yj yj ?_;refine za rfl ?_;first | refine za rfl ?_ | refine zd rfl rfl zj ?_ | refine ze rfl rfl rfl zj ?_
      refine za rfl ?_;first | refine za rfl ?_ | refine zd rfl rfl zj ?_ | refine ze rfl rfl rfl zj ?_
      refine za rfl ?_;first | refine za rfl ?_ | refine zd rfl rfl zj ?_ | refine ze rfl rfl rfl zj ?_
      refine zi rfl rfl rfl (hli) ?_;first | refine yu rfl rfl (by omega) ?_ | refine za rfl ?_
      refine za rfl ?_;first | refine za rfl ?_ | refine zd rfl rfl zj ?_ | refine ze rfl rfl rfl zj ?_
      refine za rfl ?_;refine yu (a:=(e.c.cur : Int)) (b:=((begN e.c.bf.text e.c.cur : Nat) : Int)) rfl rfl z8 ?_;refine zi rfl rfl rfl (hs1) ?_;refine za rfl ?_;iterate 2 refine zb ?_
      refine zq ?_;exact ⟨trivial,_,rfl,Cv.eq rfl rfl⟩
     ·(try simp only [zh] at hc4)
      refine zf zc [] rfl ?_;iterate 2 refine za rfl ?_
      refine zb ?_;refine zm rfl (fun hc5=>?_) (fun hc5=>?_)
      ·(try simp only [zh] at hc5);subst hc5;rw [e5]
       refine yv zc [] [_,_,_,_,_,_,_,_,_,_,_,_,_,_] rfl yj yj ?_;refine za rfl ?_;first | refine za rfl ?_ | refine zd rfl rfl zj ?_ | refine ze rfl rfl rfl zj ?_
       refine za rfl ?_;first | refine za rfl ?_ | refine zd rfl rfl zj ?_ | refine ze rfl rfl rfl zj ?_
       refine za rfl ?_;first | refine za rfl ?_ | refine zd rfl rfl zj ?_ | refine ze rfl rfl rfl zj ?_
       refine zi rfl rfl rfl (hli) ?_;first | refine zy rfl rfl (by omega) ?_ | refine za rfl ?_
       refine za rfl ?_;first | refine za rfl ?_ | refine zd rfl rfl zj ?_ | refine ze rfl rfl rfl zj ?_
       refine za rfl ?_;refine yu (a:=(e.c.cur : Int)) (b:=((begN e.c.bf.text e.c.cur : Nat) : Int)) rfl rfl z8 ?_;refine zi rfl rfl rfl (hs2) ?_;refine za rfl ?_;iterate 2 refine zb ?_
       refine zq ?_;exact ⟨trivial,_,rfl,Cv.eq rfl rfl⟩
      ·(try simp only [zh] at hc5);rw [eN hc0 hc1 hc2 hc3 hc4 hc5]
       refine zo ?_;refine zf zc [] rfl ?_;refine za rfl ?_;refine zb ?_;refine zq ?_;exact ⟨trivial,_,rfl,Cv.eq rfl rfl⟩
abbrev rxSs (x : Rx) (t l : Int) : List T:=[I64 x.win,I64 x.w,I64 x.h,strT x.text,txsT x.past,txsT x.again,I64 x.cur,I64 x.anc,I64 t,I64 l,strT x.cop,I64 x.cnt,I64 x.asked]
theorem xt {x : Rx} {t t' l l' : Int} (h1 : t = t') (h2 : l = l') : T.agg (rxSs x t l) = rxT { x with top:=t',left:=l' }:=by subst h1 h2;rfl
theorem qb (e : Ed) (hw : e.W) : CallP Tryz.prog 37 [rxT e.R] (rxT e.seen.R):=by
 have hpx:=yd e.R
 have hlen:=hw.len
 have hcu:=hw.o.cur.1
 have hs:=hw.s
 have h3:=hw.t
 have hR:=hw.rows
 have hbe:=zdt e.c.bf.text e.c.cur hcu (by omega)
 have hli:=zba e.c.bf.text e.c.cur hcu (by omega)
 have hcol:=zbn e.c.bf.text hcu
 have hbl:=r7 e.c.bf.text e.c.cur
 have hcl:=List.count_le_length (a:=(10 : UInt8)) (l:=e.c.bf.text.take e.c.cur)
 rw [List.length_take] at hcl
 have er : e.h / 6 = ((e.rows : Nat) : Int):=by unfold Ed.rows;omega
 have ec : e.w / 4 = ((e.cols : Nat) : Int):=by unfold Ed.cols;omega
 have hz : e.seen.R = { e.R with top:=sightN e.top (((e.c.bf.text.take e.c.cur).count 10 : Nat) : Int) e.rows,left:=sightN e.left (((spotN e.c.bf.text e.c.cur).2 : Nat) : Int) e.cols }:=rfl
 rw [hz,← hcol,Int.natCast_sub hbl]
 generalize (e.c.bf.text.take e.c.cur).count 10 = n at *
 generalize begN e.c.bf.text e.c.cur = b at *
 have t1 : e.R.top = e.top:=rfl
 have t2 : e.R.left = e.left:=rfl
 refine CallP.intro2 z5 z5 ?_;refine CallT.intro zc Tryz.func37 rfl (by kernel_rfl) (Nat.le_of_ble_eq_true rfl) ?_;refine zf zc [] rfl ?_;iterate 2 refine yc rfl rfl ?_
 refine zb ?_;refine yv zc [] [_,_,_,_,_,_,_,_,_,_,_,_,_,_,_] rfl yj yj ?_;refine za rfl ?_;first | refine za rfl ?_ | refine zd rfl rfl zj ?_ | refine ze rfl rfl rfl zj ?_
 refine za rfl ?_;first | refine za rfl ?_ | refine zd rfl rfl zj ?_ | refine ze rfl rfl rfl zj ?_
 refine zi rfl rfl rfl (hli) ?_;refine za rfl ?_;first | refine za rfl ?_ | refine zd rfl rfl zj ?_ | refine ze rfl rfl rfl zj ?_
 refine za rfl ?_;first | refine za rfl ?_ | refine zd rfl rfl zj ?_ | refine ze rfl rfl rfl zj ?_
 refine za rfl ?_;first | refine za rfl ?_ | refine zd rfl rfl zj ?_ | refine ze rfl rfl rfl zj ?_
 refine zi rfl rfl rfl (hbe) ?_;refine yu (a:=(e.c.cur : Int)) (b:=(b : Int)) rfl rfl z8 ?_;iterate 2 refine za rfl ?_
 iterate 2 refine zb ?_
 refine zn ?_;refine zf zc [] rfl ?_;iterate 2 refine za rfl ?_
 first | refine za rfl ?_ | refine zd rfl rfl zj ?_ | refine ze rfl rfl rfl zj ?_
 refine za rfl ?_;refine zb ?_;refine zm rfl (fun hc0=>?_) (fun hc0=>?_)
 ·(try simp only [zh] at hc0)
  refine zw zc [] rfl ?_;iterate 2 refine za rfl ?_
  refine zk rfl rfl rfl rfl rfl yh rfl ?_;refine zb ?_;refine zn ?_;refine zf zc [] rfl ?_;iterate 2 refine za rfl ?_
  first | refine za rfl ?_ | refine zd rfl rfl zj ?_ | refine ze rfl rfl rfl zj ?_
  refine za rfl ?_;first | refine za rfl ?_ | refine zd rfl rfl zj ?_ | refine ze rfl rfl rfl zj ?_
  refine yi rfl rfl (by show 0≤e.h;omega) (by show e.h≤_;omega) z8 ?_;rw [show e.R.h / 6 = e.h / 6 from rfl,er]
  refine zy rfl rfl z8 ?_;refine za rfl ?_;refine zb ?_;refine zm rfl (fun hc1=>?_) (fun hc1=>?_)
  ·(try simp only [zh] at hc1)
   refine zw zc [] rfl ?_;iterate 2 refine za rfl ?_
   first | refine za rfl ?_ | refine zd rfl rfl zj ?_ | refine ze rfl rfl rfl zj ?_
   refine yi rfl rfl (by show 0≤e.h;omega) (by show e.h≤_;omega) z8 ?_;rw [show e.R.h / 6 = e.h / 6 from rfl,er]
   refine yu rfl rfl z8 ?_;refine zy rfl rfl z8 ?_;refine za rfl ?_;refine zk rfl rfl rfl rfl rfl yh rfl ?_;refine zb ?_;refine zn ?_;refine zf zc [] rfl ?_;iterate 2 refine za rfl ?_
   first | refine za rfl ?_ | refine zd rfl rfl zj ?_ | refine ze rfl rfl rfl zj ?_
   refine za rfl ?_;refine zb ?_;refine zm rfl (fun hc2=>?_) (fun hc2=>?_)
   ·(try simp only [zh] at hc2)
    refine zw zc [] rfl ?_;iterate 2 refine za rfl ?_
    refine zk rfl rfl rfl rfl rfl yh rfl ?_;refine zb ?_;refine zn ?_;refine zf zc [] rfl ?_;iterate 2 refine za rfl ?_
    first | refine za rfl ?_ | refine zd rfl rfl zj ?_ | refine ze rfl rfl rfl zj ?_
    refine za rfl ?_;first | refine za rfl ?_ | refine zd rfl rfl zj ?_ | refine ze rfl rfl rfl zj ?_
    refine yi rfl rfl (by show 0≤e.w;omega) (by show e.w≤_;omega) z8 ?_;rw [show e.R.w / 4 = e.w / 4 from rfl,ec]
    refine zy rfl rfl z8 ?_;refine za rfl ?_;refine zb ?_;refine zm rfl (fun hc3=>?_) (fun hc3=>?_)
    ·(try simp only [zh] at hc3)
     refine zw zc [] rfl ?_;iterate 2 refine za rfl ?_
     first | refine za rfl ?_ | refine zd rfl rfl zj ?_ | refine ze rfl rfl rfl zj ?_
     refine yi rfl rfl (by show 0≤e.w;omega) (by show e.w≤_;omega) z8 ?_;rw [show e.R.w / 4 = e.w / 4 from rfl,ec]
     refine yu rfl rfl z8 ?_;refine zy rfl rfl z8 ?_;refine za rfl ?_;refine zk rfl rfl rfl rfl rfl yh rfl ?_;refine zb ?_;refine zf zc [] rfl ?_;first | refine za rfl ?_ | refine zd rfl rfl zj ?_ | refine ze rfl rfl rfl zj ?_
     refine zk rfl rfl rfl rfl rfl yh rfl ?_;refine zb ?_;refine zq ?_;refine ⟨trivial,_,rfl,Cv.eq (xt (x:=e.R) ?_ ?_) (yd _)⟩ <;> (unfold sightN;repeat' split) <;> omega
    ·(try simp only [zh] at hc3)
     refine zo ?_;refine zf zc [] rfl ?_;first | refine za rfl ?_ | refine zd rfl rfl zj ?_ | refine ze rfl rfl rfl zj ?_
     refine zk rfl rfl rfl rfl rfl yh rfl ?_;refine zb ?_;refine zq ?_;refine ⟨trivial,_,rfl,Cv.eq (xt (x:=e.R) ?_ ?_) (yd _)⟩ <;> (unfold sightN;repeat' split) <;> omega
   ·(try simp only [zh] at hc2)
    refine zo ?_;refine zn ?_;refine zf zc [] rfl ?_;iterate 2 refine za rfl ?_
    first | refine za rfl ?_ | refine zd rfl rfl zj ?_ | refine ze rfl rfl rfl zj ?_
    refine za rfl ?_;first | refine za rfl ?_ | refine zd rfl rfl zj ?_ | refine ze rfl rfl rfl zj ?_
    refine yi rfl rfl (by show 0≤e.w;omega) (by show e.w≤_;omega) z8 ?_;rw [show e.R.w / 4 = e.w / 4 from rfl,ec]
    refine zy rfl rfl z8 ?_;refine za rfl ?_;refine zb ?_;refine zm rfl (fun hc3=>?_) (fun hc3=>?_)
    ·(try simp only [zh] at hc3)
     refine zw zc [] rfl ?_;iterate 2 refine za rfl ?_
     first | refine za rfl ?_ | refine zd rfl rfl zj ?_ | refine ze rfl rfl rfl zj ?_
     refine yi rfl rfl (by show 0≤e.w;omega) (by show e.w≤_;omega) z8 ?_;rw [show e.R.w / 4 = e.w / 4 from rfl,ec]
     refine yu rfl rfl z8 ?_;refine zy rfl rfl z8 ?_;refine za rfl ?_;refine zk rfl rfl rfl rfl rfl yh rfl ?_;refine zb ?_;refine zf zc [] rfl ?_;first | refine za rfl ?_ | refine zd rfl rfl zj ?_ | refine ze rfl rfl rfl zj ?_
     refine zk rfl rfl rfl rfl rfl yh rfl ?_;refine zb ?_;refine zq ?_;refine ⟨trivial,_,rfl,Cv.eq (xt (x:=e.R) ?_ ?_) (yd _)⟩ <;> (unfold sightN;repeat' split) <;> omega
    ·(try simp only [zh] at hc3)
     refine zo ?_;refine zf zc [] rfl ?_;first | refine za rfl ?_ | refine zd rfl rfl zj ?_ | refine ze rfl rfl rfl zj ?_
     refine zk rfl rfl rfl rfl rfl yh rfl ?_;refine zb ?_;refine zq ?_;refine ⟨trivial,_,rfl,Cv.eq (xt (x:=e.R) ?_ ?_) (yd _)⟩ <;> (unfold sightN;repeat' split) <;> omega
  ·(try simp only [zh] at hc1)
   refine zo ?_;refine zn ?_;refine zf zc [] rfl ?_;iterate 2 refine za rfl ?_
   first | refine za rfl ?_ | refine zd rfl rfl zj ?_ | refine ze rfl rfl rfl zj ?_
   refine za rfl ?_;refine zb ?_;refine zm rfl (fun hc2=>?_) (fun hc2=>?_)
   ·(try simp only [zh] at hc2)
    refine zw zc [] rfl ?_;iterate 2 refine za rfl ?_
    refine zk rfl rfl rfl rfl rfl yh rfl ?_;refine zb ?_;refine zn ?_;refine zf zc [] rfl ?_;iterate 2 refine za rfl ?_
    first | refine za rfl ?_ | refine zd rfl rfl zj ?_ | refine ze rfl rfl rfl zj ?_
    refine za rfl ?_;first | refine za rfl ?_ | refine zd rfl rfl zj ?_ | refine ze rfl rfl rfl zj ?_
    refine yi rfl rfl (by show 0≤e.w;omega) (by show e.w≤_;omega) z8 ?_;rw [show e.R.w / 4 = e.w / 4 from rfl,ec]
    refine zy rfl rfl z8 ?_;refine za rfl ?_;refine zb ?_;refine zm rfl (fun hc3=>?_) (fun hc3=>?_)
    ·(try simp only [zh] at hc3)
     refine zw zc [] rfl ?_;iterate 2 refine za rfl ?_
     first | refine za rfl ?_ | refine zd rfl rfl zj ?_ | refine ze rfl rfl rfl zj ?_
     refine yi rfl rfl (by show 0≤e.w;omega) (by show e.w≤_;omega) z8 ?_;rw [show e.R.w / 4 = e.w / 4 from rfl,ec]
     refine yu rfl rfl z8 ?_;refine zy rfl rfl z8 ?_;refine za rfl ?_;refine zk rfl rfl rfl rfl rfl yh rfl ?_;refine zb ?_;refine zf zc [] rfl ?_;first | refine za rfl ?_ | refine zd rfl rfl zj ?_ | refine ze rfl rfl rfl zj ?_
     refine zk rfl rfl rfl rfl rfl yh rfl ?_;refine zb ?_;refine zq ?_;refine ⟨trivial,_,rfl,Cv.eq (xt (x:=e.R) ?_ ?_) (yd _)⟩ <;> (unfold sightN;repeat' split) <;> omega
    ·(try simp only [zh] at hc3)
     refine zo ?_;refine zf zc [] rfl ?_;first | refine za rfl ?_ | refine zd rfl rfl zj ?_ | refine ze rfl rfl rfl zj ?_
     refine zk rfl rfl rfl rfl rfl yh rfl ?_;refine zb ?_;refine zq ?_;refine ⟨trivial,_,rfl,Cv.eq (xt (x:=e.R) ?_ ?_) (yd _)⟩ <;> (unfold sightN;repeat' split) <;> omega
   ·(try simp only [zh] at hc2)
    refine zo ?_;refine zn ?_;refine zf zc [] rfl ?_;iterate 2 refine za rfl ?_
    first | refine za rfl ?_ | refine zd rfl rfl zj ?_ | refine ze rfl rfl rfl zj ?_
    refine za rfl ?_;first | refine za rfl ?_ | refine zd rfl rfl zj ?_ | refine ze rfl rfl rfl zj ?_
    refine yi rfl rfl (by show 0≤e.w;omega) (by show e.w≤_;omega) z8 ?_;rw [show e.R.w / 4 = e.w / 4 from rfl,ec]
    refine zy rfl rfl z8 ?_;refine za rfl ?_;refine zb ?_;refine zm rfl (fun hc3=>?_) (fun hc3=>?_)
    ·(try simp only [zh] at hc3)
     refine zw zc [] rfl ?_;iterate 2 refine za rfl ?_
     first | refine za rfl ?_ | refine zd rfl rfl zj ?_ | refine ze rfl rfl rfl zj ?_
     refine yi rfl rfl (by show 0≤e.w;omega) (by show e.w≤_;omega) z8 ?_;rw [show e.R.w / 4 = e.w / 4 from rfl,ec]
     refine yu rfl rfl z8 ?_;refine zy rfl rfl z8 ?_;refine za rfl ?_;refine zk rfl rfl rfl rfl rfl yh rfl ?_;refine zb ?_;refine zf zc [] rfl ?_;first | refine za rfl ?_ | refine zd rfl rfl zj ?_ | refine ze rfl rfl rfl zj ?_
     refine zk rfl rfl rfl rfl rfl yh rfl ?_;refine zb ?_;refine zq ?_;refine ⟨trivial,_,rfl,Cv.eq (xt (x:=e.R) ?_ ?_) (yd _)⟩ <;> (unfold sightN;repeat' split) <;> omega
    ·(try simp only [zh] at hc3)
     refine zo ?_;refine zf zc [] rfl ?_;first | refine za rfl ?_ | refine zd rfl rfl zj ?_ | refine ze rfl rfl rfl zj ?_
     refine zk rfl rfl rfl rfl rfl yh rfl ?_;refine zb ?_;refine zq ?_;refine ⟨trivial,_,rfl,Cv.eq (xt (x:=e.R) ?_ ?_) (yd _)⟩ <;> (unfold sightN;repeat' split) <;> omega
 ·(try simp only [zh] at hc0)
  refine zo ?_;refine zn ?_;refine zf zc [] rfl ?_;iterate 2 refine za rfl ?_
  first | refine za rfl ?_ | refine zd rfl rfl zj ?_ | refine ze rfl rfl rfl zj ?_
  refine za rfl ?_;first | refine za rfl ?_ | refine zd rfl rfl zj ?_ | refine ze rfl rfl rfl zj ?_
  refine yi rfl rfl (by show 0≤e.h;omega) (by show e.h≤_;omega) z8 ?_;rw [show e.R.h / 6 = e.h / 6 from rfl,er]
  refine zy rfl rfl z8 ?_;refine za rfl ?_;refine zb ?_;refine zm rfl (fun hc1=>?_) (fun hc1=>?_)
  ·(try simp only [zh] at hc1)
   refine zw zc [] rfl ?_;iterate 2 refine za rfl ?_
   first | refine za rfl ?_ | refine zd rfl rfl zj ?_ | refine ze rfl rfl rfl zj ?_
   refine yi rfl rfl (by show 0≤e.h;omega) (by show e.h≤_;omega) z8 ?_;rw [show e.R.h / 6 = e.h / 6 from rfl,er]
   refine yu rfl rfl z8 ?_;refine zy rfl rfl z8 ?_;refine za rfl ?_;refine zk rfl rfl rfl rfl rfl yh rfl ?_;refine zb ?_;refine zn ?_;refine zf zc [] rfl ?_;iterate 2 refine za rfl ?_
   first | refine za rfl ?_ | refine zd rfl rfl zj ?_ | refine ze rfl rfl rfl zj ?_
   refine za rfl ?_;refine zb ?_;refine zm rfl (fun hc2=>?_) (fun hc2=>?_)
   ·(try simp only [zh] at hc2)
    refine zw zc [] rfl ?_;iterate 2 refine za rfl ?_
    refine zk rfl rfl rfl rfl rfl yh rfl ?_;refine zb ?_;refine zn ?_;refine zf zc [] rfl ?_;iterate 2 refine za rfl ?_
    first | refine za rfl ?_ | refine zd rfl rfl zj ?_ | refine ze rfl rfl rfl zj ?_
    refine za rfl ?_;first | refine za rfl ?_ | refine zd rfl rfl zj ?_ | refine ze rfl rfl rfl zj ?_
    refine yi rfl rfl (by show 0≤e.w;omega) (by show e.w≤_;omega) z8 ?_;rw [show e.R.w / 4 = e.w / 4 from rfl,ec]
    refine zy rfl rfl z8 ?_;refine za rfl ?_;refine zb ?_;refine zm rfl (fun hc3=>?_) (fun hc3=>?_)
    ·(try simp only [zh] at hc3)
     refine zw zc [] rfl ?_;iterate 2 refine za rfl ?_
     first | refine za rfl ?_ | refine zd rfl rfl zj ?_ | refine ze rfl rfl rfl zj ?_
     refine yi rfl rfl (by show 0≤e.w;omega) (by show e.w≤_;omega) z8 ?_;rw [show e.R.w / 4 = e.w / 4 from rfl,ec]
     refine yu rfl rfl z8 ?_;refine zy rfl rfl z8 ?_;refine za rfl ?_;refine zk rfl rfl rfl rfl rfl yh rfl ?_;refine zb ?_;refine zf zc [] rfl ?_;first | refine za rfl ?_ | refine zd rfl rfl zj ?_ | refine ze rfl rfl rfl zj ?_
     refine zk rfl rfl rfl rfl rfl yh rfl ?_;refine zb ?_;refine zq ?_;refine ⟨trivial,_,rfl,Cv.eq (xt (x:=e.R) ?_ ?_) (yd _)⟩ <;> (unfold sightN;repeat' split) <;> omega
    ·(try simp only [zh] at hc3)
     refine zo ?_;refine zf zc [] rfl ?_;first | refine za rfl ?_ | refine zd rfl rfl zj ?_ | refine ze rfl rfl rfl zj ?_
     refine zk rfl rfl rfl rfl rfl yh rfl ?_;refine zb ?_;refine zq ?_;refine ⟨trivial,_,rfl,Cv.eq (xt (x:=e.R) ?_ ?_) (yd _)⟩ <;> (unfold sightN;repeat' split) <;> omega
   ·(try simp only [zh] at hc2)
    refine zo ?_;refine zn ?_;refine zf zc [] rfl ?_;iterate 2 refine za rfl ?_
    first | refine za rfl ?_ | refine zd rfl rfl zj ?_ | refine ze rfl rfl rfl zj ?_
    refine za rfl ?_;first | refine za rfl ?_ | refine zd rfl rfl zj ?_ | refine ze rfl rfl rfl zj ?_
    refine yi rfl rfl (by show 0≤e.w;omega) (by show e.w≤_;omega) z8 ?_;rw [show e.R.w / 4 = e.w / 4 from rfl,ec]
    refine zy rfl rfl z8 ?_;refine za rfl ?_;refine zb ?_;refine zm rfl (fun hc3=>?_) (fun hc3=>?_)
    ·(try simp only [zh] at hc3)
     refine zw zc [] rfl ?_;iterate 2 refine za rfl ?_
     first | refine za rfl ?_ | refine zd rfl rfl zj ?_ | refine ze rfl rfl rfl zj ?_
     refine yi rfl rfl (by show 0≤e.w;omega) (by show e.w≤_;omega) z8 ?_;rw [show e.R.w / 4 = e.w / 4 from rfl,ec]
     refine yu rfl rfl z8 ?_;refine zy rfl rfl z8 ?_;refine za rfl ?_;refine zk rfl rfl rfl rfl rfl yh rfl ?_;refine zb ?_;refine zf zc [] rfl ?_;first | refine za rfl ?_ | refine zd rfl rfl zj ?_ | refine ze rfl rfl rfl zj ?_
     refine zk rfl rfl rfl rfl rfl yh rfl ?_;refine zb ?_;refine zq ?_;refine ⟨trivial,_,rfl,Cv.eq (xt (x:=e.R) ?_ ?_) (yd _)⟩ <;> (unfold sightN;repeat' split) <;> omega
    ·(try simp only [zh] at hc3)
     refine zo ?_;refine zf zc [] rfl ?_;first | refine za rfl ?_ | refine zd rfl rfl zj ?_ | refine ze rfl rfl rfl zj ?_
     refine zk rfl rfl rfl rfl rfl yh rfl ?_;refine zb ?_;refine zq ?_;refine ⟨trivial,_,rfl,Cv.eq (xt (x:=e.R) ?_ ?_) (yd _)⟩ <;> (unfold sightN;repeat' split) <;> omega
  ·(try simp only [zh] at hc1)
   refine zo ?_;refine zn ?_;refine zf zc [] rfl ?_;iterate 2 refine za rfl ?_
   first | refine za rfl ?_ | refine zd rfl rfl zj ?_ | refine ze rfl rfl rfl zj ?_
   refine za rfl ?_;refine zb ?_;refine zm rfl (fun hc2=>?_) (fun hc2=>?_)
   ·(try simp only [zh] at hc2)
    refine zw zc [] rfl ?_;iterate 2 refine za rfl ?_
    refine zk rfl rfl rfl rfl rfl yh rfl ?_;refine zb ?_;refine zn ?_;refine zf zc [] rfl ?_;iterate 2 refine za rfl ?_
    first | refine za rfl ?_ | refine zd rfl rfl zj ?_ | refine ze rfl rfl rfl zj ?_
    refine za rfl ?_;first | refine za rfl ?_ | refine zd rfl rfl zj ?_ | refine ze rfl rfl rfl zj ?_
    refine yi rfl rfl (by show 0≤e.w;omega) (by show e.w≤_;omega) z8 ?_;rw [show e.R.w / 4 = e.w / 4 from rfl,ec]
    refine zy rfl rfl z8 ?_;refine za rfl ?_;refine zb ?_;refine zm rfl (fun hc3=>?_) (fun hc3=>?_)
    ·(try simp only [zh] at hc3)
     refine zw zc [] rfl ?_;iterate 2 refine za rfl ?_
     first | refine za rfl ?_ | refine zd rfl rfl zj ?_ | refine ze rfl rfl rfl zj ?_
     refine yi rfl rfl (by show 0≤e.w;omega) (by show e.w≤_;omega) z8 ?_;rw [show e.R.w / 4 = e.w / 4 from rfl,ec]
     refine yu rfl rfl z8 ?_;refine zy rfl rfl z8 ?_;refine za rfl ?_;refine zk rfl rfl rfl rfl rfl yh rfl ?_;refine zb ?_;refine zf zc [] rfl ?_;first | refine za rfl ?_ | refine zd rfl rfl zj ?_ | refine ze rfl rfl rfl zj ?_
     refine zk rfl rfl rfl rfl rfl yh rfl ?_;refine zb ?_;refine zq ?_;refine ⟨trivial,_,rfl,Cv.eq (xt (x:=e.R) ?_ ?_) (yd _)⟩ <;> (unfold sightN;repeat' split) <;> omega
    ·(try simp only [zh] at hc3)
     refine zo ?_;refine zf zc [] rfl ?_;first | refine za rfl ?_ | refine zd rfl rfl zj ?_ | refine ze rfl rfl rfl zj ?_
     refine zk rfl rfl rfl rfl rfl yh rfl ?_;refine zb ?_;refine zq ?_;refine ⟨trivial,_,rfl,Cv.eq (xt (x:=e.R) ?_ ?_) (yd _)⟩ <;> (unfold sightN;repeat' split) <;> omega
   ·(try simp only [zh] at hc2)
    refine zo ?_;refine zn ?_;refine zf zc [] rfl ?_;iterate 2 refine za rfl ?_
    first | refine za rfl ?_ | refine zd rfl rfl zj ?_ | refine ze rfl rfl rfl zj ?_
    refine za rfl ?_;first | refine za rfl ?_ | refine zd rfl rfl zj ?_ | refine ze rfl rfl rfl zj ?_
    refine yi rfl rfl (by show 0≤e.w;omega) (by show e.w≤_;omega) z8 ?_;rw [show e.R.w / 4 = e.w / 4 from rfl,ec]
    refine zy rfl rfl z8 ?_;refine za rfl ?_;refine zb ?_;refine zm rfl (fun hc3=>?_) (fun hc3=>?_)
    ·(try simp only [zh] at hc3)
     refine zw zc [] rfl ?_;iterate 2 refine za rfl ?_
     first | refine za rfl ?_ | refine zd rfl rfl zj ?_ | refine ze rfl rfl rfl zj ?_
     refine yi rfl rfl (by show 0≤e.w;omega) (by show e.w≤_;omega) z8 ?_;rw [show e.R.w / 4 = e.w / 4 from rfl,ec]
     refine yu rfl rfl z8 ?_;refine zy rfl rfl z8 ?_;refine za rfl ?_;refine zk rfl rfl rfl rfl rfl yh rfl ?_;refine zb ?_;refine zf zc [] rfl ?_;first | refine za rfl ?_ | refine zd rfl rfl zj ?_ | refine ze rfl rfl rfl zj ?_
     refine zk rfl rfl rfl rfl rfl yh rfl ?_;refine zb ?_;refine zq ?_;refine ⟨trivial,_,rfl,Cv.eq (xt (x:=e.R) ?_ ?_) (yd _)⟩ <;> (unfold sightN;repeat' split) <;> omega
    ·(try simp only [zh] at hc3)
     refine zo ?_;refine zf zc [] rfl ?_;first | refine za rfl ?_ | refine zd rfl rfl zj ?_ | refine ze rfl rfl rfl zj ?_
     refine zk rfl rfl rfl rfl rfl yh rfl ?_;refine zb ?_;refine zq ?_;refine ⟨trivial,_,rfl,Cv.eq (xt (x:=e.R) ?_ ?_) (yd _)⟩ <;> (unfold sightN;repeat' split) <;> omega
theorem low55_p (n : Int) (h : -4294967296≤n∧n≤4294967296) : CallP Tryz.prog 62 [I64 n] (I64 (n % 65536)):=by
 have ht : n.tmod 65536 = if 0≤n then n % 65536 else -((-n) % 65536):=by
  split
  ·exact Int.tmod_eq_emod_of_nonneg (by omega)
  ·rw [← Int.tmod_eq_emod_of_nonneg (a:=-n) (by omega),Int.neg_tmod,Int.neg_neg]
 have hv : n % 65536 = if n.tmod 65536 < 0 then n.tmod 65536 + 65536 else n.tmod 65536:=by rw [ht];split <;> split <;> omega
 have hb : -65536 < n.tmod 65536∧n.tmod 65536 < 65536:=by rw [ht];split <;> omega
 rw [hv]
 refine CallP.intro2 z5 z5 ?_;refine CallT.intro zc Tryz.func62 rfl (by kernel_rfl) (Nat.le_of_ble_eq_true rfl) ?_;refine zf zc [] rfl ?_;refine za rfl ?_;refine zb ?_;refine zf zc [] rfl ?_;iterate 3 refine za rfl ?_
 refine zb ?_;refine zn ?_;refine zf zc [] rfl ?_;iterate 2 refine za rfl ?_
 refine zb ?_;refine zm rfl (fun hc0=>?_) (fun hc0=>?_)
 ·(try simp only [zh] at hc0);rw [if_pos hc0]
  refine zw zc [] rfl ?_;refine za rfl ?_;refine zy (a:=n.tmod 65536) (b:=65536) rfl rfl z8 ?_;refine za rfl ?_;refine zb ?_;refine zf zc [] rfl ?_;iterate 2 refine za rfl ?_
  refine zb ?_;refine zq ?_;exact ⟨trivial,_,rfl,Cv.eq rfl rfl⟩
 ·(try simp only [zh] at hc0);rw [if_neg (by omega)]
  refine zo ?_;refine zf zc [] rfl ?_;iterate 2 refine za rfl ?_
  refine zb ?_;refine zq ?_;exact ⟨trivial,_,rfl,Cv.eq rfl rfl⟩
end

section
open Go.RowKit
set_option maxRecDepth 100000
set_option maxHeartbeats 1000000
theorem zet {a b : Int} {m : Nat} (h : a = b∨((m : Int)≤a∧(m : Int)≤b)) : clampN a m = clampN b m:=by unfold clampN;omega
theorem zjs {s : List UInt8} {a b a' b' : Int} (hl : s.length≤4096) (h1 : a = a'∨(4097≤a∧4097≤a')) (h2 : b = b'∨(4097≤b∧4097≤b')) : placeN s a b = placeN s a' b':=by
 have hc:=List.count_le_length (a:=(10 : UInt8)) (l:=s)
 unfold placeN
 have e1 : clampN a (lnN s - 1) = clampN a' (lnN s - 1):=zet (by unfold lnN;omega)
 rw [e1]
 have hlo:=uk s (clampN a' (lnN s - 1))
 rw [zet (a:=b) (b:=b') (by omega)]
theorem at55_p (e : Ed) (hw : e.W) (n : List Int) (hn : nOk n) (hl : 6≤n.length) : CallP Tryz.prog 63 [rxT e.R,I64 n[4]!,I64 n[5]!] (I64 (e.pt n : Nat)):=by
 have hpx:=yd e.R
 have hlen:=hw.len
 have h3:=hw.t
 have h4:=hn.at (i:=4) (by omega)
 have h5:=hn.at (i:=5) (by omega)
 have hs:=fun a b h1 h2=>zax e.c.bf.text a b hlen h1 h2
 have t1 : e.R.top = e.top:=rfl
 have t2 : e.R.left = e.left:=rfl
 unfold Ed.pt
 generalize n[4]! = x at *
 generalize n[5]! = y at *
 have hq : ∀ a b : Int,(a = e.top + max y 0 / 6∨(4097≤a∧4097≤e.top + max y 0 / 6))→(b = e.left + max x 0 / 4∨(4097≤b∧4097≤e.left + max x 0 / 4))→placeN e.c.bf.text a b = placeN e.c.bf.text (e.top + max y 0 / 6) (e.left + max x 0 / 4):=fun a b h1 h2=>zjs hlen h1 h2
 generalize placeN e.c.bf.text (e.top + max y 0 / 6) (e.left + max x 0 / 4) = k at *
 refine CallP.intro2 z5 z5 ?_;refine CallT.intro zc Tryz.func63 rfl (by kernel_rfl) (Nat.le_of_ble_eq_true rfl) ?_;refine zf zc [3] rfl ?_;refine ya rfl rfl ?_;refine za rfl ?_;refine zb ?_;refine zn ?_;refine zf zc [] rfl ?_;iterate 2 refine za rfl ?_
 refine zb ?_;refine zm rfl (fun hc0=>?_) (fun hc0=>?_)
 ·(try simp only [zh] at hc0)
  refine zw zc [] rfl ?_;refine za rfl ?_;refine zb ?_;refine zn ?_;refine zf zc [] rfl ?_;iterate 2 refine za rfl ?_
  refine zb ?_;refine zm rfl (fun hc1=>?_) (fun hc1=>?_)
  ·(try simp only [zh] at hc1)
   refine zw zc [] rfl ?_;refine za rfl ?_;refine zb ?_;refine zn ?_;refine zf zc [] rfl ?_;iterate 2 refine za rfl ?_
   refine zb ?_;refine zm rfl (fun hc2=>?_) (fun hc2=>?_)
   ·(try simp only [zh] at hc2)
    refine zw zc [] rfl ?_;refine za rfl ?_;refine zb ?_;refine zn ?_;refine zf zc [] rfl ?_;iterate 2 refine za rfl ?_
    refine zb ?_;refine zm rfl (fun hc3=>?_) (fun hc3=>?_)
    ·(try simp only [zh] at hc3)
     refine zw zc [] rfl ?_;refine za rfl ?_;refine zb ?_;refine zf zc [] rfl ?_;refine za rfl ?_;first | refine za rfl ?_ | refine zd rfl rfl zj ?_ | refine ze rfl rfl rfl zj ?_
     refine za rfl ?_;first | refine za rfl ?_ | refine zd rfl rfl zj ?_ | refine ze rfl rfl rfl zj ?_
     refine za rfl ?_;refine yi rfl rfl z8 z8 z8 ?_;refine zy rfl rfl z8 ?_;refine za rfl ?_;first | refine za rfl ?_ | refine zd rfl rfl zj ?_ | refine ze rfl rfl rfl zj ?_
     refine za rfl ?_;refine yi rfl rfl z8 z8 z8 ?_;refine zy rfl rfl z8 ?_;refine zi rfl rfl rfl ((hs _ _ z8 z8)) ?_;refine za rfl ?_;refine zb ?_;refine zq ?_;exact ⟨trivial,_,rfl,Cv.eq (by rw [hq _ _ (by omega) (by omega)]) rfl⟩
    ·(try simp only [zh] at hc3)
     refine zo ?_;refine zf zc [] rfl ?_;refine za rfl ?_;first | refine za rfl ?_ | refine zd rfl rfl zj ?_ | refine ze rfl rfl rfl zj ?_
     refine za rfl ?_;first | refine za rfl ?_ | refine zd rfl rfl zj ?_ | refine ze rfl rfl rfl zj ?_
     refine za rfl ?_;refine yi rfl rfl z8 z8 z8 ?_;refine zy rfl rfl z8 ?_;refine za rfl ?_;first | refine za rfl ?_ | refine zd rfl rfl zj ?_ | refine ze rfl rfl rfl zj ?_
     refine za rfl ?_;refine yi rfl rfl z8 z8 z8 ?_;refine zy rfl rfl z8 ?_;refine zi rfl rfl rfl ((hs _ _ z8 z8)) ?_;refine za rfl ?_;refine zb ?_;refine zq ?_;exact ⟨trivial,_,rfl,Cv.eq (by rw [hq _ _ (by omega) (by omega)]) rfl⟩
   ·(try simp only [zh] at hc2)
    refine zo ?_;refine zn ?_;refine zf zc [] rfl ?_;iterate 2 refine za rfl ?_
    refine zb ?_;refine zm rfl (fun hc3=>?_) (fun hc3=>?_)
    ·(try simp only [zh] at hc3)
     refine zw zc [] rfl ?_;refine za rfl ?_;refine zb ?_;refine zf zc [] rfl ?_;refine za rfl ?_;first | refine za rfl ?_ | refine zd rfl rfl zj ?_ | refine ze rfl rfl rfl zj ?_
     refine za rfl ?_;first | refine za rfl ?_ | refine zd rfl rfl zj ?_ | refine ze rfl rfl rfl zj ?_
     refine za rfl ?_;refine yi rfl rfl z8 z8 z8 ?_;refine zy rfl rfl z8 ?_;refine za rfl ?_;first | refine za rfl ?_ | refine zd rfl rfl zj ?_ | refine ze rfl rfl rfl zj ?_
     refine za rfl ?_;refine yi rfl rfl z8 z8 z8 ?_;refine zy rfl rfl z8 ?_;refine zi rfl rfl rfl ((hs _ _ z8 z8)) ?_;refine za rfl ?_;refine zb ?_;refine zq ?_;exact ⟨trivial,_,rfl,Cv.eq (by rw [hq _ _ (by omega) (by omega)]) rfl⟩
    ·(try simp only [zh] at hc3)
     refine zo ?_;refine zf zc [] rfl ?_;refine za rfl ?_;first | refine za rfl ?_ | refine zd rfl rfl zj ?_ | refine ze rfl rfl rfl zj ?_
     refine za rfl ?_;first | refine za rfl ?_ | refine zd rfl rfl zj ?_ | refine ze rfl rfl rfl zj ?_
     refine za rfl ?_;refine yi rfl rfl z8 z8 z8 ?_;refine zy rfl rfl z8 ?_;refine za rfl ?_;first | refine za rfl ?_ | refine zd rfl rfl zj ?_ | refine ze rfl rfl rfl zj ?_
     refine za rfl ?_;refine yi rfl rfl z8 z8 z8 ?_;refine zy rfl rfl z8 ?_;refine zi rfl rfl rfl ((hs _ _ z8 z8)) ?_;refine za rfl ?_;refine zb ?_;refine zq ?_;exact ⟨trivial,_,rfl,Cv.eq (by rw [hq _ _ (by omega) (by omega)]) rfl⟩
  ·(try simp only [zh] at hc1)
   refine zo ?_;refine zn ?_;refine zf zc [] rfl ?_;iterate 2 refine za rfl ?_
   refine zb ?_;refine zm rfl (fun hc2=>?_) (fun hc2=>?_)
   ·(try simp only [zh] at hc2)
    refine zw zc [] rfl ?_;refine za rfl ?_;refine zb ?_;refine zn ?_;refine zf zc [] rfl ?_;iterate 2 refine za rfl ?_
    refine zb ?_;refine zm rfl (fun hc3=>?_) (fun hc3=>?_)
    ·(try simp only [zh] at hc3)
     refine zw zc [] rfl ?_;refine za rfl ?_;refine zb ?_;refine zf zc [] rfl ?_;refine za rfl ?_;first | refine za rfl ?_ | refine zd rfl rfl zj ?_ | refine ze rfl rfl rfl zj ?_
     refine za rfl ?_;first | refine za rfl ?_ | refine zd rfl rfl zj ?_ | refine ze rfl rfl rfl zj ?_
     refine za rfl ?_;refine yi rfl rfl z8 z8 z8 ?_;refine zy rfl rfl z8 ?_;refine za rfl ?_;first | refine za rfl ?_ | refine zd rfl rfl zj ?_ | refine ze rfl rfl rfl zj ?_
     refine za rfl ?_;refine yi rfl rfl z8 z8 z8 ?_;refine zy rfl rfl z8 ?_;refine zi rfl rfl rfl ((hs _ _ z8 z8)) ?_;refine za rfl ?_;refine zb ?_;refine zq ?_;exact ⟨trivial,_,rfl,Cv.eq (by rw [hq _ _ (by omega) (by omega)]) rfl⟩
    ·(try simp only [zh] at hc3)
     refine zo ?_;refine zf zc [] rfl ?_;refine za rfl ?_;first | refine za rfl ?_ | refine zd rfl rfl zj ?_ | refine ze rfl rfl rfl zj ?_
     refine za rfl ?_;first | refine za rfl ?_ | refine zd rfl rfl zj ?_ | refine ze rfl rfl rfl zj ?_
     refine za rfl ?_;refine yi rfl rfl z8 z8 z8 ?_;refine zy rfl rfl z8 ?_;refine za rfl ?_;first | refine za rfl ?_ | refine zd rfl rfl zj ?_ | refine ze rfl rfl rfl zj ?_
     refine za rfl ?_;refine yi rfl rfl z8 z8 z8 ?_;refine zy rfl rfl z8 ?_;refine zi rfl rfl rfl ((hs _ _ z8 z8)) ?_;refine za rfl ?_;refine zb ?_;refine zq ?_;exact ⟨trivial,_,rfl,Cv.eq (by rw [hq _ _ (by omega) (by omega)]) rfl⟩
   ·(try simp only [zh] at hc2)
    refine zo ?_;refine zn ?_;refine zf zc [] rfl ?_;iterate 2 refine za rfl ?_
    refine zb ?_;refine zm rfl (fun hc3=>?_) (fun hc3=>?_)
    ·(try simp only [zh] at hc3)
     refine zw zc [] rfl ?_;refine za rfl ?_;refine zb ?_;refine zf zc [] rfl ?_;refine za rfl ?_;first | refine za rfl ?_ | refine zd rfl rfl zj ?_ | refine ze rfl rfl rfl zj ?_
     refine za rfl ?_;first | refine za rfl ?_ | refine zd rfl rfl zj ?_ | refine ze rfl rfl rfl zj ?_
     refine za rfl ?_;refine yi rfl rfl z8 z8 z8 ?_;refine zy rfl rfl z8 ?_;refine za rfl ?_;first | refine za rfl ?_ | refine zd rfl rfl zj ?_ | refine ze rfl rfl rfl zj ?_
     refine za rfl ?_;refine yi rfl rfl z8 z8 z8 ?_;refine zy rfl rfl z8 ?_;refine zi rfl rfl rfl ((hs _ _ z8 z8)) ?_;refine za rfl ?_;refine zb ?_;refine zq ?_;exact ⟨trivial,_,rfl,Cv.eq (by rw [hq _ _ (by omega) (by omega)]) rfl⟩
    ·(try simp only [zh] at hc3)
     refine zo ?_;refine zf zc [] rfl ?_;refine za rfl ?_;first | refine za rfl ?_ | refine zd rfl rfl zj ?_ | refine ze rfl rfl rfl zj ?_
     refine za rfl ?_;first | refine za rfl ?_ | refine zd rfl rfl zj ?_ | refine ze rfl rfl rfl zj ?_
     refine za rfl ?_;refine yi rfl rfl z8 z8 z8 ?_;refine zy rfl rfl z8 ?_;refine za rfl ?_;first | refine za rfl ?_ | refine zd rfl rfl zj ?_ | refine ze rfl rfl rfl zj ?_
     refine za rfl ?_;refine yi rfl rfl z8 z8 z8 ?_;refine zy rfl rfl z8 ?_;refine zi rfl rfl rfl ((hs _ _ z8 z8)) ?_;refine za rfl ?_;refine zb ?_;refine zq ?_;exact ⟨trivial,_,rfl,Cv.eq (by rw [hq _ _ (by omega) (by omega)]) rfl⟩
 ·(try simp only [zh] at hc0)
  refine zo ?_;refine zn ?_;refine zf zc [] rfl ?_;iterate 2 refine za rfl ?_
  refine zb ?_;refine zm rfl (fun hc1=>?_) (fun hc1=>?_)
  ·(try simp only [zh] at hc1)
   refine zw zc [] rfl ?_;refine za rfl ?_;refine zb ?_;refine zn ?_;refine zf zc [] rfl ?_;iterate 2 refine za rfl ?_
   refine zb ?_;refine zm rfl (fun hc2=>?_) (fun hc2=>?_)
   ·(try simp only [zh] at hc2)
    refine zw zc [] rfl ?_;refine za rfl ?_;refine zb ?_;refine zn ?_;refine zf zc [] rfl ?_;iterate 2 refine za rfl ?_
    refine zb ?_;refine zm rfl (fun hc3=>?_) (fun hc3=>?_)
    ·(try simp only [zh] at hc3)
     refine zw zc [] rfl ?_;refine za rfl ?_;refine zb ?_;refine zf zc [] rfl ?_;refine za rfl ?_;first | refine za rfl ?_ | refine zd rfl rfl zj ?_ | refine ze rfl rfl rfl zj ?_
     refine za rfl ?_;first | refine za rfl ?_ | refine zd rfl rfl zj ?_ | refine ze rfl rfl rfl zj ?_
     refine za rfl ?_;refine yi rfl rfl z8 z8 z8 ?_;refine zy rfl rfl z8 ?_;refine za rfl ?_;first | refine za rfl ?_ | refine zd rfl rfl zj ?_ | refine ze rfl rfl rfl zj ?_
     refine za rfl ?_;refine yi rfl rfl z8 z8 z8 ?_;refine zy rfl rfl z8 ?_;refine zi rfl rfl rfl ((hs _ _ z8 z8)) ?_;refine za rfl ?_;refine zb ?_;refine zq ?_;exact ⟨trivial,_,rfl,Cv.eq (by rw [hq _ _ (by omega) (by omega)]) rfl⟩
    ·(try simp only [zh] at hc3)
     refine zo ?_;refine zf zc [] rfl ?_;refine za rfl ?_;first | refine za rfl ?_ | refine zd rfl rfl zj ?_ | refine ze rfl rfl rfl zj ?_
     refine za rfl ?_;first | refine za rfl ?_ | refine zd rfl rfl zj ?_ | refine ze rfl rfl rfl zj ?_
     refine za rfl ?_;refine yi rfl rfl z8 z8 z8 ?_;refine zy rfl rfl z8 ?_;refine za rfl ?_;first | refine za rfl ?_ | refine zd rfl rfl zj ?_ | refine ze rfl rfl rfl zj ?_
     refine za rfl ?_;refine yi rfl rfl z8 z8 z8 ?_;refine zy rfl rfl z8 ?_;refine zi rfl rfl rfl ((hs _ _ z8 z8)) ?_;refine za rfl ?_;refine zb ?_;refine zq ?_;exact ⟨trivial,_,rfl,Cv.eq (by rw [hq _ _ (by omega) (by omega)]) rfl⟩
   ·(try simp only [zh] at hc2)
    refine zo ?_;refine zn ?_;refine zf zc [] rfl ?_;iterate 2 refine za rfl ?_
    refine zb ?_;refine zm rfl (fun hc3=>?_) (fun hc3=>?_)
    ·(try simp only [zh] at hc3)
     refine zw zc [] rfl ?_;refine za rfl ?_;refine zb ?_;refine zf zc [] rfl ?_;refine za rfl ?_;first | refine za rfl ?_ | refine zd rfl rfl zj ?_ | refine ze rfl rfl rfl zj ?_
     refine za rfl ?_;first | refine za rfl ?_ | refine zd rfl rfl zj ?_ | refine ze rfl rfl rfl zj ?_
     refine za rfl ?_;refine yi rfl rfl z8 z8 z8 ?_;refine zy rfl rfl z8 ?_;refine za rfl ?_;first | refine za rfl ?_ | refine zd rfl rfl zj ?_ | refine ze rfl rfl rfl zj ?_
     refine za rfl ?_;refine yi rfl rfl z8 z8 z8 ?_;refine zy rfl rfl z8 ?_;refine zi rfl rfl rfl ((hs _ _ z8 z8)) ?_;refine za rfl ?_;refine zb ?_;refine zq ?_;exact ⟨trivial,_,rfl,Cv.eq (by rw [hq _ _ (by omega) (by omega)]) rfl⟩
    ·(try simp only [zh] at hc3)
     refine zo ?_;refine zf zc [] rfl ?_;refine za rfl ?_;first | refine za rfl ?_ | refine zd rfl rfl zj ?_ | refine ze rfl rfl rfl zj ?_
     refine za rfl ?_;first | refine za rfl ?_ | refine zd rfl rfl zj ?_ | refine ze rfl rfl rfl zj ?_
     refine za rfl ?_;refine yi rfl rfl z8 z8 z8 ?_;refine zy rfl rfl z8 ?_;refine za rfl ?_;first | refine za rfl ?_ | refine zd rfl rfl zj ?_ | refine ze rfl rfl rfl zj ?_
     refine za rfl ?_;refine yi rfl rfl z8 z8 z8 ?_;refine zy rfl rfl z8 ?_;refine zi rfl rfl rfl ((hs _ _ z8 z8)) ?_;refine za rfl ?_;refine zb ?_;refine zq ?_;exact ⟨trivial,_,rfl,Cv.eq (by rw [hq _ _ (by omega) (by omega)]) rfl⟩
  ·(try simp only [zh] at hc1)
   refine zo ?_;refine zn ?_;refine zf zc [] rfl ?_;iterate 2 refine za rfl ?_
   refine zb ?_;refine zm rfl (fun hc2=>?_) (fun hc2=>?_)
   ·(try simp only [zh] at hc2)
    refine zw zc [] rfl ?_;refine za rfl ?_;refine zb ?_;refine zn ?_;refine zf zc [] rfl ?_;iterate 2 refine za rfl ?_
    refine zb ?_;refine zm rfl (fun hc3=>?_) (fun hc3=>?_)
    ·(try simp only [zh] at hc3)
     refine zw zc [] rfl ?_;refine za rfl ?_;refine zb ?_;refine zf zc [] rfl ?_;refine za rfl ?_;first | refine za rfl ?_ | refine zd rfl rfl zj ?_ | refine ze rfl rfl rfl zj ?_
     refine za rfl ?_;first | refine za rfl ?_ | refine zd rfl rfl zj ?_ | refine ze rfl rfl rfl zj ?_
     refine za rfl ?_;refine yi rfl rfl z8 z8 z8 ?_;refine zy rfl rfl z8 ?_;refine za rfl ?_;first | refine za rfl ?_ | refine zd rfl rfl zj ?_ | refine ze rfl rfl rfl zj ?_
     refine za rfl ?_;refine yi rfl rfl z8 z8 z8 ?_;refine zy rfl rfl z8 ?_;refine zi rfl rfl rfl ((hs _ _ z8 z8)) ?_;refine za rfl ?_;refine zb ?_;refine zq ?_;exact ⟨trivial,_,rfl,Cv.eq (by rw [hq _ _ (by omega) (by omega)]) rfl⟩
    ·(try simp only [zh] at hc3)
     refine zo ?_;refine zf zc [] rfl ?_;refine za rfl ?_;first | refine za rfl ?_ | refine zd rfl rfl zj ?_ | refine ze rfl rfl rfl zj ?_
     refine za rfl ?_;first | refine za rfl ?_ | refine zd rfl rfl zj ?_ | refine ze rfl rfl rfl zj ?_
     refine za rfl ?_;refine yi rfl rfl z8 z8 z8 ?_;refine zy rfl rfl z8 ?_;refine za rfl ?_;first | refine za rfl ?_ | refine zd rfl rfl zj ?_ | refine ze rfl rfl rfl zj ?_
     refine za rfl ?_;refine yi rfl rfl z8 z8 z8 ?_;refine zy rfl rfl z8 ?_;refine zi rfl rfl rfl ((hs _ _ z8 z8)) ?_;refine za rfl ?_;refine zb ?_;refine zq ?_;exact ⟨trivial,_,rfl,Cv.eq (by rw [hq _ _ (by omega) (by omega)]) rfl⟩
   ·(try simp only [zh] at hc2)
    refine zo ?_;refine zn ?_;refine zf zc [] rfl ?_;iterate 2 refine za rfl ?_
    refine zb ?_;refine zm rfl (fun hc3=>?_) (fun hc3=>?_)
    ·(try simp only [zh] at hc3)
     refine zw zc [] rfl ?_;refine za rfl ?_;refine zb ?_;refine zf zc [] rfl ?_;refine za rfl ?_;first | refine za rfl ?_ | refine zd rfl rfl zj ?_ | refine ze rfl rfl rfl zj ?_
     refine za rfl ?_;first | refine za rfl ?_ | refine zd rfl rfl zj ?_ | refine ze rfl rfl rfl zj ?_
     refine za rfl ?_;refine yi rfl rfl z8 z8 z8 ?_;refine zy rfl rfl z8 ?_;refine za rfl ?_;first | refine za rfl ?_ | refine zd rfl rfl zj ?_ | refine ze rfl rfl rfl zj ?_
     refine za rfl ?_;refine yi rfl rfl z8 z8 z8 ?_;refine zy rfl rfl z8 ?_;refine zi rfl rfl rfl ((hs _ _ z8 z8)) ?_;refine za rfl ?_;refine zb ?_;refine zq ?_;exact ⟨trivial,_,rfl,Cv.eq (by rw [hq _ _ (by omega) (by omega)]) rfl⟩
    ·(try simp only [zh] at hc3)
     refine zo ?_;refine zf zc [] rfl ?_;refine za rfl ?_;first | refine za rfl ?_ | refine zd rfl rfl zj ?_ | refine ze rfl rfl rfl zj ?_
     refine za rfl ?_;first | refine za rfl ?_ | refine zd rfl rfl zj ?_ | refine ze rfl rfl rfl zj ?_
     refine za rfl ?_;refine yi rfl rfl z8 z8 z8 ?_;refine zy rfl rfl z8 ?_;refine za rfl ?_;first | refine za rfl ?_ | refine zd rfl rfl zj ?_ | refine ze rfl rfl rfl zj ?_
     refine za rfl ?_;refine yi rfl rfl z8 z8 z8 ?_;refine zy rfl rfl z8 ?_;refine zi rfl rfl rfl ((hs _ _ z8 z8)) ?_;refine za rfl ?_;refine zb ?_;refine zq ?_;exact ⟨trivial,_,rfl,Cv.eq (by rw [hq _ _ (by omega) (by omega)]) rfl⟩
theorem got55_p (row : List Int) (hl : row.length≤100000) : CallP Tryz.prog 35 [cIf row] (strT (gotB row)):=by
 have hpr:=zp cI row
 have hgl:=s0 row
 have hgk:=fun k=>s0 (row.take k)
 refine CallP.intro2 z5 z5 ?_;refine CallT.intro zc Tryz.func35 rfl (by kernel_rfl) (Nat.le_of_ble_eq_true rfl) ?_;refine zf zc [] rfl ?_;refine za rfl ?_;refine zb ?_;refine zf zc [] rfl ?_;refine za rfl ?_;refine zb ?_;refine zn ?_;refine zf zc [] rfl ?_;refine za rfl ?_;refine zb ?_;refine yf ?_;refine yy (σ:=Nat) (fun k=>row.length - k) (fun k=>k≤row.length) (fun k=>[(4,I64 (k : Nat)),(3,.slc 0 0 (gotB (row.take k)).length 1 none)]) (fun k=>[.c (encL cY (gotB (row.take k)))]) [0] rfl (0) ?_ ?_ ?_
 ·refine ⟨[none],rfl,yo,yn,?_,?_⟩ <;> (repeat' first | exact trivial | exact ym | exact yq | exact yp rfl | refine yb ?_ ?_ | refine z4 rfl ?_ ?_ | refine zx ?_ ?_ | refine yk rfl ?_ | fail) <;> first | exact xd | (first | exact CvL.pure rfl | exact Cv.pure (by simp only [T.pure,hpr]))
 ·(try dsimp only);omega
 rintro k hk;refine zn ?_;refine zf zc [] rfl ?_;iterate 4 refine za rfl ?_
 refine zb ?_;refine zm rfl (fun hc0=>?_) (fun hc0=>?_)
 ·(try simp only [zh] at hc0);have hkl : k < row.length:=(by omega);have hat : row.take (k + 1) = row.take k ++ [row[k]!]:=(by rw [List.take_add_one,getE hkl];rfl);have hsn:=zcf (row.take k) row[k]!;rw [← hat] at hsn;have hgkk:=hgk k;rw [List.length_take] at hgkk
  refine zo ?_;refine zn ?_;refine yf ?_;refine zf zc [] rfl ?_;iterate 2 refine za rfl ?_
  refine z9 (m:=k) rfl rfl rfl rfl rfl rfl hkl ?_;refine zd rfl rfl (z6 cI (m:=k) (getE hkl) (by decide) rfl) ?_;iterate 2 refine za rfl ?_
  refine' zu (d:=29) [_,_,_,_,_,_,_,_,_,_,_,_,_] rfl ?_ rfl ?_
  rotate_left
  ·refine zt rfl rfl (fun hb5_5=>?_) (fun hb5_5=>?_)
   ·have ghb5_5:=hb5_5
    try simp only [zh,Bool.not_true,Bool.not_false] at ghb5_5
    refine za rfl ?_;refine zg rfl rfl hb5_5 ?_;refine za rfl ?_;refine zg rfl rfl hb5_5 ?_;refine z9 (m:=k) rfl rfl rfl rfl rfl rfl hkl ?_;refine zg rfl rfl hb5_5 ?_;refine zd rfl rfl (z6 cI (m:=k) (getE hkl) (by decide) rfl) ?_;refine zg rfl rfl hb5_5 ?_;refine za rfl ?_;refine zg rfl rfl hb5_5 ?_;refine za rfl ?_;refine' zu (d:=28) [_,_,_,_,_,_] rfl ?_ rfl ?_
    rotate_left
    ·refine zt rfl rfl (fun hb5_11=>?_) (fun hb5_11=>?_)
     ·have ghb5_11:=hb5_11
      try simp only [zh,Bool.not_true,Bool.not_false] at ghb5_11
      refine za rfl ?_;refine zg rfl rfl hb5_11 ?_;refine za rfl ?_;refine zg rfl rfl hb5_11 ?_;refine z9 (m:=k) rfl rfl rfl rfl rfl rfl hkl ?_;refine zg rfl rfl hb5_11 ?_;refine zd rfl rfl (z6 cI (m:=k) (getE hkl) (by decide) rfl) ?_;refine zg rfl rfl hb5_11 ?_;refine za rfl ?_;refine zg rfl rfl hb5_5 ?_;refine z3 rfl (fun _=>rfl) ?_;exact zb ⟨rfl,rfl⟩
     ·refine zl rfl rfl hb5_11 ?_;iterate 3 refine zl rfl rfl hb5_11 ?_
      refine zg rfl rfl hb5_5 ?_;exact z3 rfl (fun h=>absurd (h.symm.trans hb5_11) (by decide)) (zb ⟨rfl,rfl⟩)
    refine zr rfl (fun _=>rfl) ?_;exact zb ⟨rfl,rfl⟩
   ·refine zl rfl rfl hb5_5 ?_;iterate 4 refine zl rfl rfl hb5_5 ?_
    iterate 5 refine re rfl rfl ?_
    refine zl rfl rfl hb5_5 ?_;exact zr rfl (fun h=>absurd (h.symm.trans hb5_5) (by decide)) (zb ⟨rfl,rfl⟩)
  refine zb ?_;refine zm rfl (fun hc1=>?_) (fun hc1=>?_)
  ·(try simp only [zh] at hc1);have hg : gotP row[k]! = true:=(by unfold gotP;simp only [zh];omega);have eT : gotB (row.take (k + 1)) = gotB (row.take k) ++ [UInt8.ofNat row[k]!.toNat]:=(by rw [hsn,if_pos hg]);have hv:=zbf hg;have hw8 : IntKind.u8.wrap row[k]! = ((UInt8.ofNat row[k]!.toNat).toNat : Int):=(by rw [UInt8.toNat_ofNat',wrapU (by omega)];omega)
   refine zw zc [36] rfl ?_;iterate 3 refine za rfl ?_
   refine z9 (m:=k) rfl rfl rfl rfl rfl rfl hkl ?_;refine zd rfl rfl (z6 cI (m:=k) (getE hkl) (by decide) rfl) ?_;refine za (t:=U8 ((UInt8.ofNat row[k]!.toNat).toNat : Nat)) (by show some (T.v (.int .u8 (IntKind.u8.wrap row[k]!)),(none : Option (Nat × List T))) = _;rw [hw8]) ?_;refine ya rfl rfl ?_;refine' yw rfl rfl rfl rfl rfl rfl rfl rfl ?h1 ?h2 ?h3 ?h4 ?h5 ?_
   case h1=>rw [ye,vw];(try dsimp only);omega
   case h2=>exact Nat.le_trans (Nat.mul_le_mul_right _ (show _≤200000 by omega)) (by decide)
   case h3=>omega
   case h4=>rfl
   case h5=>rfl
   refine za rfl ?_;refine zb ?_;refine zw zc [] rfl ?_;refine za rfl ?_;first | refine zy rfl rfl (by omega) ?_ | refine za rfl ?_
   refine za rfl ?_;refine zb ?_;refine ⟨k + 1,by (try dsimp only);omega,?_,(by refine ⟨[some 1],rfl,yo,yn,?_,?_⟩ <;> (repeat' first | exact trivial | exact ym | exact yq | exact yp rfl | refine yb ?_ ?_ | refine z4 rfl ?_ ?_ | refine zx ?_ ?_ | refine yk rfl ?_ | fail) <;> first | exact xd | (first | exact CvL.pure rfl | exact Cv.pure (by simp only [T.pure,hpr]) | (rw [eT,List.length_append];exact Cv.slc rfl (.inl rfl)) | exact CvL.eq (by rw [eT,yr,List.drop_zero,List.take_of_length_le (by rw [ye,vw];exact Nat.le_refl _)];rfl) (zp _ _)))⟩
   (try dsimp only);omega
  ·(try simp only [zh] at hc1);have hg : gotP row[k]! = false:=(by unfold gotP;simp only [zh];refine ⟨?_,fun h1=>?_⟩ <;> omega);have eF : gotB (row.take (k + 1)) = gotB (row.take k):=(by rw [hsn,if_neg (by rw [hg];simp),List.append_nil])
   refine zo ?_;refine zw zc [] rfl ?_;refine za rfl ?_;first | refine zy rfl rfl (by omega) ?_ | refine za rfl ?_
   refine za rfl ?_;refine zb ?_;refine ⟨k + 1,by (try dsimp only);omega,?_,(by refine ⟨[some 0],rfl,yo,yn,?_,?_⟩ <;> (repeat' first | exact trivial | exact ym | exact yq | exact yp rfl | refine yb ?_ ?_ | refine z4 rfl ?_ ?_ | refine zx ?_ ?_ | refine yk rfl ?_ | fail) <;> first | exact xd | (first | exact CvL.pure rfl | exact Cv.pure (by simp only [T.pure,hpr]) | (rw [eF];exact Cv.slc rfl (.inl rfl)) | exact CvL.eq (by rw [eF]) (zp _ _)))⟩
   (try dsimp only);omega
 ·(try simp only [zh] at hc0);obtain rfl : k = row.length:=(by omega);rw [List.take_length]
  refine yz ?_;refine zf zc [] rfl ?_;refine za rfl ?_;refine vf (xs:=gotB row) rfl rfl rfl rfl rfl rfl rfl rfl (by rw [ye,vw];omega) (by rw [List.drop_zero,List.take_of_length_le (by rw [ye,vw];omega)]) ?_;refine za rfl ?_;refine zb ?_;refine zq ?_;exact ⟨trivial,_,rfl,Cv.eq rfl rfl⟩
theorem zhq (X : List (List UInt8)) (t : List UInt8) : (X ++ [t])[X.length]? = some t:=by simp
theorem zcz (x : Rx) (u : Bool) (h : (if u then x.past else x.again) = []) : CallP Tryz.prog 97 [rxT x,BL u] (rxT x):=by
 have hpx:=yd x
 cases u
 case false=>
  have h : x.again = []:=h
  have h0 : x.again.length = 0:=by rw [h];rfl
  refine CallP.intro2 z5 z5 ?_;refine CallT.intro zc Tryz.func97 rfl (by kernel_rfl) (Nat.le_of_ble_eq_true rfl) ?_;refine zf zc [] rfl ?_;iterate 2 refine yc rfl rfl ?_
  refine zb ?_;refine zf zc [] rfl ?_;refine za rfl ?_;first | refine za rfl ?_ | refine zd rfl rfl zj ?_ | refine ze rfl rfl rfl zj ?_
  refine za rfl ?_;refine zb ?_;refine zn ?_;refine zf zc [] rfl ?_;refine za rfl ?_;refine zb ?_;refine y8 rfl ?_;refine zo ?_;refine zn ?_;refine zf zc [] rfl ?_;iterate 3 refine za rfl ?_
  refine zb ?_;refine zm rfl (fun hc1=>?_) (fun hc1=>?_)
  ·(try simp only [zh] at hc1)
   refine zf zc [] rfl ?_;first | refine za rfl ?_ | refine zd rfl rfl zj ?_ | refine ze rfl rfl rfl zj ?_
   refine zk rfl rfl rfl rfl rfl yh rfl ?_;refine zb ?_;refine zq ?_;exact ⟨trivial,_,rfl,Cv.eq rfl (yd _)⟩
  ·(try simp only [zh] at hc1);omega
 case true=>
  have h : x.past = []:=h
  have h0 : x.past.length = 0:=by rw [h];rfl
  refine CallP.intro2 z5 z5 ?_;refine CallT.intro zc Tryz.func97 rfl (by kernel_rfl) (Nat.le_of_ble_eq_true rfl) ?_;refine zf zc [] rfl ?_;iterate 2 refine yc rfl rfl ?_
  refine zb ?_;refine zf zc [] rfl ?_;refine za rfl ?_;first | refine za rfl ?_ | refine zd rfl rfl zj ?_ | refine ze rfl rfl rfl zj ?_
  refine za rfl ?_;refine zb ?_;refine zn ?_;refine zf zc [] rfl ?_;refine za rfl ?_;refine zb ?_;refine xi rfl ?_;refine zw zc [] rfl ?_;refine za rfl ?_;first | refine za rfl ?_ | refine zd rfl rfl zj ?_ | refine ze rfl rfl rfl zj ?_
  refine za rfl ?_;refine zb ?_;refine zn ?_;refine zf zc [] rfl ?_;iterate 3 refine za rfl ?_
  refine zb ?_;refine zm rfl (fun hc1=>?_) (fun hc1=>?_)
  ·(try simp only [zh] at hc1)
   refine zf zc [] rfl ?_;first | refine za rfl ?_ | refine zd rfl rfl zj ?_ | refine ze rfl rfl rfl zj ?_
   refine zk rfl rfl rfl rfl rfl yh rfl ?_;refine zb ?_;refine zq ?_;exact ⟨trivial,_,rfl,Cv.eq rfl (yd _)⟩
  ·(try simp only [zh] at hc1);omega
theorem ziw (x : Rx) (X : List (List UInt8)) (t : List UInt8) (h : x.past = X ++ [t]) (h2 : x.again.length≤256) (h3 : X.length≤256) (ht : t.length≤100000) (hc : x.cur≤100000) : CallP Tryz.prog 97 [rxT x,BL true] (rxT { x with past:=X,again:=x.again ++ [x.text],text:=t,cur:=min x.cur t.length,anc:=min x.cur t.length }):=by
 have hpx:=yd x
 obtain ⟨win,w,hh,text,past,again,cur,anc,top,left,cop,cnt,asked⟩:=x
 dsimp only at *
 subst h
 have hpp:=zp cStr (X ++ [t])
 have hl : (X ++ [t]).length = X.length + 1:=by simp
 have hll : (encL cStr again).length = again.length:=by rw [ye,uo];omega
 have hle:=w5 (cur : Int) (t.length : Nat)
 rw [show min (cur : Int) ((t.length : Nat) : Int) = ((min cur t.length : Nat) : Int) by omega] at hle
 refine CallP.intro2 z5 z5 ?_;refine CallT.intro zc Tryz.func97 rfl (by kernel_rfl) (Nat.le_of_ble_eq_true rfl) ?_;refine zf zc [] rfl ?_;iterate 2 refine yc rfl rfl ?_
 refine zb ?_;refine zf zc [] rfl ?_;refine za rfl ?_;first | refine za rfl ?_ | refine zd rfl rfl zj ?_ | refine ze rfl rfl rfl zj ?_
 refine za rfl ?_;refine zb ?_;refine zn ?_;refine zf zc [] rfl ?_;refine za rfl ?_;refine zb ?_;refine xi rfl ?_;refine zw zc [] rfl ?_;refine za rfl ?_;first | refine za rfl ?_ | refine zd rfl rfl zj ?_ | refine ze rfl rfl rfl zj ?_
 refine za rfl ?_;refine zb ?_;refine zn ?_;refine zf zc [] rfl ?_;iterate 3 refine za rfl ?_
 refine zb ?_;refine zm rfl (fun hc1=>?_) (fun hc1=>?_)
 ·(try simp only [zh] at hc1);omega
 ·(try simp only [zh] at hc1)
  refine zo ?_;refine zf zc [] rfl ?_;iterate 3 refine za rfl ?_
  refine yu (a:=((X ++ [t]).length : Nat)) (b:=1) rfl rfl z8 ?_;refine z9 (m:=X.length) rfl rfl rfl rfl rfl (show (((X ++ [t]).length : Nat) : Int) - 1 = _ by rw [hl];omega) (by rw [hl];omega) ?_;refine zd rfl rfl (z6 cStr (m:=X.length) (zhq X t) (by decide) rfl) ?_;refine za rfl ?_;refine zb ?_;refine zn ?_;refine zf zc [] rfl ?_;refine za rfl ?_;refine zb ?_;refine xi rfl ?_;refine sc zc [29] [_,_,_,_,_,_,_] ([.c (rxC ⟨win,w,hh,text,X ++ [t],again,cur,anc,top,left,cop,cnt,asked⟩),.c zRx]) [true,false,false,true,false,false,false] rfl yj yj yj (by repeat' first | exact x5 | refine x8 ?_ | refine xe ?_) ?_;refine zi5 rfl rfl (by repeat' first | exact x5 | refine x8 ?_ | refine xe ?_) ?_;refine yx rfl ?_;first | refine yx rfl ?_ | refine VD.loadI rfl rfl zj ?_
  refine' zi6 rfl rfl (mAppS rfl rfl rfl rfl (tt cStr (l:=again) rfl rfl rfl rfl) rfl ?h1 ?h2 ?h3 ?h4 (wh _ _)) ?h9 ?_
  case h1=>rfl
  case h2=>exact Nat.le_trans (Nat.mul_le_mul_right _ (show 0 + again.length≤1000 by omega)) (by decide)
  case h3=>show 0 + again.length≤_;omega
  case h4=>rw [ye];rfl
  case h9=>exact xe (xe x5)
  refine yx rfl ?_;first | refine yx rfl ?_ | refine VD.loadI rfl rfl zj ?_
  refine zbu rfl ?_;refine qj ?_;refine' zdx rfl rfl (mAppS (ys:=encL cStr [text]) (n2:=1) rfl rfl rfl rfl ?h0 ?h5 ?h1 ?h2 ?h3 ?h4 (wh _ _)) ?_
  case h0=>exact tt cStr (l:=[text]) rfl rfl rfl rfl
  case h5=>rfl
  case h1=>rw [Nat.zero_add];exact (Nat.mul_one _).trans hll.symm
  case h2=>exact Nat.le_trans (Nat.mul_le_mul_right _ (show 0 + again.length + 1≤1000 by omega)) (by decide)
  case h3=>show 0 + again.length + 1≤_;omega
  case h4=>rfl
  refine za rfl ?_;refine zk rfl rfl rfl rfl rfl yh rfl ?_;refine zb ?_;refine xr ([(2,.ptr 0 0),(4,.ptr 1 0),(6,strT t)]) ([.c (rxC ⟨win,w,hh,text,X ++ [t],again ++ [text],cur,anc,top,left,cop,cnt,asked⟩),.c zRx]) [] rfl (by refine ⟨[some 0,some 1],rfl,yo,yn,?_,?_⟩ <;> (repeat' first | exact trivial | exact ym | exact yq | exact yp rfl | refine yb ?_ ?_ | refine z4 rfl ?_ ?_ | refine zx ?_ ?_ | refine yk rfl ?_ | fail) <;> first | exact xd | (first | exact CvL.pure rfl | exact CvL.rx (x:=⟨win,w,hh,text,X ++ [t],again,cur,anc,top,left,cop,cnt,asked⟩) (Cv.pure (vg _ _ _)) (Cv.fslcE (by simp) ⟨rfl,by show (some 4 : Option Nat)∉[some 0,some 1];decide⟩ (CvL.eq (by rw [yr];rfl) (zp _ _))) | exact Cv.pure (vg _ _ _) | exact Cv.pure rfl)) ?_
  refine zw zc [] rfl ?_;refine za rfl ?_;first | refine za rfl ?_ | refine zd rfl rfl zj ?_ | refine ze rfl rfl rfl zj ?_
  refine za rfl ?_;first | refine za rfl ?_ | refine zd rfl rfl zj ?_ | refine ze rfl rfl rfl zj ?_
  refine za rfl ?_;refine yu (a:=((X ++ [t]).length : Nat)) (b:=1) rfl rfl z8 ?_;refine zbq (r:=X.length) rfl rfl rfl rfl rfl (show (((X ++ [t]).length : Nat) : Int) - 1 = _ by rw [hl];omega) (by rw [hl];omega) ?_;refine za rfl ?_;refine zk rfl rfl rfl rfl rfl yh rfl ?_;refine zb ?_;refine zf zc [] rfl ?_;iterate 2 refine za rfl ?_
  refine zk rfl rfl rfl rfl rfl yh rfl ?_;refine zb ?_;refine zf zc [] rfl ?_;refine za rfl ?_;first | refine za rfl ?_ | refine zd rfl rfl zj ?_ | refine ze rfl rfl rfl zj ?_
  refine za rfl ?_;refine za (t:=I64 (t.length : Nat)) rfl ?_;refine zi rfl rfl rfl (hle) ?_;refine za rfl ?_;refine zk rfl rfl rfl rfl rfl yh rfl ?_;refine zb ?_;refine zf zc [] rfl ?_;refine za rfl ?_;first | refine za rfl ?_ | refine zd rfl rfl zj ?_ | refine ze rfl rfl rfl zj ?_
  refine za rfl ?_;refine zk rfl rfl rfl rfl rfl yh rfl ?_;refine zb ?_;refine zf zc [] rfl ?_;first | refine za rfl ?_ | refine zd rfl rfl zj ?_ | refine ze rfl rfl rfl zj ?_
  refine zk rfl rfl rfl rfl rfl yh rfl ?_;refine zb ?_;refine zq ?_;exact ⟨trivial,_,rfl,Cv.agg (CvL.rx (x:=⟨win,w,hh,t,X,again ++ [text],min cur t.length,min cur t.length,top,left,cop,cnt,asked⟩) (by show Cv _ (.islc (encL cStr (X ++ [t])) _ _) _;rw [yr];exact Cv.islcT (CvL.pure (zp cStr X)) (.inl rfl)) (Cv.pure (vg _ _ _)))⟩
theorem zix (x : Rx) (X : List (List UInt8)) (t : List UInt8) (h : x.again = X ++ [t]) (h2 : x.past.length≤256) (h3 : X.length≤256) (ht : t.length≤100000) (hc : x.cur≤100000) : CallP Tryz.prog 97 [rxT x,BL false] (rxT { x with again:=X,past:=x.past ++ [x.text],text:=t,cur:=min x.cur t.length,anc:=min x.cur t.length }):=by
 have hpx:=yd x
 obtain ⟨win,w,hh,text,past,again,cur,anc,top,left,cop,cnt,asked⟩:=x
 dsimp only at *
 subst h
 have hpp:=zp cStr (X ++ [t])
 have hl : (X ++ [t]).length = X.length + 1:=by simp
 have hll : (encL cStr past).length = past.length:=by rw [ye,uo];omega
 have hle:=w5 (cur : Int) (t.length : Nat)
 rw [show min (cur : Int) ((t.length : Nat) : Int) = ((min cur t.length : Nat) : Int) by omega] at hle
 refine CallP.intro2 z5 z5 ?_;refine CallT.intro zc Tryz.func97 rfl (by kernel_rfl) (Nat.le_of_ble_eq_true rfl) ?_;refine zf zc [] rfl ?_;iterate 2 refine yc rfl rfl ?_
 refine zb ?_;refine zf zc [] rfl ?_;refine za rfl ?_;first | refine za rfl ?_ | refine zd rfl rfl zj ?_ | refine ze rfl rfl rfl zj ?_
 refine za rfl ?_;refine zb ?_;refine zn ?_;refine zf zc [] rfl ?_;refine za rfl ?_;refine zb ?_;refine y8 rfl ?_;refine zo ?_;refine zn ?_;refine zf zc [] rfl ?_;iterate 3 refine za rfl ?_
 refine zb ?_;refine zm rfl (fun hc1=>?_) (fun hc1=>?_)
 ·(try simp only [zh] at hc1);omega
 ·(try simp only [zh] at hc1)
  refine zo ?_;refine zf zc [] rfl ?_;iterate 3 refine za rfl ?_
  refine yu (a:=((X ++ [t]).length : Nat)) (b:=1) rfl rfl z8 ?_;refine z9 (m:=X.length) rfl rfl rfl rfl rfl (show (((X ++ [t]).length : Nat) : Int) - 1 = _ by rw [hl];omega) (by rw [hl];omega) ?_;refine zd rfl rfl (z6 cStr (m:=X.length) (zhq X t) (by decide) rfl) ?_;refine za rfl ?_;refine zb ?_;refine zn ?_;refine zf zc [] rfl ?_;refine za rfl ?_;refine zb ?_;refine y8 rfl ?_;refine sc zc [46] [_,_,_,_,_,_,_] ([.c (rxC ⟨win,w,hh,text,past,X ++ [t],cur,anc,top,left,cop,cnt,asked⟩),.c zRx]) [true,false,false,true,false,false,false] rfl yj yj yj (by repeat' first | exact x5 | refine x8 ?_ | refine xe ?_) ?_;refine zi5 rfl rfl (by repeat' first | exact x5 | refine x8 ?_ | refine xe ?_) ?_;refine yx rfl ?_;first | refine yx rfl ?_ | refine VD.loadI rfl rfl zj ?_
  refine' zi6 rfl rfl (mAppS rfl rfl rfl rfl (tt cStr (l:=past) rfl rfl rfl rfl) rfl ?h1 ?h2 ?h3 ?h4 (wh _ _)) ?h9 ?_
  case h1=>rfl
  case h2=>exact Nat.le_trans (Nat.mul_le_mul_right _ (show 0 + past.length≤1000 by omega)) (by decide)
  case h3=>show 0 + past.length≤_;omega
  case h4=>rw [ye];rfl
  case h9=>exact xe (xe x5)
  refine yx rfl ?_;first | refine yx rfl ?_ | refine VD.loadI rfl rfl zj ?_
  refine zbu rfl ?_;refine qj ?_;refine' zdx rfl rfl (mAppS (ys:=encL cStr [text]) (n2:=1) rfl rfl rfl rfl ?h0 ?h5 ?h1 ?h2 ?h3 ?h4 (wh _ _)) ?_
  case h0=>exact tt cStr (l:=[text]) rfl rfl rfl rfl
  case h5=>rfl
  case h1=>rw [Nat.zero_add];exact (Nat.mul_one _).trans hll.symm
  case h2=>exact Nat.le_trans (Nat.mul_le_mul_right _ (show 0 + past.length + 1≤1000 by omega)) (by decide)
  case h3=>show 0 + past.length + 1≤_;omega
  case h4=>rfl
  refine za rfl ?_;refine zk rfl rfl rfl rfl rfl yh rfl ?_;refine zb ?_;refine xr ([(2,.ptr 0 0),(4,.ptr 1 0),(6,strT t)]) ([.c (rxC ⟨win,w,hh,text,past ++ [text],X ++ [t],cur,anc,top,left,cop,cnt,asked⟩),.c zRx]) [] rfl (by refine ⟨[some 0,some 1],rfl,yo,yn,?_,?_⟩ <;> (repeat' first | exact trivial | exact ym | exact yq | exact yp rfl | refine yb ?_ ?_ | refine z4 rfl ?_ ?_ | refine zx ?_ ?_ | refine yk rfl ?_ | fail) <;> first | exact xd | (first | exact CvL.pure rfl | exact CvL.rx (x:=⟨win,w,hh,text,past,X ++ [t],cur,anc,top,left,cop,cnt,asked⟩) (Cv.fslcE (by simp) ⟨rfl,by show (some 4 : Option Nat)∉[some 0,some 1];decide⟩ (CvL.eq (by rw [yr];rfl) (zp _ _))) (Cv.pure (vg _ _ _)) | exact Cv.pure (vg _ _ _) | exact Cv.pure rfl)) ?_
  refine zw zc [] rfl ?_;refine za rfl ?_;first | refine za rfl ?_ | refine zd rfl rfl zj ?_ | refine ze rfl rfl rfl zj ?_
  refine za rfl ?_;first | refine za rfl ?_ | refine zd rfl rfl zj ?_ | refine ze rfl rfl rfl zj ?_
  refine za rfl ?_;refine yu (a:=((X ++ [t]).length : Nat)) (b:=1) rfl rfl z8 ?_;refine zbq (r:=X.length) rfl rfl rfl rfl rfl (show (((X ++ [t]).length : Nat) : Int) - 1 = _ by rw [hl];omega) (by rw [hl];omega) ?_;refine za rfl ?_;refine zk rfl rfl rfl rfl rfl yh rfl ?_;refine zb ?_;refine zf zc [] rfl ?_;iterate 2 refine za rfl ?_
  refine zk rfl rfl rfl rfl rfl yh rfl ?_;refine zb ?_;refine zf zc [] rfl ?_;refine za rfl ?_;first | refine za rfl ?_ | refine zd rfl rfl zj ?_ | refine ze rfl rfl rfl zj ?_
  refine za rfl ?_;refine za (t:=I64 (t.length : Nat)) rfl ?_;refine zi rfl rfl rfl (hle) ?_;refine za rfl ?_;refine zk rfl rfl rfl rfl rfl yh rfl ?_;refine zb ?_;refine zf zc [] rfl ?_;refine za rfl ?_;first | refine za rfl ?_ | refine zd rfl rfl zj ?_ | refine ze rfl rfl rfl zj ?_
  refine za rfl ?_;refine zk rfl rfl rfl rfl rfl yh rfl ?_;refine zb ?_;refine zf zc [] rfl ?_;first | refine za rfl ?_ | refine zd rfl rfl zj ?_ | refine ze rfl rfl rfl zj ?_
  refine zk rfl rfl rfl rfl rfl yh rfl ?_;refine zb ?_;refine zq ?_;exact ⟨trivial,_,rfl,Cv.agg (CvL.rx (x:=⟨win,w,hh,t,past ++ [text],X,min cur t.length,min cur t.length,top,left,cop,cnt,asked⟩) (Cv.pure (vg _ _ _)) (by show Cv _ (.islc (encL cStr (X ++ [t])) _ _) _;rw [yr];exact Cv.islcT (CvL.pure (zp cStr X)) (.inl rfl)))⟩
end

section
open Go.RowKit
set_option maxRecDepth 100000
set_option maxHeartbeats 1000000
theorem zfo (e : Ed) (hw : e.W) (n : List Int) (hl : 6≤n.length) : CallP Tryz.prog 64 [rxT e.R,cIf n] (rqT (e.givR n)):=by
 have hpx:=yd e.R
 have hpn:=zp cI n
 have hcop:=hw.o.cop
 unfold Ed.givR
 refine CallP.intro2 z5 z5 ?_;refine CallT.intro zc Tryz.func64 rfl (by kernel_rfl) (Nat.le_of_ble_eq_true rfl) ?_;refine zf zc [2] rfl ?_;refine ya rfl rfl ?_;refine za rfl ?_;refine zb ?_;refine zf zc [] rfl ?_;refine za rfl ?_;refine z9 (m:=4) rfl rfl rfl rfl rfl rfl z8 ?_;refine zd rfl rfl (z6 cI (m:=4) (getE z8) (by decide) rfl) ?_;refine za rfl ?_;refine zb ?_;refine zf zc [] rfl ?_;refine za rfl ?_;refine zb ?_;refine zn ?_;refine zf zc [] rfl ?_;refine za rfl ?_;refine z9 (m:=2) rfl rfl rfl rfl rfl rfl z8 ?_;refine zd rfl rfl (z6 cI (m:=2) (getE z8) (by decide) rfl) ?_;iterate 2 refine za rfl ?_
 refine' zu (d:=21) [_,_,_,_,_] rfl ?_ rfl ?_
 rotate_left
 ·refine zt rfl rfl (fun hb3_4=>?_) (fun hb3_4=>?_)
  ·have ghb3_4:=hb3_4
   try simp only [zh,Bool.not_true,Bool.not_false] at ghb3_4
   refine za rfl ?_;refine zg rfl rfl hb3_4 ?_;refine z9 (m:=3) rfl rfl rfl rfl rfl rfl z8 ?_;refine zg rfl rfl hb3_4 ?_;refine zd rfl rfl (z6 cI (m:=3) (getE z8) (by decide) rfl) ?_;refine zg rfl rfl hb3_4 ?_;refine za rfl ?_;refine z3 rfl (fun _=>rfl) ?_;exact zb ⟨rfl,rfl⟩
  ·refine zl rfl rfl hb3_4 ?_;iterate 2 refine zl rfl rfl hb3_4 ?_
   exact z3 rfl (fun h=>absurd (h.symm.trans hb3_4) (by decide)) (zb ⟨rfl,rfl⟩)
 refine za rfl ?_;refine' zu (d:=25) [_,_,_] rfl ?_ rfl ?_
 rotate_left
 ·refine zt rfl rfl (fun hb3_10=>?_) (fun hb3_10=>?_)
  ·have ghb3_10:=hb3_10
   try simp only [zh,Bool.not_true,Bool.not_false] at ghb3_10
   refine za rfl ?_;refine zg rfl rfl hb3_10 ?_;refine za rfl ?_;refine z3 rfl (fun _=>rfl) ?_;exact zb ⟨rfl,rfl⟩
  ·refine zl rfl rfl hb3_10 ?_;exact z3 rfl (fun h=>absurd (h.symm.trans hb3_10) (by decide)) (zb ⟨rfl,rfl⟩)
 refine za rfl ?_;refine' zu (d:=30) [_,_,_,_] rfl ?_ rfl ?_
 rotate_left
 ·refine zt rfl rfl (fun hb3_14=>?_) (fun hb3_14=>?_)
  ·have ghb3_14:=hb3_14
   try simp only [zh,Bool.not_true,Bool.not_false] at ghb3_14
   refine za rfl ?_;refine zg rfl rfl hb3_14 ?_;first | refine za rfl ?_ | refine zd rfl rfl zj ?_ | refine ze rfl rfl rfl zj ?_
   refine zg rfl rfl hb3_14 ?_;refine s7 (a:=e.c.cop) (b:=[]) rfl rfl ?_;refine z3 rfl (fun _=>rfl) ?_;exact zb ⟨rfl,rfl⟩
  ·refine zl rfl rfl hb3_14 ?_;refine zl rfl rfl hb3_14 ?_;exact z3 rfl (fun h=>absurd (h.symm.trans hb3_14) (by decide)) (zb ⟨rfl,rfl⟩)
 refine zb ?_;refine zm rfl (fun hc0=>?_) (fun hc0=>?_)
 ·(try simp only [zh] at hc0);rw [if_pos ⟨hc0.1.1.1,hc0.1.1.2,hc0.1.2,hc0.2⟩]
  refine zf zc [] rfl ?_;refine za rfl ?_;refine zb ?_;refine zn ?_;refine zf zc [] rfl ?_;refine za rfl ?_;refine zb ?_;refine yf ?_;refine yy (σ:=Nat) (fun i=>e.c.cop.length - i) (fun i=>i≤e.c.cop.length) (fun i=>[(8,I64 (i : Nat)),(7,.slc 0 0 i 1 none)]) (fun i=>[.c (encL cI ((e.c.cop.take i).map fun b=>(b.toNat : Int)))]) [1,2,5,6] rfl (0) ?_ ?_ ?_
  ·refine ⟨[none],rfl,yo,yn,?_,?_⟩ <;> (repeat' first | exact trivial | exact ym | exact yq | exact yp rfl | refine yb ?_ ?_ | refine z4 rfl ?_ ?_ | refine zx ?_ ?_ | refine yk rfl ?_ | fail) <;> first | exact xd | (first | exact CvL.pure hpx | exact CvL.pure rfl | exact Cv.pure (by simp only [T.pure,hpn]))
  ·(try dsimp only);omega
  rintro i hi;refine zn ?_;refine zf zc [] rfl ?_;iterate 2 refine za rfl ?_
  first | refine za rfl ?_ | refine zd rfl rfl zj ?_ | refine ze rfl rfl rfl zj ?_
  refine za (t:=I64 (e.c.cop.length : Nat)) rfl ?_;refine za rfl ?_;refine zb ?_;refine zm rfl (fun hc1=>?_) (fun hc1=>?_)
  ·(try simp only [zh] at hc1);have hil : i < e.c.cop.length:=(by omega);have hat : e.c.cop[i]? = some (e.c.cop[i]?.getD 0):=(by rw [List.getElem?_eq_getElem hil];rfl);have hbt:=(e.c.cop[i]?.getD 0).toNat_lt;have hsn : (e.c.cop.take (i + 1)).map (fun b=>(b.toNat : Int)) = (e.c.cop.take i).map (fun b=>(b.toNat : Int)) ++ [((e.c.cop[i]?.getD 0).toNat : Int)]:=(by rw [List.take_add_one,List.map_append,hat];rfl);have hml : ((e.c.cop.take i).map (fun b=>(b.toNat : Int))).length = i:=(by rw [List.length_map,List.length_take];omega)
   refine zo ?_;refine zn ?_;refine yf ?_;refine zw zc [44] rfl ?_;iterate 2 refine za rfl ?_
   first | refine za rfl ?_ | refine zd rfl rfl zj ?_ | refine ze rfl rfl rfl zj ?_
   refine za rfl ?_;refine xw rfl rfl rfl rfl rfl hat ?_;refine za (t:=I64 (e.c.cop[i]?.getD 0).toNat) (by show some (T.v (.int .i64 (IntKind.i64.wrap ((e.c.cop[i]?.getD 0).toNat : Int))),(none : Option (Nat × List T))) = _;rw [wq z8]) ?_;refine ya rfl rfl ?_;refine' yw rfl rfl rfl rfl rfl rfl rfl rfl ?h1 ?h2 ?h3 ?h4 ?h5 ?_
   case h1=>rw [ye,t8,hml];(try dsimp only);omega
   case h2=>exact Nat.le_trans (Nat.mul_le_mul_right _ (show _≤10000 by omega)) (by decide)
   case h3=>omega
   case h4=>rfl
   case h5=>rfl
   refine za rfl ?_;refine zb ?_;refine zw zc [] rfl ?_;refine za rfl ?_;first | refine zy rfl rfl (by omega) ?_ | refine za rfl ?_
   refine za rfl ?_;refine zb ?_;refine ⟨i + 1,by (try dsimp only);omega,?_,(by refine ⟨[some 1],rfl,yo,yn,?_,?_⟩ <;> (repeat' first | exact trivial | exact ym | exact yq | exact yp rfl | refine yb ?_ ?_ | refine z4 rfl ?_ ?_ | refine zx ?_ ?_ | refine yk rfl ?_ | fail) <;> first | exact xd | (first | exact CvL.pure hpx | exact Cv.pure (by simp only [T.pure,hpn]) | exact Cv.slc rfl (.inl rfl) | exact CvL.eq (by rw [hsn,yr,List.drop_zero,List.take_of_length_le (by rw [ye,t8,hml];exact Nat.le_refl _)];rfl) (zp _ _)))⟩
   (try dsimp only);omega
  ·(try simp only [zh] at hc1);obtain rfl : i = e.c.cop.length:=(by omega);rw [List.take_length]
   refine yz ?_;refine zw zc [54] rfl ?_;iterate 2 refine za rfl ?_
   refine z9 (m:=1) rfl rfl rfl rfl rfl rfl z8 ?_;refine zd rfl rfl (z6 cI (m:=1) (getE z8) (by decide) rfl) ?_;refine za rfl ?_;refine yc rfl rfl ?_;iterate 2 refine za rfl ?_
   refine ya rfl rfl ?_;first | refine xb rfl rfl rfl rfl rfl rfl yh yh yh ?_ | refine yw rfl rfl rfl rfl rfl rfl rfl rfl yh yh yh yh yh ?_
   refine za rfl ?_;refine zb ?_;refine yv zc [76] [_,_,_,_,_,_,_,_,_,_,_,_,_,_,_,_,_,_,_,_,_] rfl yj yj ?_;iterate 2 refine za rfl ?_
   refine z9 (m:=1) rfl rfl rfl rfl rfl rfl z8 ?_;refine zd rfl rfl (z6 cI (m:=1) (getE z8) (by decide) rfl) ?_;refine yc rfl rfl ?_;refine za rfl ?_;refine z9 (m:=1) rfl rfl rfl rfl rfl rfl z8 ?_;refine zd rfl rfl (z6 cI (m:=1) (getE z8) (by decide) rfl) ?_;refine za rfl ?_;refine z9 (m:=2) rfl rfl rfl rfl rfl rfl z8 ?_;refine zd rfl rfl (z6 cI (m:=2) (getE z8) (by decide) rfl) ?_;refine za rfl ?_;refine z9 (m:=3) rfl rfl rfl rfl rfl rfl z8 ?_;refine zd rfl rfl (z6 cI (m:=3) (getE z8) (by decide) rfl) ?_;iterate 2 refine za rfl ?_
   refine z9 (m:=5) rfl rfl rfl rfl rfl rfl z8 ?_;refine zd rfl rfl (z6 cI (m:=5) (getE z8) (by decide) rfl) ?_;refine yc rfl rfl ?_;refine za rfl ?_;refine ya rfl rfl ?_;refine zb ?_;first | refine xb rfl rfl rfl rfl rfl rfl yh yh yh ?_ | refine yw rfl rfl rfl rfl rfl rfl rfl rfl yh yh yh yh yh ?_
   refine za rfl ?_;refine zb ?_;refine zq ?_;refine ⟨trivial,_,rfl,Cv.fslc0 (cs:=[_,_,_,_,_,_,_,_]) ⟨rfl,by simp⟩ ?_⟩;repeat' first | exact CvL.nil | refine CvL.cons ?_ ?_ | exact Cv.nil _ (.inl rfl) | exact Cv.fslcE (by simp) ⟨rfl,by simp⟩ (CvL.pure (zp _ _)) | exact Cv.fslc0 ⟨rfl,by simp⟩ xq | refine Cv.islc ?_ (.inr rfl) | exact Cv.pure zbo
 ·(try simp only [zh] at hc0);rw [if_neg (fun h=>absurd h.2.2.2 (by have:=hc0 ⟨⟨h.1,h.2.1⟩,h.2.2.1⟩;simpa using this))]
  refine zw zc [] rfl ?_;refine za rfl ?_;refine zb ?_;refine yv zc [76] [_,_,_,_,_,_,_,_,_,_,_,_,_,_,_,_,_,_,_,_,_] rfl yj yj ?_;iterate 2 refine za rfl ?_
  refine z9 (m:=1) rfl rfl rfl rfl rfl rfl z8 ?_;refine zd rfl rfl (z6 cI (m:=1) (getE z8) (by decide) rfl) ?_;refine yc rfl rfl ?_;refine za rfl ?_;refine z9 (m:=1) rfl rfl rfl rfl rfl rfl z8 ?_;refine zd rfl rfl (z6 cI (m:=1) (getE z8) (by decide) rfl) ?_;refine za rfl ?_;refine z9 (m:=2) rfl rfl rfl rfl rfl rfl z8 ?_;refine zd rfl rfl (z6 cI (m:=2) (getE z8) (by decide) rfl) ?_;refine za rfl ?_;refine z9 (m:=3) rfl rfl rfl rfl rfl rfl z8 ?_;refine zd rfl rfl (z6 cI (m:=3) (getE z8) (by decide) rfl) ?_;iterate 2 refine za rfl ?_
  refine z9 (m:=5) rfl rfl rfl rfl rfl rfl z8 ?_;refine zd rfl rfl (z6 cI (m:=5) (getE z8) (by decide) rfl) ?_;refine yc rfl rfl ?_;refine za rfl ?_;refine ya rfl rfl ?_;refine zb ?_;first | refine xb rfl rfl rfl rfl rfl rfl yh yh yh ?_ | refine yw rfl rfl rfl rfl rfl rfl rfl rfl yh yh yh yh yh ?_
  refine za rfl ?_;refine zb ?_;refine zq ?_;refine ⟨trivial,_,rfl,Cv.fslc0 (cs:=[_,_,_,_]) ⟨rfl,by simp⟩ ?_⟩;exact xq
def Ec.few (c : Ec) : Prop:=c.bf.past.length + c.bf.fut.length≤256
theorem R_undo (e : Ed) (ok : e.c.Ok) (hf : e.c.few) : ∀ (l : List BSt) (o : BSt),e.c.bf.past = l ++ [o]→
  e.R.past = (pX l.reverse (unT e.c.bf.text o)).reverse ++ [unT e.c.bf.text o]∧
  (e.wc (e.c.back e.c.bf.undo)).R = { e.R with past:=(pX l.reverse (unT e.c.bf.text o)).reverse,again:=e.R.again ++ [e.R.text],text:=unT e.c.bf.text o,cur:=min e.R.cur (unT e.c.bf.text o).length,anc:=min e.R.cur (unT e.c.bf.text o).length }:=by
 intro l o h
 have hu:=ok.bf.u
 rw [h,List.reverse_append,List.reverse_singleton,List.singleton_append] at hu
 have h3:=hu.2.2.1
 unfold Ec.few at hf
 rw [h,List.length_append,List.length_singleton] at hf
 constructor
 ·show (pX e.c.bf.past.reverse e.c.bf.text).reverse = _
  rw [h,List.reverse_append,List.reverse_singleton,List.singleton_append]
  show (unT e.c.bf.text o :: pX l.reverse (unT e.c.bf.text o)).reverse = _
  rw [List.reverse_cons]
 ·have e1 : e.c.bf.undo = (⟨l,e.c.bf.fut ++ [o],unT e.c.bf.text o⟩,true):=by
   unfold Bf.undo
   rw [h]
   simp only [List.getLast?_append,List.getLast?_singleton,Option.some_or,List.dropLast_concat,qr (show e.c.bf.fut.length < 256 by omega)]
   rfl
  have e2 : (fX (e.c.bf.fut ++ [o]).reverse (unT e.c.bf.text o)).reverse = (fX e.c.bf.fut.reverse e.c.bf.text).reverse ++ [e.c.bf.text]:=by
   rw [List.reverse_append,List.reverse_singleton,List.singleton_append]
   show (reT (unT e.c.bf.text o) o :: fX e.c.bf.fut.reverse (reT (unT e.c.bf.text o) o)).reverse = _
   rw [h3,List.reverse_cons]
  rw [e1]
  show (⟨e.win,e.w,e.h,unT e.c.bf.text o,(pX l.reverse (unT e.c.bf.text o)).reverse,(fX (e.c.bf.fut ++ [o]).reverse (unT e.c.bf.text o)).reverse,min e.c.cur (unT e.c.bf.text o).length,min e.c.cur (unT e.c.bf.text o).length,e.top,e.left,e.c.cop,e.cnt,e.asked⟩ : Rx) = _
  rw [e2]
  rfl
theorem R_redo (e : Ed) (ok : e.c.Ok) (hf : e.c.few) : ∀ (l : List BSt) (o : BSt),e.c.bf.fut = l ++ [o]→
  e.R.again = (fX l.reverse (reT e.c.bf.text o)).reverse ++ [reT e.c.bf.text o]∧
  (e.wc (e.c.back e.c.bf.redo)).R = { e.R with again:=(fX l.reverse (reT e.c.bf.text o)).reverse,past:=e.R.past ++ [e.R.text],text:=reT e.c.bf.text o,cur:=min e.R.cur (reT e.c.bf.text o).length,anc:=min e.R.cur (reT e.c.bf.text o).length }:=by
 intro l o h
 have hu:=ok.bf.f
 rw [h,List.reverse_append,List.reverse_singleton,List.singleton_append] at hu
 have h3:=hu.2.2.1
 unfold Ec.few at hf
 rw [h,List.length_append,List.length_singleton] at hf
 constructor
 ·show (fX e.c.bf.fut.reverse e.c.bf.text).reverse = _
  rw [h,List.reverse_append,List.reverse_singleton,List.singleton_append]
  show (reT e.c.bf.text o :: fX l.reverse (reT e.c.bf.text o)).reverse = _
  rw [List.reverse_cons]
 ·have e1 : e.c.bf.redo = (⟨e.c.bf.past ++ [o],l,reT e.c.bf.text o⟩,true):=by
   unfold Bf.redo
   rw [h]
   simp only [List.getLast?_append,List.getLast?_singleton,Option.some_or,List.dropLast_concat,qr (show e.c.bf.past.length < 256 by omega)]
   rfl
  have e2 : (pX (e.c.bf.past ++ [o]).reverse (reT e.c.bf.text o)).reverse = (pX e.c.bf.past.reverse e.c.bf.text).reverse ++ [e.c.bf.text]:=by
   rw [List.reverse_append,List.reverse_singleton,List.singleton_append]
   show (unT (reT e.c.bf.text o) o :: pX e.c.bf.past.reverse (unT (reT e.c.bf.text o) o)).reverse = _
   rw [h3,List.reverse_cons]
  rw [e1]
  show (⟨e.win,e.w,e.h,reT e.c.bf.text o,(pX (e.c.bf.past ++ [o]).reverse (reT e.c.bf.text o)).reverse,(fX l.reverse (reT e.c.bf.text o)).reverse,min e.c.cur (reT e.c.bf.text o).length,min e.c.cur (reT e.c.bf.text o).length,e.top,e.left,e.c.cop,e.cnt,e.asked⟩ : Rx) = _
  rw [e2]
  rfl
theorem zdy (e : Ed) : e.R.again.length = e.c.bf.fut.length:=by show (fX _ _).reverse.length = _;rw [List.length_reverse,zh0,List.length_reverse]
theorem tf {α : Type} (l : List α) : l = []∨∃ m a,l = m ++ [a]:=by
 rcases List.eq_nil_or_concat l with h | ⟨m,a,h⟩
 ·exact .inl h
 ·exact .inr ⟨m,a,by rw [h,List.concat_eq_append]⟩
theorem zjd (e : Ed) (ok : e.c.Ok) (hf : e.c.few) : CallP Tryz.prog 97 [rxT e.R,BL true] (rxT (e.wc (e.c.back e.c.bf.undo)).R):=by
 have h1:=ok.cur
 have h2:=ok.bf.len
 rcases tf e.c.bf.past with h | ⟨l,o,h⟩
 ·have e1 : e.c.back e.c.bf.undo = e.c:=by unfold Bf.undo;rw [h];rfl
  rw [e1]
  exact zcz e.R true (by show e.R.past = [];show (pX e.c.bf.past.reverse _).reverse = _;rw [h];rfl)
 ·obtain ⟨g1,g2⟩:=R_undo e ok hf l o h
  rw [g2]
  have hf2:=hf
  unfold Ec.few at hf2
  rw [h,List.length_append,List.length_singleton] at hf2
  have hu:=ok.bf.u
  rw [h,List.reverse_append,List.reverse_singleton,List.singleton_append] at hu
  have h9:=za3 hu.2.2.2
  exact ziw e.R _ _ g1 (by rw [zdy];omega) (by rw [List.length_reverse,zb8,List.length_reverse];omega) (by omega) (by show e.c.cur≤_;omega)
theorem zjr (e : Ed) (ok : e.c.Ok) (hf : e.c.few) : CallP Tryz.prog 97 [rxT e.R,BL false] (rxT (e.wc (e.c.back e.c.bf.redo)).R):=by
 have h1:=ok.cur
 have h2:=ok.bf.len
 rcases tf e.c.bf.fut with h | ⟨l,o,h⟩
 ·have e1 : e.c.back e.c.bf.redo = e.c:=by unfold Bf.redo;rw [h];rfl
  rw [e1]
  exact zcz e.R false (by show e.R.again = [];show (fX e.c.bf.fut.reverse _).reverse = _;rw [h];rfl)
 ·obtain ⟨g1,g2⟩:=R_redo e ok hf l o h
  rw [g2]
  have hf2:=hf
  unfold Ec.few at hf2
  rw [h,List.length_append,List.length_singleton] at hf2
  have hu:=ok.bf.f
  rw [h,List.reverse_append,List.reverse_singleton,List.singleton_append] at hu
  have h9:=zdc hu.2.2.2
  exact zix e.R _ _ g1 (by rw [tp];omega) (by rw [List.length_reverse,zh0,List.length_reverse];omega) (by omega) (by show e.c.cur≤_;omega)
end

section
open Go.RowKit
set_option maxRecDepth 100000
set_option maxHeartbeats 1000000
theorem zho {code mods : Int} {b : UInt8} (h : letN code mods = some b) : letJ code mods = (b.toNat : Int)∧0≤mods∧mods≤1:=by
 unfold letN at h
 split at h
 ·cases h
 ·injection h with h
  rename_i hc
  subst h
  have hb : ∀ v : Int,0≤v→v < 256→v = ((UInt8.ofNat v.toNat).toNat : Int):=fun v h1 h2=>by rw [UInt8.toNat_ofNat'];omega
  unfold letJ
  rw [if_neg (by omega)]
  refine ⟨?_,by omega,by omega⟩
  split
  ·exact hb _ (by omega) (by omega)
  ·exact hb _ (by omega) (by omega)
theorem zce {code mods : Int} (h0 : 0≤mods) (h : letN code mods = none) : letJ code mods = -1:=by
 unfold letN at h
 split at h
 ·unfold letJ;rw [if_pos (by omega)]
 ·cases h
def rqN : List Rq→T
 | []=>NIL
 | r :: l=>rqT (r :: l)
theorem ui (l : List Rq) : (rqN l).pure = true:=by
 cases l with
 | nil=>rfl
 | cons r l=>show (rqT (r :: l)).pure = true;simp only [T.pure,zp]
abbrev KeyP (e : Ed) (code mods time : Int) : Prop:=CallP Tryz.prog 61 [rxT e.R,I64 code,I64 mods,I64 time] (.tup [rxT (e.wc (e.c.key code mods)).R,rqN (e.keyR code mods time)])
theorem out55 {v : Vw} {cs : List T} {x : Rx} (h : cs = rxC x) : Cv v (.tup [.agg cs,NIL]) (.tup [rxT x,rqN []]):=by
 subst h
 exact Cv.tup (CvL.cons (Cv.pure (yd x)) (CvL.cons (Cv.pure rfl) CvL.nil))
theorem zhr (e : Ed) (ok : e.c.Ok) (code mods time : Int) (b : UInt8) (h : letN code mods = some b) : KeyP e code mods time:=by
 have hpx:=yd e.R
 obtain ⟨h1,h2,h3⟩:=zho h
 have hle:=ub code mods
 rw [h1] at hle
 have hbt:=b.toNat_lt
 have hin:=rv e ok [b] (by simp) (by simp)
 have e1 : e.c.key code mods = e.c.put [b]:=by unfold Ec.key;rw [if_neg (by omega),if_neg (by omega),h]
 have e2 : e.keyR code mods time = []:=by unfold Ed.keyR;rw [if_neg (by omega)]
 have hqN:=ui
 show CallP _ _ _ _
 rw [e1,e2]
 have hpx2:=yd (e.wc (e.c.put [b])).R
 refine CallP.intro2 z5 z5 ?_;refine CallT.intro zc Tryz.func61 rfl (by kernel_rfl) (Nat.le_of_ble_eq_true rfl) ?_;refine zf zc [] rfl ?_;iterate 2 refine yc rfl rfl ?_
 refine za rfl ?_;refine zb ?_;refine zn ?_;refine zf zc [] rfl ?_;iterate 2 refine za rfl ?_
 refine zi rfl rfl rfl (hle) ?_;refine za rfl ?_;refine zb ?_;refine zf zc [] rfl ?_;iterate 2 refine za rfl ?_
 refine zb ?_;refine zm rfl (fun hc0=>?_) (fun hc0=>?_)
 ·(try simp only [zh] at hc0)
  refine zf zc [22] rfl ?_;first | refine za rfl ?_ | refine zd rfl rfl zj ?_ | refine ze rfl rfl rfl zj ?_
  refine za rfl ?_;refine za (t:=U8 (b.toNat : Nat)) (by show some (T.v (.int .u8 (IntKind.u8.wrap (b.toNat : Int))),(none : Option (Nat × List T))) = _;rw [wrapU z8]) ?_;refine ya rfl rfl ?_;first | refine t9 (xs:=[b]) rfl rfl rfl rfl rfl rfl rfl (Nat.le_of_ble_eq_true rfl) rfl ?_ | refine vf (xs:=[b]) rfl rfl rfl rfl rfl rfl rfl rfl (Nat.le_of_ble_eq_true rfl) rfl ?_
  refine zi rfl rfl rfl (hin) ?_;refine zk rfl rfl rfl rfl rfl yh rfl ?_;refine za rfl ?_;refine zb ?_;refine zq ?_;exact ⟨trivial,_,rfl,out55 rfl⟩
 ·(try simp only [zh] at hc0);omega
theorem zj7 (e : Ed) (ok : e.c.Ok) (code mods time : Int) (k : Nat) (hm : mods = 0∨mods = 1) (h : letN code mods = none) (hg : e.c.goes code = some k) : KeyP e code mods time:=by
 have hpx:=yd e.R
 have hle:=ub code mods
 rw [zce (by omega) h] at hle
 have hmo:=sw e ok code
 rw [show movI e.c code = (k : Int) by unfold movI;rw [hg]] at hmo
 have e1 : e.c.key code mods = if mods = 0 then { e.c with cur:=k,anc:=k } else { e.c with cur:=k }:=by unfold Ec.key;rw [if_neg (by omega),if_neg (by omega),h,hg]
 have e2 : e.keyR code mods time = []:=by unfold Ed.keyR;rw [if_neg (by omega)]
 have hqN:=ui
 show CallP _ _ _ _
 rw [e1,e2]
 refine CallP.intro2 z5 z5 ?_;refine CallT.intro zc Tryz.func61 rfl (by kernel_rfl) (Nat.le_of_ble_eq_true rfl) ?_;refine zf zc [] rfl ?_;iterate 2 refine yc rfl rfl ?_
 refine za rfl ?_;refine zb ?_;refine zn ?_;refine zf zc [] rfl ?_;iterate 2 refine za rfl ?_
 refine zi rfl rfl rfl (hle) ?_;refine za rfl ?_;refine zb ?_;refine zf zc [] rfl ?_;iterate 2 refine za rfl ?_
 refine zb ?_;refine zm rfl (fun hc0=>?_) (fun hc0=>?_)
 ·(try simp only [zh] at hc0);omega
 ·(try simp only [zh] at hc0)
  refine zo ?_;refine zn ?_;refine zf zc [] rfl ?_;first | refine za rfl ?_ | refine zd rfl rfl zj ?_ | refine ze rfl rfl rfl zj ?_
  refine za rfl ?_;refine zi rfl rfl rfl (hmo) ?_;refine za rfl ?_;refine zb ?_;refine zf zc [] rfl ?_;iterate 3 refine za rfl ?_
  refine' zu (d:=33) [_,_,_] rfl ?_ rfl ?_
  rotate_left
  ·refine zt rfl rfl (fun hb5_2=>?_) (fun hb5_2=>?_)
   ·have ghb5_2:=hb5_2
    try simp only [zh,Bool.not_true,Bool.not_false] at ghb5_2
    refine za rfl ?_;refine zg rfl rfl hb5_2 ?_;refine za rfl ?_;refine z3 rfl (fun _=>rfl) ?_;exact zb ⟨rfl,rfl⟩
   ·refine zl rfl rfl hb5_2 ?_;exact z3 rfl (fun h=>absurd (h.symm.trans hb5_2) (by decide)) (zb ⟨rfl,rfl⟩)
  refine zb ?_;refine zm rfl (fun hc1=>?_) (fun hc1=>?_)
  ·(try simp only [zh] at hc1)
   refine zf zc [] rfl ?_;iterate 2 refine za rfl ?_
   refine zk rfl rfl rfl rfl rfl yh rfl ?_;refine zb ?_;refine zn ?_;refine zf zc [] rfl ?_;iterate 2 refine za rfl ?_
   refine zb ?_;refine zm rfl (fun hc2=>?_) (fun hc2=>?_)
   ·(try simp only [zh] at hc2);rw [if_pos hc2]
    refine zw zc [] rfl ?_;iterate 2 refine za rfl ?_
    refine zk rfl rfl rfl rfl rfl yh rfl ?_;refine zb ?_;refine zf zc [] rfl ?_;first | refine za rfl ?_ | refine zd rfl rfl zj ?_ | refine ze rfl rfl rfl zj ?_
    refine zk rfl rfl rfl rfl rfl yh rfl ?_;refine za rfl ?_;refine zb ?_;refine zq ?_;exact ⟨trivial,_,rfl,out55 rfl⟩
   ·(try simp only [zh] at hc2);rw [if_neg hc2]
    refine zo ?_;refine zf zc [] rfl ?_;first | refine za rfl ?_ | refine zd rfl rfl zj ?_ | refine ze rfl rfl rfl zj ?_
    refine zk rfl rfl rfl rfl rfl yh rfl ?_;refine za rfl ?_;refine zb ?_;refine zq ?_;exact ⟨trivial,_,rfl,out55 rfl⟩
  ·(try simp only [zh] at hc1);omega
theorem zhu (e : Ed) (ok : e.c.Ok) (code mods time : Int) (h1 : 1 < mods) (h4 : mods≠4) : KeyP e code mods time:=by
 have hpx:=yd e.R
 have hle:=ub code mods
 rw [show letJ code mods = -1 by unfold letJ;rw [if_pos (by omega)]] at hle
 have hmo:=sw e ok code
 have e1 : e.c.key code mods = e.c:=by unfold Ec.key;rw [if_neg h4,if_pos h1]
 have e2 : e.keyR code mods time = []:=by unfold Ed.keyR;rw [if_neg h4]
 have hqN:=ui
 show CallP _ _ _ _
 rw [e1,e2]
 generalize movI e.c code = g at *
 refine CallP.intro2 z5 z5 ?_;refine CallT.intro zc Tryz.func61 rfl (by kernel_rfl) (Nat.le_of_ble_eq_true rfl) ?_;refine zf zc [] rfl ?_;iterate 2 refine yc rfl rfl ?_
 refine za rfl ?_;refine zb ?_;refine zn ?_;refine zf zc [] rfl ?_;iterate 2 refine za rfl ?_
 refine zi rfl rfl rfl (hle) ?_;refine za rfl ?_;refine zb ?_;refine zf zc [] rfl ?_;iterate 2 refine za rfl ?_
 refine zb ?_;refine zm rfl (fun hc0=>?_) (fun hc0=>?_)
 ·(try simp only [zh] at hc0);omega
 ·(try simp only [zh] at hc0)
  refine zo ?_;refine zn ?_;refine zf zc [] rfl ?_;first | refine za rfl ?_ | refine zd rfl rfl zj ?_ | refine ze rfl rfl rfl zj ?_
  refine za rfl ?_;refine zi rfl rfl rfl (hmo) ?_;refine za rfl ?_;refine zb ?_;refine zf zc [] rfl ?_;iterate 3 refine za rfl ?_
  refine' zu (d:=33) [_,_,_] rfl ?_ rfl ?_
  rotate_left
  ·refine zt rfl rfl (fun hb5_2=>?_) (fun hb5_2=>?_)
   ·have ghb5_2:=hb5_2
    try simp only [zh,Bool.not_true,Bool.not_false] at ghb5_2
    refine za rfl ?_;refine zg rfl rfl hb5_2 ?_;refine za rfl ?_;refine z3 rfl (fun _=>rfl) ?_;exact zb ⟨rfl,rfl⟩
   ·refine zl rfl rfl hb5_2 ?_;exact z3 rfl (fun h=>absurd (h.symm.trans hb5_2) (by decide)) (zb ⟨rfl,rfl⟩)
  refine zb ?_;refine zm rfl (fun hc1=>?_) (fun hc1=>?_)
  ·(try simp only [zh] at hc1);omega
  ·(try simp only [zh] at hc1)
   refine zo ?_;refine yv zc [] [_,_,_,_,_,_,_,_,_,_,_,_] rfl yj yj ?_;refine za rfl ?_;first | refine za rfl ?_ | refine zd rfl rfl zj ?_ | refine ze rfl rfl rfl zj ?_
   refine za rfl ?_;first | refine za rfl ?_ | refine zd rfl rfl zj ?_ | refine ze rfl rfl rfl zj ?_
   refine zi rfl rfl rfl (w5 _ _) ?_;refine za rfl ?_;first | refine za rfl ?_ | refine zd rfl rfl zj ?_ | refine ze rfl rfl rfl zj ?_
   refine za rfl ?_;first | refine za rfl ?_ | refine zd rfl rfl zj ?_ | refine ze rfl rfl rfl zj ?_
   refine zi rfl rfl rfl (w4 _ _) ?_;iterate 2 refine za rfl ?_
   iterate 2 refine zb ?_
   refine zn ?_;refine zf zc [] rfl ?_;iterate 2 refine za rfl ?_
   refine zb ?_;refine zm rfl (fun hc3=>?_) (fun hc3=>?_)
   ·(try simp only [zh] at hc3);omega
   ·(try simp only [zh] at hc3)
    refine zo ?_;refine zn ?_;refine zf zc [] rfl ?_;iterate 2 refine za rfl ?_
    refine zb ?_;refine zm rfl (fun hc9=>?_) (fun hc9=>?_)
    ·(try simp only [zh] at hc9);omega
    ·(try simp only [zh] at hc9)
     refine zo ?_;refine zf zc [] rfl ?_;first | refine za rfl ?_ | refine zd rfl rfl zj ?_ | refine ze rfl rfl rfl zj ?_
     refine zk rfl rfl rfl rfl rfl yh rfl ?_;refine za rfl ?_;refine zb ?_;refine zq ?_;exact ⟨trivial,_,rfl,out55 rfl⟩
theorem zht (e : Ed) (ok : e.c.Ok) (hf : e.c.few) (code mods time : Int) (hm : mods = 4) : KeyP e code mods time:=by
 have hpx:=yd e.R
 have hlen:=ok.bf.len
 have hcu:=ok.cur
 have hle:=ub code mods
 rw [show letJ code mods = -1 by unfold letJ;rw [if_pos (by omega)]] at hle
 have hmo:=sw e ok code
 have hun:=zjd e ok hf
 have hre:=zjr e ok hf
 have hpu:=yd (e.wc (e.c.back e.c.bf.undo)).R
 have hpr:=yd (e.wc (e.c.back e.c.bf.redo)).R
 have e1 : e.c.key code mods = e.c.cmd code:=by unfold Ec.key;rw [if_pos hm]
 have e2 : e.keyR code mods time = e.cmdR code time:=by unfold Ed.keyR;rw [if_pos hm]
 have hll:=w5 (e.c.cur : Int) (e.c.anc : Int)
 have hhh:=w4 (e.c.cur : Int) (e.c.anc : Int)
 rw [show min (e.c.cur : Int) (e.c.anc : Int) = ((e.c.lo : Nat) : Int) by unfold Ec.lo;omega] at hll
 rw [show max (e.c.cur : Int) (e.c.anc : Int) = ((e.c.hi : Nat) : Int) by unfold Ec.hi;omega] at hhh
 have hhi : e.c.hi≤e.c.bf.text.length:=by unfold Ec.hi;omega
 have hqN:=ui
 show CallP _ _ _ _
 rw [e1,e2]
 have c1 : code = 122→e.c.cmd code = e.c.back e.c.bf.undo∧e.cmdR code time = []:=fun h=>by subst h;exact ⟨rfl,rfl⟩
 have c2 : code = 121→e.c.cmd code = e.c.back e.c.bf.redo∧e.cmdR code time = []:=fun h=>by subst h;exact ⟨rfl,rfl⟩
 have c3 : code = 97→e.c.cmd code = { e.c with anc:=0,cur:=e.c.bf.text.length }∧e.cmdR code time = []:=fun h=>by subst h;exact ⟨rfl,rfl⟩
 have c4 : code = 99→e.c.lo < e.c.hi→e.c.cmd code = { e.c with cop:=(e.c.bf.text.take e.c.hi).drop e.c.lo }∧e.cmdR code time = [⟨50,[e.win,3,time],[],[]⟩]:=fun h h2=>by subst h;exact ⟨show (if e.c.lo < e.c.hi then _ else _) = _ from if_pos h2,show (if e.c.lo < e.c.hi then _ else _) = _ from if_pos h2⟩
 have c5 : code = 99→¬ e.c.lo < e.c.hi→e.c.cmd code = e.c∧e.cmdR code time = []:=fun h h2=>by subst h;exact ⟨show (if e.c.lo < e.c.hi then _ else _) = _ from if_neg h2,show (if e.c.lo < e.c.hi then _ else _) = _ from if_neg h2⟩
 have c6 : code = 118→e.c.cmd code = e.c∧e.cmdR code time = [⟨52,[e.win,3,4,9,time],[],[]⟩]:=fun h=>by subst h;exact ⟨rfl,rfl⟩
 have c7 : ¬ code = 122→¬ code = 121→¬ code = 97→¬ code = 99→¬ code = 118→e.c.cmd code = e.c∧e.cmdR code time = []:=fun h1 h2 h3 h4 h5=>⟨by unfold Ec.cmd;rw [if_neg h1,if_neg h2,if_neg h3,if_neg h4],by unfold Ed.cmdR;rw [if_neg h4,if_neg h5]⟩
 generalize e.c.cmd code = c9 at *
 generalize e.cmdR code time = r9 at *
 generalize movI e.c code = g at *
 refine CallP.intro2 z5 z5 ?_;refine CallT.intro zc Tryz.func61 rfl (by kernel_rfl) (Nat.le_of_ble_eq_true rfl) ?_;refine zf zc [] rfl ?_;iterate 2 refine yc rfl rfl ?_
 refine za rfl ?_;refine zb ?_;refine zn ?_;refine zf zc [] rfl ?_;iterate 2 refine za rfl ?_
 refine zi rfl rfl rfl (hle) ?_;refine za rfl ?_;refine zb ?_;refine zf zc [] rfl ?_;iterate 2 refine za rfl ?_
 refine zb ?_;refine zm rfl (fun hc0=>?_) (fun hc0=>?_)
 ·(try simp only [zh] at hc0);omega
 ·(try simp only [zh] at hc0)
  refine zo ?_;refine zn ?_;refine zf zc [] rfl ?_;first | refine za rfl ?_ | refine zd rfl rfl zj ?_ | refine ze rfl rfl rfl zj ?_
  refine za rfl ?_;refine zi rfl rfl rfl (hmo) ?_;refine za rfl ?_;refine zb ?_;refine zf zc [] rfl ?_;iterate 3 refine za rfl ?_
  refine' zu (d:=33) [_,_,_] rfl ?_ rfl ?_
  rotate_left
  ·refine zt rfl rfl (fun hb5_2=>?_) (fun hb5_2=>?_)
   ·have ghb5_2:=hb5_2
    try simp only [zh,Bool.not_true,Bool.not_false] at ghb5_2
    refine za rfl ?_;refine zg rfl rfl hb5_2 ?_;refine za rfl ?_;refine z3 rfl (fun _=>rfl) ?_;exact zb ⟨rfl,rfl⟩
   ·refine zl rfl rfl hb5_2 ?_;exact z3 rfl (fun h=>absurd (h.symm.trans hb5_2) (by decide)) (zb ⟨rfl,rfl⟩)
  refine zb ?_;refine zm rfl (fun hc1=>?_) (fun hc1=>?_)
  ·(try simp only [zh] at hc1);omega
  ·(try simp only [zh] at hc1)
   refine zo ?_;refine yv zc [] [_,_,_,_,_,_,_,_,_,_,_,_] rfl yj yj ?_;refine za rfl ?_;first | refine za rfl ?_ | refine zd rfl rfl zj ?_ | refine ze rfl rfl rfl zj ?_
   refine za rfl ?_;first | refine za rfl ?_ | refine zd rfl rfl zj ?_ | refine ze rfl rfl rfl zj ?_
   refine zi rfl rfl rfl (hll) ?_;refine za rfl ?_;first | refine za rfl ?_ | refine zd rfl rfl zj ?_ | refine ze rfl rfl rfl zj ?_
   refine za rfl ?_;first | refine za rfl ?_ | refine zd rfl rfl zj ?_ | refine ze rfl rfl rfl zj ?_
   refine zi rfl rfl rfl (hhh) ?_;iterate 2 refine za rfl ?_
   iterate 2 refine zb ?_
   refine zn ?_;refine zf zc [] rfl ?_;iterate 2 refine za rfl ?_
   refine zb ?_;refine zm rfl (fun hc3=>?_) (fun hc3=>?_)
   ·(try simp only [zh] at hc3);omega
   ·(try simp only [zh] at hc3)
    refine zo ?_;refine zn ?_;refine zf zc [] rfl ?_;iterate 2 refine za rfl ?_
    refine zb ?_;refine zm rfl (fun hc9=>?_) (fun hc9=>?_)
    ·(try simp only [zh] at hc9)
     refine zf zc [] rfl ?_;refine za rfl ?_;refine zb ?_;refine yf ?_;refine zf zc [] rfl ?_;iterate 2 refine za rfl ?_
     refine zb ?_;refine zm rfl (fun hc10=>?_) (fun hc10=>?_)
     ·(try simp only [zh] at hc10);obtain ⟨rfl,rfl⟩:=c1 hc10
      refine zf zc [] rfl ?_;first | refine za rfl ?_ | refine zd rfl rfl zj ?_ | refine ze rfl rfl rfl zj ?_
      refine zi rfl rfl rfl (hun) ?_;refine zk rfl rfl rfl rfl rfl yh rfl ?_;refine za rfl ?_;refine zb ?_;refine zq ?_;first | exact ⟨trivial,_,rfl,out55 rfl⟩ | (refine ⟨trivial,_,rfl,Cv.tup (CvL.cons (Cv.eq rfl (yd _)) (CvL.cons ?_ CvL.nil))⟩;refine (show Cv _ _ (rqT _) from ?_);exact xq)
     ·(try simp only [zh] at hc10)
      refine zf zc [] rfl ?_;iterate 2 refine za rfl ?_
      refine zb ?_;refine zm rfl (fun hc11=>?_) (fun hc11=>?_)
      ·(try simp only [zh] at hc11);obtain ⟨rfl,rfl⟩:=c2 hc11
       refine zf zc [] rfl ?_;first | refine za rfl ?_ | refine zd rfl rfl zj ?_ | refine ze rfl rfl rfl zj ?_
       refine zi rfl rfl rfl (hre) ?_;refine zk rfl rfl rfl rfl rfl yh rfl ?_;refine za rfl ?_;refine zb ?_;refine zq ?_;first | exact ⟨trivial,_,rfl,out55 rfl⟩ | (refine ⟨trivial,_,rfl,Cv.tup (CvL.cons (Cv.eq rfl (yd _)) (CvL.cons ?_ CvL.nil))⟩;refine (show Cv _ _ (rqT _) from ?_);exact xq)
      ·(try simp only [zh] at hc11)
       refine zf zc [] rfl ?_;iterate 2 refine za rfl ?_
       refine zb ?_;refine zm rfl (fun hc12=>?_) (fun hc12=>?_)
       ·(try simp only [zh] at hc12);obtain ⟨rfl,rfl⟩:=c3 hc12
        refine zw zc [] rfl ?_;refine za rfl ?_;first | refine za rfl ?_ | refine zd rfl rfl zj ?_ | refine ze rfl rfl rfl zj ?_
        refine za (t:=I64 (e.c.bf.text.length : Nat)) rfl ?_;refine za rfl ?_;refine zk rfl rfl rfl rfl rfl yh rfl ?_;refine za rfl ?_;refine zk rfl rfl rfl rfl rfl yh rfl ?_;refine zb ?_;refine zf zc [] rfl ?_;first | refine za rfl ?_ | refine zd rfl rfl zj ?_ | refine ze rfl rfl rfl zj ?_
        refine zk rfl rfl rfl rfl rfl yh rfl ?_;refine za rfl ?_;refine zb ?_;refine zq ?_;first | exact ⟨trivial,_,rfl,out55 rfl⟩ | (refine ⟨trivial,_,rfl,Cv.tup (CvL.cons (Cv.eq rfl (yd _)) (CvL.cons ?_ CvL.nil))⟩;refine (show Cv _ _ (rqT _) from ?_);exact xq)
       ·(try simp only [zh] at hc12)
        refine zf zc [] rfl ?_;iterate 2 refine za rfl ?_
        refine zb ?_;refine zm rfl (fun hc13=>?_) (fun hc13=>?_)
        ·(try simp only [zh] at hc13)
         refine zf zc [] rfl ?_;iterate 3 refine za rfl ?_
         refine zb ?_;refine zm rfl (fun hc14=>?_) (fun hc14=>?_)
         ·(try simp only [zh] at hc14);obtain ⟨rfl,rfl⟩:=c4 hc13 (by omega)
          refine zf zc [] rfl ?_;refine za rfl ?_;first | refine za rfl ?_ | refine zd rfl rfl zj ?_ | refine ze rfl rfl rfl zj ?_
          iterate 2 refine za rfl ?_
          refine rd (p:=e.c.lo) (r:=e.c.hi) rfl rfl rfl rfl rfl rfl rfl z8 hhi ?_;refine za rfl ?_;refine zk rfl rfl rfl rfl rfl yh rfl ?_;refine zb ?_;refine sa zc [118,120] [_,_,_,_,_,_,_,_] [true,true,true,true,true,true,false,false] rfl yj yj yj yj ?_;refine uy true (l1:=[_,_,_,_,_,_]) rfl ?_;first | refine za rfl ?_ | refine zd rfl rfl zj ?_ | refine ze rfl rfl rfl zj ?_
          refine za rfl ?_;first | refine za rfl ?_ | refine zd rfl rfl zj ?_ | refine ze rfl rfl rfl zj ?_
          refine za rfl ?_;refine ya rfl rfl ?_;refine zi rfl rfl rfl (u0 50 _ _ _ rfl) ?_;refine zb ⟨rfl,?_⟩
          refine uy false (l1:=[_]) rfl ?_;refine ya rfl rfl ?_;refine zb ⟨rfl,?_⟩
          refine zc2 rfl rfl rfl rfl ?_;refine pz (⟨Nat.le_of_ble_eq_true rfl,rfl,trivial⟩) ⟨rfl,?_⟩
          refine za rfl ?_;refine zb ?_;refine zq ?_;first | exact ⟨trivial,_,rfl,out55 rfl⟩ | (refine ⟨trivial,_,rfl,Cv.tup (CvL.cons (Cv.eq rfl (yd _)) (CvL.cons ?_ CvL.nil))⟩;refine (show Cv _ _ (rqT _) from ?_);exact xq)
         ·(try simp only [zh] at hc14);obtain ⟨rfl,rfl⟩:=c5 hc13 (by omega)
          refine zo ?_;refine zf zc [] rfl ?_;first | refine za rfl ?_ | refine zd rfl rfl zj ?_ | refine ze rfl rfl rfl zj ?_
          refine zk rfl rfl rfl rfl rfl yh rfl ?_;refine za rfl ?_;refine zb ?_;refine zq ?_;first | exact ⟨trivial,_,rfl,out55 rfl⟩ | (refine ⟨trivial,_,rfl,Cv.tup (CvL.cons (Cv.eq rfl (yd _)) (CvL.cons ?_ CvL.nil))⟩;refine (show Cv _ _ (rqT _) from ?_);exact xq)
        ·(try simp only [zh] at hc13)
         refine zf zc [] rfl ?_;iterate 2 refine za rfl ?_
         refine zb ?_;refine zm rfl (fun hc15=>?_) (fun hc15=>?_)
         ·(try simp only [zh] at hc15);obtain ⟨rfl,rfl⟩:=c6 hc15
          refine sa zc [127,129] [_,_,_,_,_,_,_,_] [true,true,true,true,true,true,false,false] rfl yj yj yj yj ?_;refine uy true (l1:=[_,_,_,_,_,_]) rfl ?_;first | refine za rfl ?_ | refine zd rfl rfl zj ?_ | refine ze rfl rfl rfl zj ?_
          refine za rfl ?_;first | refine za rfl ?_ | refine zd rfl rfl zj ?_ | refine ze rfl rfl rfl zj ?_
          refine za rfl ?_;refine ya rfl rfl ?_;refine zi rfl rfl rfl (u0 52 _ _ _ rfl) ?_;refine zb ⟨rfl,?_⟩
          refine uy false (l1:=[_]) rfl ?_;refine ya rfl rfl ?_;refine zb ⟨rfl,?_⟩
          refine zc2 rfl rfl rfl rfl ?_;refine pz (⟨Nat.le_of_ble_eq_true rfl,rfl,trivial⟩) ⟨rfl,?_⟩
          refine za rfl ?_;refine zb ?_;refine zq ?_;first | exact ⟨trivial,_,rfl,out55 rfl⟩ | (refine ⟨trivial,_,rfl,Cv.tup (CvL.cons (Cv.eq rfl (yd _)) (CvL.cons ?_ CvL.nil))⟩;refine (show Cv _ _ (rqT _) from ?_);exact xq)
         ·(try simp only [zh] at hc15);obtain ⟨rfl,rfl⟩:=c7 hc10 hc11 hc12 hc13 hc15
          refine zo ?_;refine zf zc [] rfl ?_;first | refine za rfl ?_ | refine zd rfl rfl zj ?_ | refine ze rfl rfl rfl zj ?_
          refine zk rfl rfl rfl rfl rfl yh rfl ?_;refine za rfl ?_;refine zb ?_;refine zq ?_;first | exact ⟨trivial,_,rfl,out55 rfl⟩ | (refine ⟨trivial,_,rfl,Cv.tup (CvL.cons (Cv.eq rfl (yd _)) (CvL.cons ?_ CvL.nil))⟩;refine (show Cv _ _ (rqT _) from ?_);exact xq)
    ·(try simp only [zh] at hc9);omega
theorem zhs (e : Ed) (ok : e.c.Ok) (code mods time : Int) (hm : mods = 0∨mods = 1) (h : letN code mods = none) (hg : e.c.goes code = none) : KeyP e code mods time:=by
 have hpx:=yd e.R
 have hlen:=ok.bf.len
 have hcu:=ok.cur
 have hle:=ub code mods
 rw [zce (by omega) h] at hle
 have hmo:=sw e ok code
 rw [show movI e.c code = -1 by unfold movI;rw [hg]] at hmo
 have e1 : e.c.key code mods = if mods≠0 then e.c else e.c.ctl code:=by unfold Ec.key;rw [if_neg (by omega),if_neg (by omega),h,hg];rfl
 have e2 : e.keyR code mods time = []:=by unfold Ed.keyR;rw [if_neg (by omega)]
 have hll:=w5 (e.c.cur : Int) (e.c.anc : Int)
 have hhh:=w4 (e.c.cur : Int) (e.c.anc : Int)
 rw [show min (e.c.cur : Int) (e.c.anc : Int) = ((e.c.lo : Nat) : Int) by unfold Ec.lo;omega] at hll
 rw [show max (e.c.cur : Int) (e.c.anc : Int) = ((e.c.hi : Nat) : Int) by unfold Ec.hi;omega] at hhh
 have hlh : e.c.lo≤e.c.hi:=by unfold Ec.lo Ec.hi;omega
 have hhi : e.c.hi≤e.c.bf.text.length:=by unfold Ec.hi;omega
 have hin:=rv e ok [10] (by simp) (by simp)
 have hw1:=uf e ok e.c.lo e.c.hi (fun _=>hhi) (by omega) (by omega)
 have hw2:=uf e ok (e.c.lo - 1) e.c.hi (fun _=>hhi) (by omega) (by omega)
 have hw3:=uf e ok e.c.lo (min (e.c.hi + 1) e.c.bf.text.length) (fun _=>by omega) (by omega) (by omega)
 have c0 : e.c.lo≠e.c.hi→e.c.cut = e.c.cutN e.c.lo e.c.hi:=fun h=>zes _ (fun h2=>h (by unfold Ec.lo Ec.hi;omega))
 have cl : e.c.lo = e.c.hi→e.c.lo = e.c.cur∧e.c.anc = e.c.cur:=fun h=>by unfold Ec.lo Ec.hi at *;omega
 have hm1:=w4 ((e.c.lo : Int) - 1) 0
 rw [show max ((e.c.lo : Int) - 1) 0 = ((e.c.lo - 1 : Nat) : Int) by omega] at hm1
 have hm2:=w5 ((e.c.hi : Int) + 1) (e.c.bf.text.length : Nat)
 rw [show min ((e.c.hi : Int) + 1) ((e.c.bf.text.length : Nat) : Int) = ((min (e.c.hi + 1) e.c.bf.text.length : Nat) : Int) by omega] at hm2
 have d1 : code = 8→e.c.lo≠e.c.hi→e.c.ctl code = e.c.cutN e.c.lo e.c.hi:=fun h h2=>by subst h;show e.c.erase = _;unfold Ec.erase;rw [if_pos h2,c0 h2]
 have d2 : code = 8→e.c.lo = e.c.hi→e.c.ctl code = e.c.cutN (e.c.lo - 1) e.c.hi:=fun h h2=>by
  subst h
  obtain ⟨g1,g2⟩:=cl h2
  show e.c.erase = _
  unfold Ec.erase Ec.cutN
  rw [if_neg (by omega),← h2,g1]
  by_cases h0 : e.c.cur = 0
  ·rw [if_pos h0,if_neg (by omega),h0]
   have : e.c = { e.c with cur:=0,anc:=0 }:=by
    have h3 : e.c.anc = 0:=by omega
    generalize e.c = c at *
    cases c
    simp_all
   exact this
  ·rw [if_neg h0,if_pos (by omega)]
 have d3 : code = 127→e.c.lo≠e.c.hi→e.c.ctl code = e.c.cutN e.c.lo e.c.hi:=fun h h2=>by subst h;show e.c.eraseF = _;unfold Ec.eraseF;rw [if_pos h2,c0 h2]
 have d4 : code = 127→e.c.lo = e.c.hi→e.c.ctl code = e.c.cutN e.c.lo (min (e.c.hi + 1) e.c.bf.text.length):=fun h h2=>by
  subst h
  obtain ⟨g1,g2⟩:=cl h2
  show e.c.eraseF = _
  unfold Ec.eraseF Ec.cutN
  rw [if_neg (by omega),← h2,g1]
  by_cases h0 : e.c.bf.text.length≤e.c.cur
  ·rw [if_pos h0,if_neg (by omega)]
   generalize e.c = c at *
   cases c
   simp_all
  ·rw [if_neg h0,if_pos (by omega),show min (e.c.cur + 1) e.c.bf.text.length = e.c.cur + 1 by omega]
 have d5 : code = 13→e.c.ctl code = e.c.put [10]:=fun h=>by subst h;rfl
 have d6 : ¬ code = 13→¬ code = 8→¬ code = 127→e.c.ctl code = e.c:=fun h1 h2 h3=>by unfold Ec.ctl;rw [if_neg h1,if_neg h2,if_neg h3]
 have q1:=yd (e.wc (e.c.put [10])).R
 have q2:=yd (e.wc (e.c.cutN e.c.lo e.c.hi)).R
 have q3:=yd (e.wc (e.c.cutN (e.c.lo - 1) e.c.hi)).R
 have q4:=yd (e.wc (e.c.cutN e.c.lo (min (e.c.hi + 1) e.c.bf.text.length))).R
 have hqN:=ui
 show CallP _ _ _ _
 rw [e1,e2]
 generalize e.c.ctl code = c9 at *
 refine CallP.intro2 z5 z5 ?_;refine CallT.intro zc Tryz.func61 rfl (by kernel_rfl) (Nat.le_of_ble_eq_true rfl) ?_;refine zf zc [] rfl ?_;iterate 2 refine yc rfl rfl ?_
 refine za rfl ?_;refine zb ?_;refine zn ?_;refine zf zc [] rfl ?_;iterate 2 refine za rfl ?_
 refine zi rfl rfl rfl (hle) ?_;refine za rfl ?_;refine zb ?_;refine zf zc [] rfl ?_;iterate 2 refine za rfl ?_
 refine zb ?_;refine zm rfl (fun hc0=>?_) (fun hc0=>?_)
 ·(try simp only [zh] at hc0);omega
 ·(try simp only [zh] at hc0)
  refine zo ?_;refine zn ?_;refine zf zc [] rfl ?_;first | refine za rfl ?_ | refine zd rfl rfl zj ?_ | refine ze rfl rfl rfl zj ?_
  refine za rfl ?_;refine zi rfl rfl rfl (hmo) ?_;refine za rfl ?_;refine zb ?_;refine zf zc [] rfl ?_;iterate 3 refine za rfl ?_
  refine' zu (d:=33) [_,_,_] rfl ?_ rfl ?_
  rotate_left
  ·refine zt rfl rfl (fun hb5_2=>?_) (fun hb5_2=>?_)
   ·have ghb5_2:=hb5_2
    try simp only [zh,Bool.not_true,Bool.not_false] at ghb5_2
    refine za rfl ?_;refine zg rfl rfl hb5_2 ?_;refine za rfl ?_;refine z3 rfl (fun _=>rfl) ?_;exact zb ⟨rfl,rfl⟩
   ·refine zl rfl rfl hb5_2 ?_;exact z3 rfl (fun h=>absurd (h.symm.trans hb5_2) (by decide)) (zb ⟨rfl,rfl⟩)
  refine zb ?_;refine zm rfl (fun hc1=>?_) (fun hc1=>?_)
  ·(try simp only [zh] at hc1);omega
  ·(try simp only [zh] at hc1)
   refine zo ?_;refine yv zc [] [_,_,_,_,_,_,_,_,_,_,_,_] rfl yj yj ?_;refine za rfl ?_;first | refine za rfl ?_ | refine zd rfl rfl zj ?_ | refine ze rfl rfl rfl zj ?_
   refine za rfl ?_;first | refine za rfl ?_ | refine zd rfl rfl zj ?_ | refine ze rfl rfl rfl zj ?_
   refine zi rfl rfl rfl (hll) ?_;refine za rfl ?_;first | refine za rfl ?_ | refine zd rfl rfl zj ?_ | refine ze rfl rfl rfl zj ?_
   refine za rfl ?_;first | refine za rfl ?_ | refine zd rfl rfl zj ?_ | refine ze rfl rfl rfl zj ?_
   refine zi rfl rfl rfl (hhh) ?_;iterate 2 refine za rfl ?_
   iterate 2 refine zb ?_
   refine zn ?_;refine zf zc [] rfl ?_;iterate 2 refine za rfl ?_
   refine zb ?_;refine zm rfl (fun hc3=>?_) (fun hc3=>?_)
   ·(try simp only [zh] at hc3);rw [if_neg (by simpa using hc3)]
    refine zf zc [] rfl ?_;refine za rfl ?_;refine zb ?_;refine yf ?_;refine zf zc [] rfl ?_;iterate 2 refine za rfl ?_
    refine zb ?_;refine zm rfl (fun hc4=>?_) (fun hc4=>?_)
    ·(try simp only [zh] at hc4);obtain rfl:=d5 hc4
     refine zf zc [] rfl ?_;first | refine za rfl ?_ | refine zd rfl rfl zj ?_ | refine ze rfl rfl rfl zj ?_
     refine zi rfl rfl rfl (hin) ?_;refine zk rfl rfl rfl rfl rfl yh rfl ?_;refine za rfl ?_;refine zb ?_;refine zq ?_;exact ⟨trivial,_,rfl,out55 rfl⟩
    ·(try simp only [zh] at hc4)
     refine zf zc [] rfl ?_;iterate 2 refine za rfl ?_
     refine zb ?_;refine zm rfl (fun hc5=>?_) (fun hc5=>?_)
     ·(try simp only [zh] at hc5)
      refine zn ?_;refine zf zc [] rfl ?_;iterate 3 refine za rfl ?_
      refine zb ?_;refine zm rfl (fun hc6=>?_) (fun hc6=>?_)
      ·(try simp only [zh] at hc6);obtain rfl:=d2 hc5 (by omega)
       refine zw zc [] rfl ?_;refine za rfl ?_;refine yu (a:=(e.c.lo : Int)) (b:=1) rfl rfl z8 ?_;refine zi rfl rfl rfl (hm1) ?_;refine za rfl ?_;refine zb ?_;refine zf zc [] rfl ?_;first | refine za rfl ?_ | refine zd rfl rfl zj ?_ | refine ze rfl rfl rfl zj ?_
       iterate 2 refine za rfl ?_
       first | refine zi rfl rfl rfl hw2 ?_ | refine zi rfl rfl rfl hw1 ?_
       refine zk rfl rfl rfl rfl rfl yh rfl ?_;refine za rfl ?_;refine zb ?_;refine zq ?_;exact ⟨trivial,_,rfl,out55 rfl⟩
      ·(try simp only [zh] at hc6);obtain rfl:=d1 hc5 (by omega)
       refine zo ?_;refine zf zc [] rfl ?_;first | refine za rfl ?_ | refine zd rfl rfl zj ?_ | refine ze rfl rfl rfl zj ?_
       iterate 2 refine za rfl ?_
       first | refine zi rfl rfl rfl hw2 ?_ | refine zi rfl rfl rfl hw1 ?_
       refine zk rfl rfl rfl rfl rfl yh rfl ?_;refine za rfl ?_;refine zb ?_;refine zq ?_;exact ⟨trivial,_,rfl,out55 rfl⟩
     ·(try simp only [zh] at hc5)
      refine zf zc [] rfl ?_;iterate 2 refine za rfl ?_
      refine zb ?_;refine zm rfl (fun hc7=>?_) (fun hc7=>?_)
      ·(try simp only [zh] at hc7)
       refine zn ?_;refine zf zc [] rfl ?_;iterate 3 refine za rfl ?_
       refine zb ?_;refine zm rfl (fun hc8=>?_) (fun hc8=>?_)
       ·(try simp only [zh] at hc8);obtain rfl:=d4 hc7 (by omega)
        refine zw zc [] rfl ?_;refine za rfl ?_;refine zy (a:=(e.c.hi : Int)) (b:=1) rfl rfl z8 ?_;refine za rfl ?_;first | refine za rfl ?_ | refine zd rfl rfl zj ?_ | refine ze rfl rfl rfl zj ?_
        refine za (t:=I64 (e.c.bf.text.length : Nat)) rfl ?_;refine zi rfl rfl rfl (hm2) ?_;refine za rfl ?_;refine zb ?_;refine zf zc [] rfl ?_;first | refine za rfl ?_ | refine zd rfl rfl zj ?_ | refine ze rfl rfl rfl zj ?_
        iterate 2 refine za rfl ?_
        first | refine zi rfl rfl rfl hw3 ?_ | refine zi rfl rfl rfl hw1 ?_
        refine zk rfl rfl rfl rfl rfl yh rfl ?_;refine za rfl ?_;refine zb ?_;refine zq ?_;exact ⟨trivial,_,rfl,out55 rfl⟩
       ·(try simp only [zh] at hc8);obtain rfl:=d3 hc7 (by omega)
        refine zo ?_;refine zf zc [] rfl ?_;first | refine za rfl ?_ | refine zd rfl rfl zj ?_ | refine ze rfl rfl rfl zj ?_
        iterate 2 refine za rfl ?_
        first | refine zi rfl rfl rfl hw3 ?_ | refine zi rfl rfl rfl hw1 ?_
        refine zk rfl rfl rfl rfl rfl yh rfl ?_;refine za rfl ?_;refine zb ?_;refine zq ?_;exact ⟨trivial,_,rfl,out55 rfl⟩
      ·(try simp only [zh] at hc7);obtain rfl:=d6 hc4 hc5 hc7
       refine zo ?_;refine zn ?_;refine zf zc [] rfl ?_;iterate 2 refine za rfl ?_
       refine zb ?_;refine zm rfl (fun hc9=>?_) (fun hc9=>?_)
       ·(try simp only [zh] at hc9);omega
       ·(try simp only [zh] at hc9)
        refine zo ?_;refine zf zc [] rfl ?_;first | refine za rfl ?_ | refine zd rfl rfl zj ?_ | refine ze rfl rfl rfl zj ?_
        refine zk rfl rfl rfl rfl rfl yh rfl ?_;refine za rfl ?_;refine zb ?_;refine zq ?_;exact ⟨trivial,_,rfl,out55 rfl⟩
   ·(try simp only [zh] at hc3);rw [if_pos (by simpa using hc3)]
    refine zo ?_;refine zn ?_;refine zf zc [] rfl ?_;iterate 2 refine za rfl ?_
    refine zb ?_;refine zm rfl (fun hc9=>?_) (fun hc9=>?_)
    ·(try simp only [zh] at hc9);omega
    ·(try simp only [zh] at hc9)
     refine zo ?_;refine zf zc [] rfl ?_;first | refine za rfl ?_ | refine zd rfl rfl zj ?_ | refine ze rfl rfl rfl zj ?_
     refine zk rfl rfl rfl rfl rfl yh rfl ?_;refine za rfl ?_;refine zb ?_;refine zq ?_;exact ⟨trivial,_,rfl,out55 rfl⟩
theorem keyW_p (e : Ed) (ok : e.c.Ok) (hf : e.c.few) (code mods time : Int) (hm : 0≤mods) : KeyP e code mods time:=by
 by_cases h4 : mods = 4
 ·exact zht e ok hf code mods time h4
 by_cases h1 : 1 < mods
 ·exact zhu e ok code mods time h1 h4
 cases hl : letN code mods with
 | some b=>exact zhr e ok code mods time b hl
 | none=>
  cases hg : e.c.goes code with
  | some k=>exact zj7 e ok code mods time k (by omega) hl hg
  | none=>exact zhs e ok code mods time (by omega) hl hg
end

section
open Go.RowKit
set_option maxRecDepth 100000
set_option maxHeartbeats 2000000
def ptO (s : List UInt8) (b : UInt8) : Nat→List (List UInt8) × Nat
 | 0=>([],0)
 | i + 1=>if i = s.length∨s[i]! = b then ((ptO s b i).1 ++ [(s.take i).drop (ptO s b i).2],i + 1) else ptO s b i
def partsN (s : List UInt8) (b : UInt8) : List (List UInt8):=(ptO s b (s.length + 1)).1
theorem ptO_le (s : List UInt8) (b : UInt8) : ∀ i,(ptO s b i).2≤i∧(ptO s b i).1.length≤i
 | 0=>⟨Nat.le_refl _,Nat.le_refl _⟩
 | i + 1=>by
  have h:=ptO_le s b i
  unfold ptO
  split
  ·refine ⟨Nat.le_refl _,?_⟩
   rw [List.length_append,List.length_singleton];omega
  ·omega
theorem zg5 (s : List UInt8) (b : UInt8) (hl : s.length≤100000) : CallP Tryz.prog 92 [strT s,U8 b.toNat] (.islc (encL cStr (partsN s b)) (partsN s b).length none):=by
 have hpo:=ptO_le s b
 have hpp:=zp cStr (partsN s b)
 refine CallP.intro2 z5 z5 ?_;refine CallT.intro zc Tryz.func92 rfl (by kernel_rfl) (Nat.le_of_ble_eq_true rfl) ?_;refine zf zc [] rfl ?_;refine za rfl ?_;refine zb ?_;refine zf zc [] rfl ?_;refine za rfl ?_;refine zb ?_;refine zf zc [] rfl ?_;refine za rfl ?_;refine zb ?_;refine zn ?_;refine zf zc [] rfl ?_;refine za rfl ?_;refine zb ?_;refine yf ?_;refine yy (σ:=Nat) (fun i=>s.length + 1 - i) (fun i=>i≤s.length + 1) (fun i=>[(7,I64 (i : Nat)),(6,I64 ((ptO s b i).2 : Nat)),(5,.slc 0 0 (ptO s b i).1.length 1 none)]) (fun i=>[.c (encL cStr (ptO s b i).1)]) [0,1] rfl (0) ?_ ?_ ?_
 ·refine ⟨[none],rfl,yo,yn,?_,?_⟩ <;> (repeat' first | exact trivial | exact ym | exact yq | exact yp rfl | refine yb ?_ ?_ | refine z4 rfl ?_ ?_ | refine zx ?_ ?_ | refine yk rfl ?_ | fail) <;> first | exact xd | (first | exact CvL.pure rfl | exact Cv.pure rfl)
 ·(try dsimp only);omega
 rintro i hi;refine zn ?_;refine zf zc [] rfl ?_;iterate 2 refine za rfl ?_
 refine za (t:=I64 (s.length : Nat)) rfl ?_;refine za rfl ?_;refine zb ?_;refine zm rfl (fun hc0=>?_) (fun hc0=>?_)
 ·(try simp only [zh] at hc0);have hil : i≤s.length:=(by omega);have hp:=hpo i;have hsn : ptO s b (i + 1) = if i = s.length∨s[i]! = b then ((ptO s b i).1 ++ [(s.take i).drop (ptO s b i).2],i + 1) else ptO s b i:=rfl
  refine zo ?_;refine zn ?_;refine yf ?_;refine zf zc [] rfl ?_;iterate 2 refine za rfl ?_
  refine za (t:=I64 (s.length : Nat)) rfl ?_;iterate 2 refine za rfl ?_
  refine' zu (d:=24) [_,_,_,_,_,_] rfl ?_ rfl ?_
  rotate_left
  ·refine zt rfl rfl (fun hb6_4=>?_) (fun hb6_4=>?_)
   ·have ghb6_4:=hb6_4
    try simp only [zh,Bool.not_true,Bool.not_false] at ghb6_4
    refine za rfl ?_;refine zg rfl rfl hb6_4 ?_;refine za rfl ?_;refine zg rfl rfl hb6_4 ?_;refine xw rfl rfl rfl rfl rfl (qh z8) ?_;refine zg rfl rfl hb6_4 ?_;refine za rfl ?_;refine zg rfl rfl hb6_4 ?_;refine za rfl ?_;refine zr rfl (fun _=>rfl) ?_;exact zb ⟨rfl,rfl⟩
   ·refine zl rfl rfl hb6_4 ?_;iterate 3 refine zl rfl rfl hb6_4 ?_
    exact zr rfl (fun h=>absurd (h.symm.trans hb6_4) (by decide)) (zb ⟨rfl,rfl⟩)
  refine zb ?_;refine zm rfl (fun hc1=>?_) (fun hc1=>?_)
  ·(try simp only [zh] at hc1);rw [if_pos (hc1.imp (fun h=>by omega) (fun h=>UInt8.toNat.inj (by omega)))] at hsn
   refine zf zc [30] rfl ?_;iterate 4 refine za rfl ?_
   refine rd (p:=(ptO s b i).2) (r:=i) rfl rfl rfl rfl rfl rfl rfl hp.1 hil ?_;refine ya rfl rfl ?_;refine' yw rfl rfl rfl rfl rfl rfl rfl rfl ?h1 ?h2 ?h3 ?h4 ?h5 ?_
   case h1=>rw [ye,uo];(try dsimp only);omega
   case h2=>exact Nat.le_trans (Nat.mul_le_mul_right _ (show _≤200000 by omega)) (by decide)
   case h3=>omega
   case h4=>rfl
   case h5=>rfl
   refine za rfl ?_;refine zb ?_;refine zw zc [] rfl ?_;refine za rfl ?_;first | refine zy rfl rfl (by omega) ?_ | refine za rfl ?_
   refine za rfl ?_;refine zb ?_;refine zw zc [] rfl ?_;refine za rfl ?_;first | refine zy rfl rfl (by omega) ?_ | refine za rfl ?_
   refine za rfl ?_;refine zb ?_;refine ⟨i + 1,by (try dsimp only);omega,?_,(by refine ⟨[some 1],rfl,yo,yn,?_,?_⟩ <;> (repeat' first | exact trivial | exact ym | exact yq | exact yp rfl | refine yb ?_ ?_ | refine z4 rfl ?_ ?_ | refine zx ?_ ?_ | refine yk rfl ?_ | fail) <;> first | exact xd | (first | exact CvL.pure rfl | (rw [hsn,List.length_append];exact Cv.slc rfl (.inl rfl)) | (rw [hsn];exact Cv.pure rfl) | exact CvL.eq (by rw [hsn,yr,List.drop_zero,List.take_of_length_le (by rw [ye,uo];exact Nat.le_refl _)];rfl) (zp _ _)))⟩
   (try dsimp only);omega
  ·(try simp only [zh] at hc1);rw [if_neg (fun h=>h.elim (fun h=>by omega) (fun h=>hc1.2 (by rw [h])))] at hsn
   refine zo ?_;refine zw zc [] rfl ?_;refine za rfl ?_;first | refine zy rfl rfl (by omega) ?_ | refine za rfl ?_
   refine za rfl ?_;refine zb ?_;refine ⟨i + 1,by (try dsimp only);omega,?_,(by refine ⟨[some 0],rfl,yo,yn,?_,?_⟩ <;> (repeat' first | exact trivial | exact ym | exact yq | exact yp rfl | refine yb ?_ ?_ | refine z4 rfl ?_ ?_ | refine zx ?_ ?_ | refine yk rfl ?_ | fail) <;> first | exact xd | (first | exact CvL.pure rfl | (rw [hsn];exact Cv.slc rfl (.inl rfl)) | (rw [hsn];exact Cv.pure rfl) | exact CvL.eq (by rw [hsn]) (zp _ _)))⟩
   (try dsimp only);omega
 ·(try simp only [zh] at hc0);obtain rfl : i = s.length + 1:=(by omega)
  refine yz ?_;refine zf zc [] rfl ?_;iterate 2 refine za rfl ?_
  refine zb ?_;refine zq ?_;exact ⟨trivial,_,rfl,Cv.fslc0 ⟨rfl,by simp⟩ (CvL.pure hpp)⟩
def szW (w : List UInt8) : Int:=if w[w.length - 2]! = 45 then -((w[w.length - 1]!.toNat : Int) - 48) else (w[w.length - 1]!.toNat : Int) - 48
def wAdd (m : Fm) (w : List UInt8) : Fm:=if w = [] then m else if w = [66] then { m with b:=true } else if w[0]! = 76 then { m with l:=szW w } else { m with fx:=m.fx ++ [szW w] }
def wOf (ws : List (List UInt8)) : Fm:=ws.foldl wAdd ⟨[],false,0⟩
def okW (w : List UInt8) : Bool:=(w == [] || w == [66] || decide (2≤w.length)) && decide (w.length≤1000)
theorem zjb (ws : List (List UInt8)) (w : List UInt8) : wOf (ws ++ [w]) = wAdd (wOf ws) w:=by unfold wOf;rw [List.foldl_append];rfl
theorem wOf_len (ws : List (List UInt8)) : (wOf ws).fx.length≤ws.length:=by
 have : ∀ (ws : List (List UInt8)) (m : Fm),(ws.foldl wAdd m).fx.length≤m.fx.length + ws.length:=by
  intro ws
  induction ws with
  | nil=>intro m;simp
  | cons f ws ih=>
   intro m
   rw [List.foldl_cons]
   refine Nat.le_trans (ih _) ?_;have : (wAdd m f).fx.length≤m.fx.length + 1:=by
    unfold wAdd
    split
    ·simp
    ·split
     ·simp
     ·split <;> simp
   simp only [List.length_cons];omega
 have h:=this ws ⟨[],false,0⟩
 unfold wOf
 simpa using h
theorem zek (s : List UInt8) (hl : s.length≤1000) (hp : (partsN s 32).length≤1000) (hok : (partsN s 32).all okW = true) : CallP Tryz.prog 90 [strT s] (fmT (wOf (partsN s 32))):=by
 have hpa:=zg5 s 32 (by omega)
 rw [List.all_eq_true] at hok
 generalize partsN s 32 = ws at *
 have hpu:=zp cI (wOf ws).fx
 have hpw:=zp cStr ws
 refine CallP.intro2 z5 z5 ?_;refine CallT.intro zc Tryz.func90 rfl (by kernel_rfl) (Nat.le_of_ble_eq_true rfl) ?_;refine zf zc [] rfl ?_;refine yc rfl rfl ?_;refine zb ?_;refine zf zc [] rfl ?_;refine yc rfl rfl ?_;refine zb ?_;refine zf zc [] rfl ?_;refine za rfl ?_;refine zi rfl rfl rfl (hpa) ?_;refine za rfl ?_;refine zb ?_;refine zn ?_;refine zf zc [] rfl ?_;refine za rfl ?_;refine zb ?_;refine yf ?_;refine yy (σ:=Nat) (fun k=>ws.length - k) (fun k=>k≤ws.length) (fun k=>[(5,I64 k),(2,.ptr 0 0),(3,.ptr 1 0)]) (fun k=>[.c [NIL,BL false,I64 0],.c [.slc 2 0 (wOf (ws.take k)).fx.length 1 none,BL (wOf (ws.take k)).b,I64 (wOf (ws.take k)).l],.c (encL cI (wOf (ws.take k)).fx)]) [4] rfl (0) ?_ ?_ ?_
 ·refine ⟨[some 0,some 1,none],rfl,yo,yn,?_,?_⟩ <;> (repeat' first | exact trivial | exact ym | exact yq | exact yp rfl | refine yb ?_ ?_ | refine z4 rfl ?_ ?_ | refine zx ?_ ?_ | refine yk rfl ?_ | fail) <;> first | exact xd | (first | exact CvL.pure rfl | exact CvL.cons (Cv.nilv rfl) (CvL.pure rfl) | exact Cv.pure (by simp only [T.pure,hpw]))
 ·(try dsimp only);omega
 rintro k hk;refine zn ?_;refine zf zc [] rfl ?_;iterate 4 refine za rfl ?_
 refine zb ?_;refine zm rfl (fun hc0=>?_) (fun hc0=>?_)
 ·(try simp only [zh] at hc0);have hkl : k < ws.length:=(by omega);have how:=hok ws[k]! (List.mem_iff_getElem?.2 ⟨k,getE hkl⟩);have hat:=getE hkl;have hsn : wOf (ws.take (k + 1)) = wAdd (wOf (ws.take k)) ws[k]!:=(by rw [List.take_add_one,List.getElem?_eq_getElem hkl,getElem!_pos ws k hkl];exact zjb _ _);have hlen:=wOf_len (ws.take k);have htk : (ws.take k).length = k:=(by rw [List.length_take];omega)
  generalize wOf (ws.take k) = m at *
  unfold wAdd at hsn
  generalize ws[k]! = w at *
  have how2 : (w = []∨w = [66]∨2≤w.length)∧w.length≤1000:=(by unfold okW at how;simpa [or_assoc] using how)
  refine zo ?_;refine zn ?_;refine yf ?_;refine zf zc [] rfl ?_;iterate 2 refine za rfl ?_
  refine z9 (m:=k) rfl rfl rfl rfl rfl rfl hkl ?_;refine zd rfl rfl (z6 cStr (m:=k) hat (by decide) rfl) ?_;refine za rfl ?_;refine zb ?_;refine zn ?_;refine zf zc [] rfl ?_;refine za rfl ?_;refine wj rfl rfl ?_;refine zb ?_;refine zm rfl (fun hc1=>?_) (fun hc1=>?_)
  ·have hb : w = []:=(by simpa using hc1);rw [if_pos hb] at hsn
   refine yz ?_;refine zw zc [] rfl ?_;refine za rfl ?_;first | refine zy rfl rfl (by omega) ?_ | refine za rfl ?_
   refine za rfl ?_;refine zb ?_;refine ⟨k + 1,by (try dsimp only);omega,?_,(by refine ⟨[some 0,some 1,some 2],rfl,yo,yn,?_,?_⟩ <;> (repeat' first | exact trivial | exact ym | exact yq | exact yp rfl | refine yb ?_ ?_ | refine z4 rfl ?_ ?_ | refine zx ?_ ?_ | refine yk rfl ?_ | fail) <;> first | exact xd | (first | exact CvL.pure rfl | exact Cv.pure (by simp only [T.pure,hpw]) | (rw [hsn];exact CvL.cons (Cv.slc rfl (.inl rfl)) (CvL.pure rfl)) | exact CvL.eq (by rw [hsn]) (zp _ _)))⟩
   (try dsimp only);omega
  ·have hb : ¬ w = []:=(by simpa using hc1);rw [if_neg hb] at hsn;have hw1 : 1≤w.length:=(by cases w with | nil=>exact absurd rfl hb | cons=>simp);have hbt:=w[w.length - 1]!.toNat_lt
   refine zo ?_;refine zf zc [] rfl ?_;iterate 2 refine za rfl ?_
   refine za (t:=I64 (w.length : Nat)) rfl ?_;refine yu (a:=(w.length : Int)) (b:=1) rfl rfl z8 ?_;refine xw rfl rfl rfl rfl (show ((w.length : Nat) : Int) - 1 = ((w.length - 1 : Nat) : Int) by omega) (qh z8) ?_;refine za (t:=I64 (w[w.length - 1]!.toNat : Nat)) (by show some (T.v (.int .i64 (IntKind.i64.wrap (w[w.length - 1]!.toNat : Int))),(none : Option (Nat × List T))) = _;rw [wq z8]) ?_;refine yu (a:=(w[w.length - 1]!.toNat : Int)) (b:=48) rfl rfl z8 ?_;refine za rfl ?_;refine zb ?_;refine zn ?_;refine zf zc [] rfl ?_;refine za rfl ?_;refine wj rfl rfl ?_;refine zb ?_;refine zm rfl (fun hc2=>?_) (fun hc2=>?_)
   ·have hb2 : w = [66]:=(by simpa using hc2);rw [if_pos hb2] at hsn
    refine zf zc [] rfl ?_;refine za rfl ?_;refine zk rfl rfl rfl rfl rfl yh rfl ?_;refine zb ?_;refine yz ?_;refine zw zc [] rfl ?_;refine za rfl ?_;first | refine zy rfl rfl (by omega) ?_ | refine za rfl ?_
    refine za rfl ?_;refine zb ?_;refine ⟨k + 1,by (try dsimp only);omega,?_,(by refine ⟨[some 0,some 1,some 2],rfl,yo,yn,?_,?_⟩ <;> (repeat' first | exact trivial | exact ym | exact yq | exact yp rfl | refine yb ?_ ?_ | refine z4 rfl ?_ ?_ | refine zx ?_ ?_ | refine yk rfl ?_ | fail) <;> first | exact xd | (first | exact CvL.pure rfl | exact Cv.pure (by simp only [T.pure,hpw]) | (rw [hsn];exact CvL.cons (Cv.slc rfl (.inl rfl)) (CvL.pure rfl)) | exact CvL.eq (by rw [hsn]) (zp _ _)))⟩
    (try dsimp only);omega
   ·have hb2 : ¬ w = [66]:=(by simpa using hc2);rw [if_neg hb2] at hsn;have hw2 : 2≤w.length:=(by rcases how2.1 with h | h | h;exact absurd h hb;exact absurd h hb2;exact h)
    refine zo ?_;refine zn ?_;refine zf zc [] rfl ?_;iterate 2 refine za rfl ?_
    refine za (t:=I64 (w.length : Nat)) rfl ?_;refine yu (a:=(w.length : Int)) (b:=2) rfl rfl z8 ?_;refine xw rfl rfl rfl rfl (show ((w.length : Nat) : Int) - 2 = ((w.length - 2 : Nat) : Int) by omega) (qh z8) ?_;refine za rfl ?_;refine zb ?_;refine zm rfl (fun hc3=>?_) (fun hc3=>?_)
    ·(try simp only [zh] at hc3);have hz : szW w = -((w[w.length - 1]!.toNat : Int) - 48):=(by unfold szW;rw [if_pos (UInt8.toNat.inj (by show _ = 45;omega))])
     refine zw zc [] rfl ?_;refine za rfl ?_;refine za (t:=I64 (-((w[w.length - 1]!.toNat : Int) - 48))) (by show some (T.v (.int .i64 (IntKind.i64.wrap (0 - ((w[w.length - 1]!.toNat : Int) - 48)))),(none : Option (Nat × List T))) = _;rw [wq z8,Int.zero_sub]) ?_;refine za rfl ?_;refine zb ?_;refine zn ?_;refine zf zc [] rfl ?_;refine za rfl ?_;refine xw (m:=0) rfl rfl rfl rfl rfl (qh z8) ?_;refine za rfl ?_;refine zb ?_;refine zm rfl (fun hc4=>?_) (fun hc4=>?_)
     ·(try simp only [zh] at hc4);rw [if_pos (UInt8.toNat.inj (by show _ = 76;omega)),hz] at hsn
      refine zf zc [] rfl ?_;iterate 2 refine za rfl ?_
      refine zk rfl rfl rfl rfl rfl yh rfl ?_;refine zb ?_;refine yz ?_;refine zw zc [] rfl ?_;refine za rfl ?_;first | refine zy rfl rfl (by omega) ?_ | refine za rfl ?_
      refine za rfl ?_;refine zb ?_;refine ⟨k + 1,by (try dsimp only);omega,?_,(by refine ⟨[some 0,some 1,some 2],rfl,yo,yn,?_,?_⟩ <;> (repeat' first | exact trivial | exact ym | exact yq | exact yp rfl | refine yb ?_ ?_ | refine z4 rfl ?_ ?_ | refine zx ?_ ?_ | refine yk rfl ?_ | fail) <;> first | exact xd | (first | exact CvL.pure rfl | exact Cv.pure (by simp only [T.pure,hpw]) | (rw [hsn];exact CvL.cons (Cv.slc rfl (.inl rfl)) (CvL.pure rfl)) | exact CvL.eq (by rw [hsn]) (zp _ _)))⟩
      (try dsimp only);omega
     ·(try simp only [zh] at hc4);rw [if_neg (fun h=>hc4 (by rw [h];rfl)),hz] at hsn
      refine zo ?_;refine zw zc [48] rfl ?_;refine za rfl ?_;first | refine za rfl ?_ | refine zd rfl rfl zj ?_ | refine ze rfl rfl rfl zj ?_
      refine za rfl ?_;refine ya rfl rfl ?_;refine' yw rfl rfl rfl rfl rfl rfl rfl rfl ?h1 ?h2 ?h3 ?h4 ?h5 ?_
      case h1=>rw [ye,t8];(try dsimp only);omega
      case h2=>exact Nat.le_trans (Nat.mul_le_mul_right _ (show _≤200000 by omega)) (by decide)
      case h3=>omega
      case h4=>rfl
      case h5=>rfl
      refine za rfl ?_;refine zk rfl rfl rfl rfl rfl yh rfl ?_;refine zb ?_;refine zw zc [] rfl ?_;refine za rfl ?_;first | refine zy rfl rfl (by omega) ?_ | refine za rfl ?_
      refine za rfl ?_;refine zb ?_;refine ⟨k + 1,by (try dsimp only);omega,?_,(by refine ⟨[some 0,some 1,some 3],rfl,yo,yn,?_,?_⟩ <;> (repeat' first | exact trivial | exact ym | exact yq | exact yp rfl | refine yb ?_ ?_ | refine z4 rfl ?_ ?_ | refine zx ?_ ?_ | refine yk rfl ?_ | fail) <;> first | exact xd | (first | exact CvL.pure rfl | exact Cv.pure (by simp only [T.pure,hpw]) | (rw [hsn,List.length_append];exact CvL.cons (Cv.slc rfl (.inr rfl)) (CvL.pure rfl)) | exact CvL.eq (by rw [hsn,yr,List.drop_zero,List.take_of_length_le (by rw [ye,t8];exact Nat.le_refl _)];rfl) (zp _ _)))⟩
      (try dsimp only);omega
    ·(try simp only [zh] at hc3);have hz : szW w = (w[w.length - 1]!.toNat : Int) - 48:=(by unfold szW;rw [if_neg (fun h=>hc3 (by rw [h];rfl))])
     refine zo ?_;refine zn ?_;refine zf zc [] rfl ?_;refine za rfl ?_;refine xw (m:=0) rfl rfl rfl rfl rfl (qh z8) ?_;refine za rfl ?_;refine zb ?_;refine zm rfl (fun hc4=>?_) (fun hc4=>?_)
     ·(try simp only [zh] at hc4);rw [if_pos (UInt8.toNat.inj (by show _ = 76;omega)),hz] at hsn
      refine zf zc [] rfl ?_;iterate 2 refine za rfl ?_
      refine zk rfl rfl rfl rfl rfl yh rfl ?_;refine zb ?_;refine yz ?_;refine zw zc [] rfl ?_;refine za rfl ?_;first | refine zy rfl rfl (by omega) ?_ | refine za rfl ?_
      refine za rfl ?_;refine zb ?_;refine ⟨k + 1,by (try dsimp only);omega,?_,(by refine ⟨[some 0,some 1,some 2],rfl,yo,yn,?_,?_⟩ <;> (repeat' first | exact trivial | exact ym | exact yq | exact yp rfl | refine yb ?_ ?_ | refine z4 rfl ?_ ?_ | refine zx ?_ ?_ | refine yk rfl ?_ | fail) <;> first | exact xd | (first | exact CvL.pure rfl | exact Cv.pure (by simp only [T.pure,hpw]) | (rw [hsn];exact CvL.cons (Cv.slc rfl (.inl rfl)) (CvL.pure rfl)) | exact CvL.eq (by rw [hsn]) (zp _ _)))⟩
      (try dsimp only);omega
     ·(try simp only [zh] at hc4);rw [if_neg (fun h=>hc4 (by rw [h];rfl)),hz] at hsn
      refine zo ?_;refine zw zc [48] rfl ?_;refine za rfl ?_;first | refine za rfl ?_ | refine zd rfl rfl zj ?_ | refine ze rfl rfl rfl zj ?_
      refine za rfl ?_;refine ya rfl rfl ?_;refine' yw rfl rfl rfl rfl rfl rfl rfl rfl ?h1 ?h2 ?h3 ?h4 ?h5 ?_
      case h1=>rw [ye,t8];(try dsimp only);omega
      case h2=>exact Nat.le_trans (Nat.mul_le_mul_right _ (show _≤200000 by omega)) (by decide)
      case h3=>omega
      case h4=>rfl
      case h5=>rfl
      refine za rfl ?_;refine zk rfl rfl rfl rfl rfl yh rfl ?_;refine zb ?_;refine zw zc [] rfl ?_;refine za rfl ?_;first | refine zy rfl rfl (by omega) ?_ | refine za rfl ?_
      refine za rfl ?_;refine zb ?_;refine ⟨k + 1,by (try dsimp only);omega,?_,(by refine ⟨[some 0,some 1,some 3],rfl,yo,yn,?_,?_⟩ <;> (repeat' first | exact trivial | exact ym | exact yq | exact yp rfl | refine yb ?_ ?_ | refine z4 rfl ?_ ?_ | refine zx ?_ ?_ | refine yk rfl ?_ | fail) <;> first | exact xd | (first | exact CvL.pure rfl | exact Cv.pure (by simp only [T.pure,hpw]) | (rw [hsn,List.length_append];exact CvL.cons (Cv.slc rfl (.inr rfl)) (CvL.pure rfl)) | exact CvL.eq (by rw [hsn,yr,List.drop_zero,List.take_of_length_le (by rw [ye,t8];exact Nat.le_refl _)];rfl) (zp _ _)))⟩
      (try dsimp only);omega
 ·(try simp only [zh] at hc0);obtain rfl : k = ws.length:=(by omega);rw [List.take_length]
  refine yz ?_;refine zf zc [] rfl ?_;first | refine za rfl ?_ | refine zd rfl rfl zj ?_ | refine ze rfl rfl rfl zj ?_
  refine zk rfl rfl rfl rfl rfl yh rfl ?_;refine zb ?_;refine zq ?_;exact ⟨trivial,_,rfl,Cv.agg (CvL.cons (Cv.fslc0 ⟨rfl,by simp⟩ (CvL.pure hpu)) (CvL.pure rfl))⟩
end

section
open Go.RowKit
set_option maxRecDepth 100000
set_option maxHeartbeats 2000000
def slcC (f : Func) : List T:=((opsC (f.body.getD .skip)).findSome? (fun o=>match opM tab (fun _=>none) 0 (Env.opd []) o.op with | some (_,some (_,cs))=>some cs | _=>none)).getD []
def strO (t : T) : List UInt8:=match t with | .v (.string a)=>a.data.toList | _=>[]
noncomputable def rplL : List (List UInt8):=(slcC Tryz.f89).map strO
noncomputable def evtL : List (List UInt8):=(slcC Tryz.f91).map strO
theorem zjo : rplL.length = 58:=by kernel_rfl
theorem zkf : evtL.length = 25:=by kernel_rfl
def okL (s : List UInt8) : Bool:=decide (s.length≤1000) && decide ((partsN s 32).length≤1000) && (partsN s 32).all okW
def repChk (l : List (List UInt8)) : Bool:=(List.range 58).all fun k=>(l[k]! == [45] || okL l[k]!) && (reN ((k + 1 : Nat) : Int) == if l[k]! = [45] then none else some (wOf (partsN l[k]! 32)).fx.length)
def evtChk (l : List (List UInt8)) : Bool:=(List.range 25).all fun k=>decide (l[k]!.length≤1000) && decide (2≤(partsN l[k]! 124).length) && okL (partsN l[k]! 124)[1]! && (evN ((k + 1 : Nat) : Int) == some (wOf (partsN (partsN l[k]! 124)[1]! 32)).fx.length)
theorem rep_ok : repChk rplL = true:=by kernel_rfl
theorem evt_ok : evtChk evtL = true:=by kernel_rfl
theorem rep_at (n : Nat) (h1 : 1≤n) (h2 : n≤58) : (rplL[n - 1]! = [45]∨okL rplL[n - 1]! = true)∧reN (n : Int) = if rplL[n - 1]! = [45] then none else some (wOf (partsN rplL[n - 1]! 32)).fx.length:=by
 have h:=List.all_eq_true.1 rep_ok (n - 1) (List.mem_range.2 (by omega))
 rw [show n - 1 + 1 = n by omega] at h
 simpa using h
theorem evt_at (n : Nat) (h1 : 1≤n) (h2 : n≤25) : evtL[n - 1]!.length≤1000∧2≤(partsN evtL[n - 1]! 124).length∧okL (partsN evtL[n - 1]! 124)[1]! = true∧evN (n : Int) = some (wOf (partsN (partsN evtL[n - 1]! 124)[1]! 32)).fx.length:=by
 have h:=List.all_eq_true.1 evt_ok (n - 1) (List.mem_range.2 (by omega))
 rw [show n - 1 + 1 = n by omega] at h
 simpa [and_assoc] using h
theorem zgy : CallP Tryz.prog 89 [] (.islc (encL cStr rplL) 58 (some 58)):=by
 have h : CallP Tryz.prog 89 [] (.islc (slcC Tryz.f89) 58 (some 58)):=by
  refine CallP.intro2 z5 z5 ?_;refine CallT.intro zc Tryz.func89 rfl (by kernel_rfl) (Nat.le_of_ble_eq_true rfl) ?_;refine zf zc [] rfl ?_;refine za rfl ?_;refine zb ?_;refine zf zc [1] rfl ?_;refine ya rfl rfl ?_;refine za rfl ?_;refine zb ?_;refine zq ?_;exact ⟨trivial,_,rfl,Cv.eq (by kernel_rfl) (by kernel_rfl)⟩
 rw [show slcC Tryz.f89 = encL cStr rplL by kernel_rfl] at h
 exact h
theorem zkh : CallP Tryz.prog 91 [] (.islc (encL cStr evtL) 25 (some 25)):=by
 have h : CallP Tryz.prog 91 [] (.islc (slcC Tryz.f91) 25 (some 25)):=by
  refine CallP.intro2 z5 z5 ?_;refine CallT.intro zc Tryz.func91 rfl (by kernel_rfl) (Nat.le_of_ble_eq_true rfl) ?_;refine zf zc [] rfl ?_;refine za rfl ?_;refine zb ?_;refine zf zc [1] rfl ?_;refine ya rfl rfl ?_;refine za rfl ?_;refine zb ?_;refine zq ?_;exact ⟨trivial,_,rfl,Cv.eq (by kernel_rfl) (by kernel_rfl)⟩
 rw [show slcC Tryz.f91 = encL cStr evtL by kernel_rfl] at h
 exact h
theorem reply03 (code : Int) : FormT 57 code (reN code):=by
 have hre:=zgy
 have hpr:=zp cStr rplL
 have hl:=zjo
 have hlL : (encL cStr rplL).length = 58:=by rw [ye,uo,hl]
 by_cases h : code < 1∨58 < code
 ·rw [show reN code = none from by unfold reN;repeat rw [if_neg (by omega)]]
  refine ⟨fm0,?_,fun k hk=>by cases hk⟩
  show CallP _ _ _ (.tup [fmT fm0,BL false])
  have hat0 : rplL[0]? = some rplL[0]!:=getE (by omega)
  refine CallP.intro2 z5 z5 ?_;refine CallT.intro zc Tryz.func57 rfl (by kernel_rfl) (Nat.le_of_ble_eq_true rfl) ?_;refine zf zc [] rfl ?_;refine yc rfl rfl ?_;refine za rfl ?_;refine zb ?_;refine zn ?_;refine zf zc [] rfl ?_;iterate 3 refine za rfl ?_
  refine' zu (d:=11) [_,_,_,_,_] rfl ?_ rfl ?_
  rotate_left
  ·refine zt rfl rfl (fun hb1_2=>?_) (fun hb1_2=>?_)
   ·have ghb1_2:=hb1_2
    try simp only [zh,Bool.not_true,Bool.not_false] at ghb1_2
    refine za rfl ?_;refine zg rfl rfl hb1_2 ?_;refine zi rfl rfl rfl (hre) ?_;refine zg rfl rfl hb1_2 ?_;refine za rfl ?_;refine zg rfl rfl hb1_2 ?_;refine za rfl ?_;refine zr rfl (fun _=>rfl) ?_;exact zb ⟨rfl,rfl⟩
   ·refine zl rfl rfl hb1_2 ?_;iterate 2 refine zl rfl rfl hb1_2 ?_
    exact zr rfl (fun h=>absurd (h.symm.trans hb1_2) (by decide)) (zb ⟨rfl,rfl⟩)
  refine za rfl ?_;refine' zu (d:=19) [_,_,_,_,_,_,_] rfl ?_ rfl ?_
  rotate_left
  ·refine zt rfl rfl (fun hb1_8=>?_) (fun hb1_8=>?_)
   ·have ghb1_8:=hb1_8
    try simp only [zh,Bool.not_true,Bool.not_false] at ghb1_8
    refine zi rfl rfl rfl (hre) ?_;refine zg rfl rfl hb1_8 ?_;refine za rfl ?_;refine zg rfl rfl hb1_8 ?_;refine yu (a:=code) (b:=1) rfl rfl z8 ?_;refine zg rfl rfl hb1_8 ?_;refine z9 (m:=0) rfl rfl rfl rfl rfl z8 z8 ?_;refine zg rfl rfl hb1_8 ?_;refine zd rfl rfl (z6 cStr (m:=0) hat0 (by decide) rfl) ?_;refine zg rfl rfl hb1_8 ?_;refine wj rfl rfl ?_;refine zr rfl (fun _=>rfl) ?_;exact zb ⟨rfl,rfl⟩
   ·refine zl rfl rfl hb1_8 ?_;iterate 4 refine zl rfl rfl hb1_8 ?_
    exact zr rfl (fun h=>absurd (h.symm.trans hb1_8) (by decide)) (zb ⟨rfl,rfl⟩)
  refine zb ?_;refine zm rfl (fun hc0=>?_) (fun hc0=>?_)
  ·(try simp only [zh] at hc0)
   refine zf zc [] rfl ?_;refine za rfl ?_;refine zk rfl rfl rfl rfl rfl yh rfl ?_;refine za rfl ?_;refine zb ?_;refine zq ?_;exact ⟨trivial,_,rfl,Cv.tup (CvL.cons (Cv.agg (CvL.cons (Cv.nil _ (.inl rfl)) (CvL.pure rfl))) (CvL.cons (Cv.pure rfl) CvL.nil))⟩
  ·(try simp only [zh] at hc0);omega
 ·obtain ⟨n,rfl⟩:=Int.eq_ofNat_of_zero_le (show 0≤code by omega)
  obtain ⟨h1,h2⟩:=rep_at n (by omega) (by omega)
  have hat : rplL[n - 1]? = some rplL[n - 1]!:=getE (by omega)
  rw [h2]
  by_cases hd : rplL[n - 1]! = [45]
  ·rw [if_pos hd]
   refine ⟨fm0,?_,fun k hk=>by cases hk⟩
   show CallP _ _ _ (.tup [fmT fm0,BL false])
   refine CallP.intro2 z5 z5 ?_;refine CallT.intro zc Tryz.func57 rfl (by kernel_rfl) (Nat.le_of_ble_eq_true rfl) ?_;refine zf zc [] rfl ?_;refine yc rfl rfl ?_;refine za rfl ?_;refine zb ?_;refine zn ?_;refine zf zc [] rfl ?_;iterate 3 refine za rfl ?_
   refine' zu (d:=11) [_,_,_,_,_] rfl ?_ rfl ?_
   rotate_left
   ·refine zt rfl rfl (fun hb1_2=>?_) (fun hb1_2=>?_)
    ·have ghb1_2:=hb1_2
     try simp only [zh,Bool.not_true,Bool.not_false] at ghb1_2
     refine za rfl ?_;refine zg rfl rfl hb1_2 ?_;refine zi rfl rfl rfl (hre) ?_;refine zg rfl rfl hb1_2 ?_;refine za rfl ?_;refine zg rfl rfl hb1_2 ?_;refine za rfl ?_;refine zr rfl (fun _=>rfl) ?_;exact zb ⟨rfl,rfl⟩
    ·refine zl rfl rfl hb1_2 ?_;iterate 2 refine zl rfl rfl hb1_2 ?_
     exact zr rfl (fun h=>absurd (h.symm.trans hb1_2) (by decide)) (zb ⟨rfl,rfl⟩)
   refine za rfl ?_;refine' zu (d:=19) [_,_,_,_,_,_,_] rfl ?_ rfl ?_
   rotate_left
   ·refine zt rfl rfl (fun hb1_8=>?_) (fun hb1_8=>?_)
    ·have ghb1_8:=hb1_8
     try simp only [zh,Bool.not_true,Bool.not_false] at ghb1_8
     refine zi rfl rfl rfl (hre) ?_;refine zg rfl rfl hb1_8 ?_;refine za rfl ?_;refine zg rfl rfl hb1_8 ?_;refine yu (a:=(n : Int)) (b:=1) rfl rfl z8 ?_;refine zg rfl rfl hb1_8 ?_;refine z9 (m:=n - 1) rfl rfl rfl rfl rfl z8 z8 ?_;refine zg rfl rfl hb1_8 ?_;refine zd rfl rfl (z6 cStr (m:=n - 1) hat (by decide) rfl) ?_;refine zg rfl rfl hb1_8 ?_;refine wj rfl rfl ?_;refine zr rfl (fun _=>rfl) ?_;exact zb ⟨rfl,rfl⟩
    ·refine zl rfl rfl hb1_8 ?_;iterate 4 refine zl rfl rfl hb1_8 ?_
     exact zr rfl (fun h=>absurd (h.symm.trans hb1_8) (by decide)) (zb ⟨rfl,rfl⟩)
   refine zb ?_;refine zm rfl (fun hc0=>?_) (fun hc0=>?_)
   ·(try simp only [zh] at hc0)
    refine zf zc [] rfl ?_;refine za rfl ?_;refine zk rfl rfl rfl rfl rfl yh rfl ?_;refine za rfl ?_;refine zb ?_;refine zq ?_;exact ⟨trivial,_,rfl,Cv.tup (CvL.cons (Cv.agg (CvL.cons (Cv.nil _ (.inl rfl)) (CvL.pure rfl))) (CvL.cons (Cv.pure rfl) CvL.nil))⟩
   ·(try simp only [zh] at hc0);simp_all
  ·rw [if_neg hd]
   have h1:=h1.resolve_left hd
   unfold okL at h1
   simp only [Bool.and_eq_true,decide_eq_true_eq] at h1
   have hfo:=zek rplL[n - 1]! h1.1.1 h1.1.2 h1.2
   generalize wOf (partsN rplL[n - 1]! 32) = m at *
   refine ⟨m,?_,fun k hk=>by injection hk⟩
   have hpm:=u1 m
   show CallP _ _ _ (.tup [fmT m,BL true])
   generalize rplL[n - 1]! = s9 at *
   refine CallP.intro2 z5 z5 ?_;refine CallT.intro zc Tryz.func57 rfl (by kernel_rfl) (Nat.le_of_ble_eq_true rfl) ?_;refine zf zc [] rfl ?_;refine yc rfl rfl ?_;refine za rfl ?_;refine zb ?_;refine zn ?_;refine zf zc [] rfl ?_;iterate 3 refine za rfl ?_
   refine' zu (d:=11) [_,_,_,_,_] rfl ?_ rfl ?_
   rotate_left
   ·refine zt rfl rfl (fun hb1_2=>?_) (fun hb1_2=>?_)
    ·have ghb1_2:=hb1_2
     try simp only [zh,Bool.not_true,Bool.not_false] at ghb1_2
     refine za rfl ?_;refine zg rfl rfl hb1_2 ?_;refine zi rfl rfl rfl (hre) ?_;refine zg rfl rfl hb1_2 ?_;refine za rfl ?_;refine zg rfl rfl hb1_2 ?_;refine za rfl ?_;refine zr rfl (fun _=>rfl) ?_;exact zb ⟨rfl,rfl⟩
    ·refine zl rfl rfl hb1_2 ?_;iterate 2 refine zl rfl rfl hb1_2 ?_
     exact zr rfl (fun h=>absurd (h.symm.trans hb1_2) (by decide)) (zb ⟨rfl,rfl⟩)
   refine za rfl ?_;refine' zu (d:=19) [_,_,_,_,_,_,_] rfl ?_ rfl ?_
   rotate_left
   ·refine zt rfl rfl (fun hb1_8=>?_) (fun hb1_8=>?_)
    ·have ghb1_8:=hb1_8
     try simp only [zh,Bool.not_true,Bool.not_false] at ghb1_8
     refine zi rfl rfl rfl (hre) ?_;refine zg rfl rfl hb1_8 ?_;refine za rfl ?_;refine zg rfl rfl hb1_8 ?_;refine yu (a:=(n : Int)) (b:=1) rfl rfl z8 ?_;refine zg rfl rfl hb1_8 ?_;refine z9 (m:=n - 1) rfl rfl rfl rfl rfl z8 z8 ?_;refine zg rfl rfl hb1_8 ?_;refine zd rfl rfl (z6 cStr (m:=n - 1) hat (by decide) rfl) ?_;refine zg rfl rfl hb1_8 ?_;refine wj rfl rfl ?_;refine zr rfl (fun _=>rfl) ?_;exact zb ⟨rfl,rfl⟩
    ·refine zl rfl rfl hb1_8 ?_;iterate 4 refine zl rfl rfl hb1_8 ?_
     exact zr rfl (fun h=>absurd (h.symm.trans hb1_8) (by decide)) (zb ⟨rfl,rfl⟩)
   refine zb ?_;refine zm rfl (fun hc0=>?_) (fun hc0=>?_)
   ·(try simp only [zh] at hc0);rcases hc0 with h9 | h9;(omega);(exact absurd (by simpa using h9) hd)
   ·(try simp only [zh] at hc0)
    refine zo ?_;refine zf zc [] rfl ?_;refine zi rfl rfl rfl (hre) ?_;refine za rfl ?_;refine yu (a:=(n : Int)) (b:=1) rfl rfl z8 ?_;refine z9 (m:=n - 1) rfl rfl rfl rfl rfl z8 z8 ?_;refine zd rfl rfl (z6 cStr (m:=n - 1) hat (by decide) rfl) ?_;refine zi rfl rfl rfl (hfo) ?_;refine zk rfl rfl rfl rfl rfl yh rfl ?_;refine za rfl ?_;refine zb ?_;refine zq ?_;exact ⟨trivial,_,rfl,Cv.tup (CvL.cons (Cv.agg (CvL.eq rfl hpm)) (CvL.cons (Cv.pure rfl) CvL.nil))⟩
theorem event03 (code : Int) : FormT 58 code (evN code):=by
 have hre:=zkh
 have hpr:=zp cStr evtL
 have hl:=zkf
 by_cases h : code < 1∨25 < code
 ·rw [show evN code = none from if_pos h]
  refine ⟨fm0,?_,fun k hk=>by cases hk⟩
  show CallP _ _ _ (.tup [fmT fm0,BL false])
  generalize encL cStr evtL = L at *
  refine CallP.intro2 z5 z5 ?_;refine CallT.intro zc Tryz.func58 rfl (by kernel_rfl) (Nat.le_of_ble_eq_true rfl) ?_;refine zf zc [] rfl ?_;refine yc rfl rfl ?_;refine za rfl ?_;refine zb ?_;refine zn ?_;refine zf zc [] rfl ?_;iterate 3 refine za rfl ?_
  refine' zu (d:=11) [_,_,_,_,_] rfl ?_ rfl ?_
  rotate_left
  ·refine zt rfl rfl (fun hb1_2=>?_) (fun hb1_2=>?_)
   ·have ghb1_2:=hb1_2
    try simp only [zh,Bool.not_true,Bool.not_false] at ghb1_2
    refine za rfl ?_;refine zg rfl rfl hb1_2 ?_;refine zi rfl rfl rfl (hre) ?_;refine zg rfl rfl hb1_2 ?_;refine za rfl ?_;refine zg rfl rfl hb1_2 ?_;refine za rfl ?_;refine zr rfl (fun _=>rfl) ?_;exact zb ⟨rfl,rfl⟩
   ·refine zl rfl rfl hb1_2 ?_;iterate 2 refine zl rfl rfl hb1_2 ?_
    exact zr rfl (fun h=>absurd (h.symm.trans hb1_2) (by decide)) (zb ⟨rfl,rfl⟩)
  refine zb ?_;refine zm rfl (fun hc0=>?_) (fun hc0=>?_)
  ·(try simp only [zh] at hc0)
   refine zf zc [] rfl ?_;refine za rfl ?_;refine zk rfl rfl rfl rfl rfl yh rfl ?_;refine za rfl ?_;refine zb ?_;refine zq ?_;exact ⟨trivial,_,rfl,Cv.tup (CvL.cons (Cv.agg (CvL.cons (Cv.nil _ (.inl rfl)) (CvL.pure rfl))) (CvL.cons (Cv.pure rfl) CvL.nil))⟩
  ·(try simp only [zh] at hc0);omega
 ·obtain ⟨n,rfl⟩:=Int.eq_ofNat_of_zero_le (show 0≤code by omega)
  obtain ⟨h1,h2,h3,h4⟩:=evt_at n (by omega) (by omega)
  have hat : evtL[n - 1]? = some evtL[n - 1]!:=getE (by omega)
  have hat2 : (partsN evtL[n - 1]! 124)[1]? = some (partsN evtL[n - 1]! 124)[1]!:=getE (by omega)
  have hpa:=zg5 evtL[n - 1]! 124 (by omega)
  have hpp:=zp cStr (partsN evtL[n - 1]! 124)
  unfold okL at h3
  simp only [Bool.and_eq_true,decide_eq_true_eq] at h3
  rw [h4]
  have hfo:=zek (partsN evtL[n - 1]! 124)[1]! h3.1.1 h3.1.2 h3.2
  generalize wOf (partsN (partsN evtL[n - 1]! 124)[1]! 32) = m at *
  refine ⟨m,?_,fun k hk=>by injection hk⟩
  have hpm:=u1 m
  show CallP _ _ _ (.tup [fmT m,BL true])
  generalize (partsN evtL[n - 1]! 124)[1]! = s8 at *
  generalize partsN evtL[n - 1]! 124 = l9 at *
  generalize evtL[n - 1]! = s9 at *
  refine CallP.intro2 z5 z5 ?_;refine CallT.intro zc Tryz.func58 rfl (by kernel_rfl) (Nat.le_of_ble_eq_true rfl) ?_;refine zf zc [] rfl ?_;refine yc rfl rfl ?_;refine za rfl ?_;refine zb ?_;refine zn ?_;refine zf zc [] rfl ?_;iterate 3 refine za rfl ?_
  refine' zu (d:=11) [_,_,_,_,_] rfl ?_ rfl ?_
  rotate_left
  ·refine zt rfl rfl (fun hb1_2=>?_) (fun hb1_2=>?_)
   ·have ghb1_2:=hb1_2
    try simp only [zh,Bool.not_true,Bool.not_false] at ghb1_2
    refine za rfl ?_;refine zg rfl rfl hb1_2 ?_;refine zi rfl rfl rfl (hre) ?_;refine zg rfl rfl hb1_2 ?_;refine za rfl ?_;refine zg rfl rfl hb1_2 ?_;refine za rfl ?_;refine zr rfl (fun _=>rfl) ?_;exact zb ⟨rfl,rfl⟩
   ·refine zl rfl rfl hb1_2 ?_;iterate 2 refine zl rfl rfl hb1_2 ?_
    exact zr rfl (fun h=>absurd (h.symm.trans hb1_2) (by decide)) (zb ⟨rfl,rfl⟩)
  refine zb ?_;refine zm rfl (fun hc0=>?_) (fun hc0=>?_)
  ·(try simp only [zh] at hc0);omega
  ·(try simp only [zh] at hc0)
   refine zo ?_;refine zf zc [] rfl ?_;refine zi rfl rfl rfl (hre) ?_;refine za rfl ?_;refine yu (a:=(n : Int)) (b:=1) rfl rfl z8 ?_;refine z9 (m:=n - 1) rfl rfl rfl rfl rfl z8 z8 ?_;refine zd rfl rfl (z6 cStr (m:=n - 1) hat (by decide) rfl) ?_;refine zi rfl rfl rfl (hpa) ?_;refine z9 (m:=1) rfl rfl rfl rfl rfl rfl z8 ?_;refine zd rfl rfl (z6 cStr (m:=1) hat2 (by decide) rfl) ?_;refine zi rfl rfl rfl (hfo) ?_;refine zk rfl rfl rfl rfl rfl yh rfl ?_;refine za rfl ?_;refine zb ?_;refine zq ?_;exact ⟨trivial,_,rfl,Cv.tup (CvL.cons (Cv.agg (CvL.eq rfl hpm)) (CvL.cons (Cv.pure rfl) CvL.nil))⟩
theorem uz (o : Ot) : CallP Tryz.prog 31 [otT o] (BL (wholeB o)):=by
 have hot:=x4 o
 obtain ⟨m1,hre,hl1⟩:=reply03 o.code
 obtain ⟨m2,hev,hl2⟩:=event03 o.code
 have hm1:=u1 m1
 have hm2:=u1 m2
 unfold wholeB
 refine CallP.intro2 z5 z5 ?_;refine CallT.intro zc Tryz.func31 rfl (by kernel_rfl) (Nat.le_of_ble_eq_true rfl) ?_;refine zf zc [1] rfl ?_;refine ya rfl rfl ?_;refine za rfl ?_;refine zb ?_;refine zn ?_;refine zf zc [] rfl ?_;refine za rfl ?_;first | refine za rfl ?_ | refine zd rfl rfl zj ?_ | refine ze rfl rfl rfl zj ?_
 refine zb ?_;refine yf ?_;refine zf zc [] rfl ?_;iterate 2 refine za rfl ?_
 refine zb ?_;refine zm rfl (fun hc0=>?_) (fun hc0=>?_)
 ·(try simp only [zh] at hc0);rw [if_pos hc0]
  refine zf zc [] rfl ?_;refine za rfl ?_;first | refine za rfl ?_ | refine zd rfl rfl zj ?_ | refine ze rfl rfl rfl zj ?_
  refine zi rfl rfl rfl (hre) ?_;iterate 3 refine za rfl ?_
  refine yc rfl rfl ?_;refine zk rfl rfl rfl rfl rfl yh rfl ?_;refine za rfl ?_;refine zb ?_;refine zf zc [] rfl ?_;iterate 2 refine za rfl ?_
  refine' zu (d:=26) [_,_,_,_,_,_,_,_] rfl ?_ rfl ?_
  rotate_left
  ·refine zt rfl rfl (fun hb4_1=>?_) (fun hb4_1=>?_)
   ·have ghb4_1:=hb4_1
    try simp only [zh,Bool.not_true,Bool.not_false] at ghb4_1
    refine za rfl ?_;refine zg rfl rfl hb4_1 ?_;first | refine za rfl ?_ | refine zd rfl rfl zj ?_ | refine ze rfl rfl rfl zj ?_
    refine zg rfl rfl hb4_1 ?_;refine za rfl ?_;refine zg rfl rfl hb4_1 ?_;refine za rfl ?_;refine zg rfl rfl hb4_1 ?_;first | refine za rfl ?_ | refine zd rfl rfl zj ?_ | refine ze rfl rfl rfl zj ?_
    refine zg rfl rfl hb4_1 ?_;refine za rfl ?_;refine zg rfl rfl hb4_1 ?_;refine za rfl ?_;refine z3 rfl (fun _=>rfl) ?_;exact zb ⟨rfl,rfl⟩
   ·refine zl rfl rfl hb4_1 ?_;iterate 5 refine zl rfl rfl hb4_1 ?_
    exact z3 rfl (fun h=>absurd (h.symm.trans hb4_1) (by decide)) (zb ⟨rfl,rfl⟩)
  refine za rfl ?_;refine zb ?_;refine zq ?_;exact ⟨trivial,_,rfl,Cv.eq (by cases hr : reN o.code with | none=>rfl | some k=>rw [← hl1 k hr];show T.v (.bool (true && decide ((m1.fx.length : Int)≤(o.n.length : Int)))) = BL (decide (m1.fx.length≤o.n.length));rw [Bool.true_and];congr 3;exact propext Int.ofNat_le) rfl⟩
 ·(try simp only [zh] at hc0);rw [if_neg hc0]
  refine zf zc [] rfl ?_;iterate 2 refine za rfl ?_
  refine zb ?_;refine zm rfl (fun hc1=>?_) (fun hc1=>?_)
  ·(try simp only [zh] at hc1);rw [if_pos hc1]
   refine zf zc [] rfl ?_;refine za rfl ?_;first | refine za rfl ?_ | refine zd rfl rfl zj ?_ | refine ze rfl rfl rfl zj ?_
   refine zi rfl rfl rfl (hev) ?_;iterate 3 refine za rfl ?_
   refine yc rfl rfl ?_;refine zk rfl rfl rfl rfl rfl yh rfl ?_;refine za rfl ?_;refine zb ?_;refine zf zc [] rfl ?_;iterate 2 refine za rfl ?_
   refine' zu (d:=44) [_,_,_,_,_,_,_,_] rfl ?_ rfl ?_
   rotate_left
   ·refine zt rfl rfl (fun hb7_1=>?_) (fun hb7_1=>?_)
    ·have ghb7_1:=hb7_1
     try simp only [zh,Bool.not_true,Bool.not_false] at ghb7_1
     refine za rfl ?_;refine zg rfl rfl hb7_1 ?_;first | refine za rfl ?_ | refine zd rfl rfl zj ?_ | refine ze rfl rfl rfl zj ?_
     refine zg rfl rfl hb7_1 ?_;refine za rfl ?_;refine zg rfl rfl hb7_1 ?_;refine za rfl ?_;refine zg rfl rfl hb7_1 ?_;first | refine za rfl ?_ | refine zd rfl rfl zj ?_ | refine ze rfl rfl rfl zj ?_
     refine zg rfl rfl hb7_1 ?_;refine za rfl ?_;refine zg rfl rfl hb7_1 ?_;refine za rfl ?_;refine z3 rfl (fun _=>rfl) ?_;exact zb ⟨rfl,rfl⟩
    ·refine zl rfl rfl hb7_1 ?_;iterate 5 refine zl rfl rfl hb7_1 ?_
     exact z3 rfl (fun h=>absurd (h.symm.trans hb7_1) (by decide)) (zb ⟨rfl,rfl⟩)
   refine za rfl ?_;refine zb ?_;refine zq ?_;exact ⟨trivial,_,rfl,Cv.eq (by cases hr : evN o.code with | none=>rfl | some k=>rw [← hl2 k hr];show T.v (.bool (true && decide ((m2.fx.length : Int)≤(o.n.length : Int)))) = BL (decide (m2.fx.length≤o.n.length));rw [Bool.true_and];congr 3;exact propext Int.ofNat_le) rfl⟩
  ·(try simp only [zh] at hc1);rw [if_neg hc1]
   refine zo ?_;refine zf zc [] rfl ?_;refine za rfl ?_;refine zb ?_;refine zq ?_;exact ⟨trivial,_,rfl,Cv.eq rfl rfl⟩
end

section
open Go.RowKit
set_option maxRecDepth 100000
set_option maxHeartbeats 2000000
def Ed.ev55 (e : Ed) (code : Int) (n : List Int) : Ed × List Rq:=
 if n[0]!≠e.win then (e,[])
 else if code = 1 then (e.wc (e.c.key n[2]! (n[3]! % 256)),e.keyR n[2]! (n[3]! % 256) n[8]!)
 else if code = 3 then (e.wc { e.c with cur:=e.pt n,anc:=e.pt n },[])
 else if code = 5 then (if n[3]! / 256 % 2 = 0 then (e,[]) else (e.wc { e.c with cur:=e.pt n },[]))
 else if code = 22 then (e.clearN n,[])
 else if code = 23 then (e,e.givR n)
 else if code = 24 then e.notiN n
 else (e,[])
theorem zh3 (e : Ed) (hw : e.W) (hf : e.c.few) (hcn : 0≤e.cnt∧e.cnt≤900000000) (o : Ot) (hn : nOk o.n) (L1 : o.code = 1→9≤o.n.length) (L3 : o.code = 3→9≤o.n.length) (L5 : o.code = 5→9≤o.n.length) (L22 : o.code = 22→3≤o.n.length) (L23 : o.code = 23→6≤o.n.length) (L24 : o.code = 24→5≤o.n.length) :
  CallP Tryz.prog 34 [rxT e.R,otT o] (.tup [rxT (e.ev55 o.code o.n).1.R,rqN (e.ev55 o.code o.n).2]):=by
 have hpx:=yd e.R
 have hot:=x4 o
 have hpn:=zp cI o.n
 have hlow:=fun h=>low55_p o.n[3]! h
 have hky:=fun c m t h=>keyW_p e hw.o hf c m t h
 have hat:=fun h=>at55_p e hw o.n hn h
 have hgv:=fun h=>zfo e hw o.n h
 have hpg:=zp cRq (e.givR o.n)
 have t0 : e.R.cnt = e.cnt:=rfl
 have tw : e.R.win = e.win:=rfl
 have g0 : o.n[0]!≠e.win→e.ev55 o.code o.n = (e,[]):=fun h=>by unfold Ed.ev55;rw [if_pos h]
 have g1 : o.n[0]! = e.win→o.code = 1→e.ev55 o.code o.n = (e.wc (e.c.key o.n[2]! (o.n[3]! % 256)),e.keyR o.n[2]! (o.n[3]! % 256) o.n[8]!):=fun h h1=>by unfold Ed.ev55;rw [if_neg (by simpa using h),if_pos h1]
 have g3 : o.n[0]! = e.win→o.code = 3→e.ev55 o.code o.n = (e.wc { e.c with cur:=e.pt o.n,anc:=e.pt o.n },[]):=fun h h1=>by unfold Ed.ev55;rw [if_neg (by simpa using h),if_neg (by omega),if_pos h1]
 have g5 : o.n[0]! = e.win→o.code = 5→¬ o.n[3]! / 256 % 2 = 0→e.ev55 o.code o.n = (e.wc { e.c with cur:=e.pt o.n },[]):=fun h h1 h2=>by unfold Ed.ev55;rw [if_neg (by simpa using h),if_neg (by omega),if_neg (by omega),if_pos h1,if_neg h2]
 have g5b : o.code = 5→o.n[3]! / 256 % 2 = 0→e.ev55 o.code o.n = (e,[]):=fun h1 h2=>by
  by_cases h : o.n[0]! = e.win
  ·unfold Ed.ev55;rw [if_neg (by simpa using h),if_neg (by omega),if_neg (by omega),if_pos h1,if_pos h2]
  ·exact g0 h
 have g22 : o.n[0]! = e.win→o.code = 22→o.n[1]! = 3→e.ev55 o.code o.n = (e.wc { e.c with cop:=[] },[]):=fun h h1 h2=>by unfold Ed.ev55 Ed.clearN;rw [if_neg (by simpa using h),if_neg (by omega),if_neg (by omega),if_neg (by omega),if_pos h1,if_pos h2]
 have g22b : o.code = 22→¬ (o.n[0]! = e.win∧o.n[1]! = 3)→e.ev55 o.code o.n = (e,[]):=fun h1 h2=>by
  by_cases h : o.n[0]! = e.win
  ·unfold Ed.ev55 Ed.clearN;rw [if_neg (by simpa using h),if_neg (by omega),if_neg (by omega),if_neg (by omega),if_pos h1,if_neg (fun h3=>h2 ⟨h,h3⟩)]
  ·exact g0 h
 have g23 : o.n[0]! = e.win→o.code = 23→e.ev55 o.code o.n = (e,e.givR o.n):=fun h h1=>by unfold Ed.ev55;rw [if_neg (by simpa using h),if_neg (by omega),if_neg (by omega),if_neg (by omega),if_neg (by omega),if_pos h1]
 have g24 : o.n[0]! = e.win→o.code = 24→o.n[1]! = 3→o.n[3]! = 9→e.ev55 o.code o.n = ({ e with asked:=e.cnt + 1 },[⟨15,[e.win,9,4,0,4096,1],[],[]⟩]):=fun h h1 h2 h3=>by unfold Ed.ev55 Ed.notiN;rw [if_neg (by simpa using h),if_neg (by omega),if_neg (by omega),if_neg (by omega),if_neg (by omega),if_neg (by omega),if_pos h1,if_neg (by omega)]
 have g24b : o.code = 24→¬ ((o.n[0]! = e.win∧o.n[1]! = 3)∧o.n[3]! = 9)→e.ev55 o.code o.n = (e,[]):=fun h1 h2=>by
  by_cases h : o.n[0]! = e.win
  ·unfold Ed.ev55 Ed.notiN;rw [if_neg (by simpa using h),if_neg (by omega),if_neg (by omega),if_neg (by omega),if_neg (by omega),if_neg (by omega),if_pos h1,if_pos (by omega)]
  ·exact g0 h
 have gN : ¬ o.code = 1→¬ o.code = 3→¬ o.code = 5→¬ o.code = 22→¬ o.code = 23→¬ o.code = 24→e.ev55 o.code o.n = (e,[]):=fun h1 h2 h3 h4 h5 h6=>by
  by_cases h : o.n[0]! = e.win
  ·unfold Ed.ev55;rw [if_neg (by simpa using h),if_neg h1,if_neg h2,if_neg h3,if_neg h4,if_neg h5,if_neg h6]
  ·exact g0 h
 have hk2 : CallP Tryz.prog 61 [rxT e.R,I64 o.n[2]!,I64 (o.n[3]! % 65536 % 256),I64 o.n[8]!] (.tup [rxT (e.wc (e.c.key o.n[2]! (o.n[3]! % 256))).R,rqN (e.keyR o.n[2]! (o.n[3]! % 256) o.n[8]!)]):=by
  have hmm : ∀ v : Int,v % (65536 : Int) % (256 : Int) = v % (256 : Int):=fun v=>by omega
  rw [hmm]
  exact hky _ _ _ (by omega)
 have hkp:=yd (e.wc (e.c.key o.n[2]! (o.n[3]! % 256))).R
 have hkr:=ui (e.keyR o.n[2]! (o.n[3]! % 256) o.n[8]!)
 have hgN : rqN (e.givR o.n) = rqT (e.givR o.n):=by unfold Ed.givR;split <;> rfl
 have hqN:=ui
 generalize e.ev55 o.code o.n = p at *
 refine CallP.intro2 z5 z5 ?_;refine CallT.intro zc Tryz.func34 rfl (by kernel_rfl) (Nat.le_of_ble_eq_true rfl) ?_;refine zf zc [3] rfl ?_;refine yc rfl rfl ?_;refine ya rfl rfl ?_;refine yc rfl rfl ?_;refine za rfl ?_;refine zb ?_;refine zf zc [] rfl ?_;refine za rfl ?_;first | refine za rfl ?_ | refine zd rfl rfl zj ?_ | refine ze rfl rfl rfl zj ?_
 refine za rfl ?_;refine zb ?_;refine zn ?_;refine zf zc [] rfl ?_;refine za rfl ?_;first | refine za rfl ?_ | refine zd rfl rfl zj ?_ | refine ze rfl rfl rfl zj ?_
 refine zb ?_;refine yf ?_;refine zf zc [] rfl ?_;iterate 2 refine za rfl ?_
 refine zb ?_;refine zm rfl (fun hc0=>?_) (fun hc0=>?_)
 ·(try simp only [zh] at hc0);have hl:=L1 hc0;have hr3:=hn.at (i:=3) (by omega)
  refine yv zc [] [_,_,_,_,_,_] rfl yj yj ?_;refine za rfl ?_;refine z9 (m:=0) rfl rfl rfl rfl rfl rfl z8 ?_;refine xu (m:=0) rfl rfl rfl rfl z8 ?_;refine za rfl ?_;first | refine za rfl ?_ | refine zd rfl rfl zj ?_ | refine ze rfl rfl rfl zj ?_
  refine za rfl ?_;iterate 2 refine zb ?_
  refine zm rfl (fun hc1=>?_) (fun hc1=>?_)
  ·(try simp only [zh] at hc1);obtain rfl:=g1 hc1 hc0
   refine sa zc [] [_,_,_,_,_,_,_,_,_,_,_,_,_,_,_] [true,true,true,true,true,true,true,true,true,true,true,true,true,true,true] rfl yj yj yj yj ?_;refine uy true (l1:=[_,_,_,_,_,_,_,_,_,_,_,_,_,_,_]) rfl ?_;first | refine za rfl ?_ | refine zd rfl rfl zj ?_ | refine ze rfl rfl rfl zj ?_
   refine za rfl ?_;refine z9 (m:=2) rfl rfl rfl rfl rfl rfl z8 ?_;refine xu (m:=2) rfl rfl rfl rfl z8 ?_;refine za rfl ?_;refine z9 (m:=3) rfl rfl rfl rfl rfl rfl z8 ?_;refine xu (m:=3) rfl rfl rfl rfl z8 ?_;refine zi rfl rfl rfl ((hlow hr3)) ?_;refine zi2 (a:=o.n[3]! % 65536) (c:=256) rfl rfl z8 z8 ?_;refine za rfl ?_;refine z9 (m:=8) rfl rfl rfl rfl rfl rfl z8 ?_;refine xu (m:=8) rfl rfl rfl rfl z8 ?_;refine zi rfl rfl rfl (hk2) ?_;iterate 2 refine za rfl ?_
   refine zb ⟨rfl,?_⟩
   refine pz (trivial) ⟨rfl,?_⟩
   refine zk rfl rfl rfl rfl rfl yh rfl ?_;refine za rfl ?_;refine zb ?_;refine zq ?_;first | exact ⟨trivial,_,rfl,out55 rfl⟩ | exact ⟨trivial,_,rfl,Cv.eq rfl (by simp only [T.pure,T.pureL,hkp,hkr,hpx,hpg,zp];rfl)⟩ | (refine ⟨trivial,_,rfl,Cv.tup (CvL.cons (Cv.eq rfl (yd _)) (CvL.cons ?_ CvL.nil))⟩;refine (show Cv _ _ (rqT _) from ?_);exact xq)
  ·(try simp only [zh] at hc1);obtain rfl:=g0 hc1
   refine zo ?_;refine zf zc [] rfl ?_;first | refine za rfl ?_ | refine zd rfl rfl zj ?_ | refine ze rfl rfl rfl zj ?_
   refine zk rfl rfl rfl rfl rfl yh rfl ?_;refine za rfl ?_;refine zb ?_;refine zq ?_;first | exact ⟨trivial,_,rfl,out55 rfl⟩ | exact ⟨trivial,_,rfl,Cv.eq rfl (by simp only [T.pure,T.pureL,hkp,hkr,hpx,hpg,zp];rfl)⟩ | (refine ⟨trivial,_,rfl,Cv.tup (CvL.cons (Cv.eq rfl (yd _)) (CvL.cons ?_ CvL.nil))⟩;refine (show Cv _ _ (rqT _) from ?_);exact xq)
 ·(try simp only [zh] at hc0)
  refine zf zc [] rfl ?_;iterate 2 refine za rfl ?_
  refine zb ?_;refine zm rfl (fun hc2=>?_) (fun hc2=>?_)
  ·(try simp only [zh] at hc2);have hl:=L3 hc2
   refine yv zc [] [_,_,_,_,_,_] rfl yj yj ?_;refine za rfl ?_;refine z9 (m:=0) rfl rfl rfl rfl rfl rfl z8 ?_;refine xu (m:=0) rfl rfl rfl rfl z8 ?_;refine za rfl ?_;first | refine za rfl ?_ | refine zd rfl rfl zj ?_ | refine ze rfl rfl rfl zj ?_
   refine za rfl ?_;iterate 2 refine zb ?_
   refine zm rfl (fun hc3=>?_) (fun hc3=>?_)
   ·(try simp only [zh] at hc3);obtain rfl:=g3 hc3 hc2
    refine yv zc [] [_,_,_,_,_,_,_,_,_] rfl yj yj ?_;first | refine za rfl ?_ | refine zd rfl rfl zj ?_ | refine ze rfl rfl rfl zj ?_
    refine za rfl ?_;refine z9 (m:=4) rfl rfl rfl rfl rfl rfl z8 ?_;refine xu (m:=4) rfl rfl rfl rfl z8 ?_;refine za rfl ?_;refine z9 (m:=5) rfl rfl rfl rfl rfl rfl z8 ?_;refine xu (m:=5) rfl rfl rfl rfl z8 ?_;refine zi rfl rfl rfl ((hat z8)) ?_;refine za rfl ?_;refine zb ?_;refine zk rfl rfl rfl rfl rfl yh rfl ?_;refine zb ?_;refine zw zc [] rfl ?_;refine za rfl ?_;first | refine za rfl ?_ | refine zd rfl rfl zj ?_ | refine ze rfl rfl rfl zj ?_
    refine za rfl ?_;refine zk rfl rfl rfl rfl rfl yh rfl ?_;refine zb ?_;refine zf zc [] rfl ?_;first | refine za rfl ?_ | refine zd rfl rfl zj ?_ | refine ze rfl rfl rfl zj ?_
    refine zk rfl rfl rfl rfl rfl yh rfl ?_;refine za rfl ?_;refine zb ?_;refine zq ?_;first | exact ⟨trivial,_,rfl,out55 rfl⟩ | exact ⟨trivial,_,rfl,Cv.eq rfl (by simp only [T.pure,T.pureL,hkp,hkr,hpx,hpg,zp];rfl)⟩ | (refine ⟨trivial,_,rfl,Cv.tup (CvL.cons (Cv.eq rfl (yd _)) (CvL.cons ?_ CvL.nil))⟩;refine (show Cv _ _ (rqT _) from ?_);exact xq)
   ·(try simp only [zh] at hc3);obtain rfl:=g0 hc3
    refine zo ?_;refine zf zc [] rfl ?_;first | refine za rfl ?_ | refine zd rfl rfl zj ?_ | refine ze rfl rfl rfl zj ?_
    refine zk rfl rfl rfl rfl rfl yh rfl ?_;refine za rfl ?_;refine zb ?_;refine zq ?_;first | exact ⟨trivial,_,rfl,out55 rfl⟩ | exact ⟨trivial,_,rfl,Cv.eq rfl (by simp only [T.pure,T.pureL,hkp,hkr,hpx,hpg,zp];rfl)⟩ | (refine ⟨trivial,_,rfl,Cv.tup (CvL.cons (Cv.eq rfl (yd _)) (CvL.cons ?_ CvL.nil))⟩;refine (show Cv _ _ (rqT _) from ?_);exact xq)
  ·(try simp only [zh] at hc2)
   refine zf zc [] rfl ?_;iterate 2 refine za rfl ?_
   refine zb ?_;refine zm rfl (fun hc4=>?_) (fun hc4=>?_)
   ·(try simp only [zh] at hc4);have hl:=L5 hc4;have hr3:=hn.at (i:=3) (by omega)
    refine yv zc [] [_,_,_,_,_,_,_,_,_,_,_,_,_,_,_] rfl yj yj ?_;refine za rfl ?_;refine z9 (m:=0) rfl rfl rfl rfl rfl rfl z8 ?_;refine xu (m:=0) rfl rfl rfl rfl z8 ?_;refine za rfl ?_;first | refine za rfl ?_ | refine zd rfl rfl zj ?_ | refine ze rfl rfl rfl zj ?_
    iterate 2 refine za rfl ?_
    refine' zu (d:=70) [_,_,_,_,_,_,_,_] rfl ?_ rfl ?_
    rotate_left
    ·refine zt rfl rfl (fun hb11_6=>?_) (fun hb11_6=>?_)
     ·have ghb11_6:=hb11_6
      try simp only [zh,Bool.not_true,Bool.not_false] at ghb11_6
      refine za rfl ?_;refine zg rfl rfl hb11_6 ?_;refine z9 (m:=3) rfl rfl rfl rfl rfl rfl z8 ?_;refine zg rfl rfl hb11_6 ?_;refine xu (m:=3) rfl rfl rfl rfl z8 ?_;refine zg rfl rfl hb11_6 ?_;refine zi rfl rfl rfl ((hlow hr3)) ?_;refine zg rfl rfl hb11_6 ?_;refine yi rfl rfl z8 z8 z8 ?_;refine zg rfl rfl hb11_6 ?_;refine zi2 rfl rfl z8 z8 ?_;refine zg rfl rfl hb11_6 ?_;refine za rfl ?_;refine z3 rfl (fun _=>rfl) ?_;exact zb ⟨rfl,rfl⟩
     ·refine zl rfl rfl hb11_6 ?_;iterate 5 refine zl rfl rfl hb11_6 ?_
      exact z3 rfl (fun h=>absurd (h.symm.trans hb11_6) (by decide)) (zb ⟨rfl,rfl⟩)
    iterate 2 refine zb ?_
    refine zm rfl (fun hc5=>?_) (fun hc5=>?_)
    ·(try simp only [zh] at hc5);obtain rfl:=g5 hc5.1 hc4 (by omega)
     refine u6 zc [] [_,_,_,_,_,_,_,_,_] rfl yj yj ?_;first | refine za rfl ?_ | refine zd rfl rfl zj ?_ | refine ze rfl rfl rfl zj ?_
     refine za rfl ?_;refine z9 (m:=4) rfl rfl rfl rfl rfl rfl z8 ?_;refine xu (m:=4) rfl rfl rfl rfl z8 ?_;refine za rfl ?_;refine z9 (m:=5) rfl rfl rfl rfl rfl rfl z8 ?_;refine xu (m:=5) rfl rfl rfl rfl z8 ?_;refine zi rfl rfl rfl ((hat z8)) ?_;refine za rfl ?_;refine zb ?_;refine zk rfl rfl rfl rfl rfl yh rfl ?_;refine zb ?_;refine zf zc [] rfl ?_;first | refine za rfl ?_ | refine zd rfl rfl zj ?_ | refine ze rfl rfl rfl zj ?_
     refine zk rfl rfl rfl rfl rfl yh rfl ?_;refine za rfl ?_;refine zb ?_;refine zq ?_;first | exact ⟨trivial,_,rfl,out55 rfl⟩ | exact ⟨trivial,_,rfl,Cv.eq rfl (by simp only [T.pure,T.pureL,hkp,hkr,hpx,hpg,zp];rfl)⟩ | (refine ⟨trivial,_,rfl,Cv.tup (CvL.cons (Cv.eq rfl (yd _)) (CvL.cons ?_ CvL.nil))⟩;refine (show Cv _ _ (rqT _) from ?_);exact xq)
    ·(try simp only [zh] at hc5);obtain rfl:=(by by_cases hq : o.n[0]! = e.win;(exact g5b hc4 (by have:=hc5 hq;omega));(exact g0 hq) : p = (e,[]))
     refine zo ?_;refine zf zc [] rfl ?_;first | refine za rfl ?_ | refine zd rfl rfl zj ?_ | refine ze rfl rfl rfl zj ?_
     refine zk rfl rfl rfl rfl rfl yh rfl ?_;refine za rfl ?_;refine zb ?_;refine zq ?_;first | exact ⟨trivial,_,rfl,out55 rfl⟩ | exact ⟨trivial,_,rfl,Cv.eq rfl (by simp only [T.pure,T.pureL,hkp,hkr,hpx,hpg,zp];rfl)⟩ | (refine ⟨trivial,_,rfl,Cv.tup (CvL.cons (Cv.eq rfl (yd _)) (CvL.cons ?_ CvL.nil))⟩;refine (show Cv _ _ (rqT _) from ?_);exact xq)
   ·(try simp only [zh] at hc4)
    refine zf zc [] rfl ?_;iterate 2 refine za rfl ?_
    refine zb ?_;refine zm rfl (fun hc6=>?_) (fun hc6=>?_)
    ·(try simp only [zh] at hc6);have hl:=L22 hc6
     refine yv zc [] [_,_,_,_,_,_,_,_,_,_,_,_] rfl yj yj ?_;refine za rfl ?_;refine z9 (m:=0) rfl rfl rfl rfl rfl rfl z8 ?_;refine xu (m:=0) rfl rfl rfl rfl z8 ?_;refine za rfl ?_;first | refine za rfl ?_ | refine zd rfl rfl zj ?_ | refine ze rfl rfl rfl zj ?_
     iterate 2 refine za rfl ?_
     refine' zu (d:=93) [_,_,_,_,_] rfl ?_ rfl ?_
     rotate_left
     ·refine zt rfl rfl (fun hb14_6=>?_) (fun hb14_6=>?_)
      ·have ghb14_6:=hb14_6
       try simp only [zh,Bool.not_true,Bool.not_false] at ghb14_6
       refine za rfl ?_;refine zg rfl rfl hb14_6 ?_;refine z9 (m:=1) rfl rfl rfl rfl rfl rfl z8 ?_;refine zg rfl rfl hb14_6 ?_;refine xu (m:=1) rfl rfl rfl rfl z8 ?_;refine zg rfl rfl hb14_6 ?_;refine za rfl ?_;refine z3 rfl (fun _=>rfl) ?_;exact zb ⟨rfl,rfl⟩
      ·refine zl rfl rfl hb14_6 ?_;iterate 2 refine zl rfl rfl hb14_6 ?_
       exact z3 rfl (fun h=>absurd (h.symm.trans hb14_6) (by decide)) (zb ⟨rfl,rfl⟩)
     iterate 2 refine zb ?_
     refine zm rfl (fun hc7=>?_) (fun hc7=>?_)
     ·(try simp only [zh] at hc7);obtain rfl:=g22 hc7.1 hc6 hc7.2
      refine zw zc [] rfl ?_;refine za rfl ?_;refine zk rfl rfl rfl rfl rfl yh rfl ?_;refine zb ?_;refine zf zc [] rfl ?_;first | refine za rfl ?_ | refine zd rfl rfl zj ?_ | refine ze rfl rfl rfl zj ?_
      refine zk rfl rfl rfl rfl rfl yh rfl ?_;refine za rfl ?_;refine zb ?_;refine zq ?_;first | exact ⟨trivial,_,rfl,out55 rfl⟩ | exact ⟨trivial,_,rfl,Cv.eq rfl (by simp only [T.pure,T.pureL,hkp,hkr,hpx,hpg,zp];rfl)⟩ | (refine ⟨trivial,_,rfl,Cv.tup (CvL.cons (Cv.eq rfl (yd _)) (CvL.cons ?_ CvL.nil))⟩;refine (show Cv _ _ (rqT _) from ?_);exact xq)
     ·(try simp only [zh] at hc7);obtain rfl:=g22b hc6 (by first | exact hc7 | (intro h;exact hc7 h.1 h.2))
      refine zo ?_;refine zf zc [] rfl ?_;first | refine za rfl ?_ | refine zd rfl rfl zj ?_ | refine ze rfl rfl rfl zj ?_
      refine zk rfl rfl rfl rfl rfl yh rfl ?_;refine za rfl ?_;refine zb ?_;refine zq ?_;first | exact ⟨trivial,_,rfl,out55 rfl⟩ | exact ⟨trivial,_,rfl,Cv.eq rfl (by simp only [T.pure,T.pureL,hkp,hkr,hpx,hpg,zp];rfl)⟩ | (refine ⟨trivial,_,rfl,Cv.tup (CvL.cons (Cv.eq rfl (yd _)) (CvL.cons ?_ CvL.nil))⟩;refine (show Cv _ _ (rqT _) from ?_);exact xq)
    ·(try simp only [zh] at hc6)
     refine zf zc [] rfl ?_;iterate 2 refine za rfl ?_
     refine zb ?_;refine zm rfl (fun hc8=>?_) (fun hc8=>?_)
     ·(try simp only [zh] at hc8);have hl:=L23 hc8
      refine yv zc [] [_,_,_,_,_,_] rfl yj yj ?_;refine za rfl ?_;refine z9 (m:=0) rfl rfl rfl rfl rfl rfl z8 ?_;refine xu (m:=0) rfl rfl rfl rfl z8 ?_;refine za rfl ?_;first | refine za rfl ?_ | refine zd rfl rfl zj ?_ | refine ze rfl rfl rfl zj ?_
      refine za rfl ?_;iterate 2 refine zb ?_
      refine zm rfl (fun hc9=>?_) (fun hc9=>?_)
      ·(try simp only [zh] at hc9);obtain rfl:=g23 hc9 hc8;rw [hgN]
       refine sa zc [] [_,_,_,_] [true,true,true,true] rfl yj yj yj yj ?_;refine uy true (l1:=[_,_,_,_]) rfl ?_;first | refine za rfl ?_ | refine zd rfl rfl zj ?_ | refine ze rfl rfl rfl zj ?_
       first | refine za rfl ?_ | refine zd rfl rfl zj ?_ | refine ze rfl rfl rfl zj ?_
       refine za rfl ?_;refine zi rfl rfl rfl ((hgv z8)) ?_;refine zb ⟨rfl,?_⟩
       refine pz (trivial) ⟨rfl,?_⟩
       refine zk rfl rfl rfl rfl rfl yh rfl ?_;refine za rfl ?_;refine zb ?_;refine zq ?_;first | exact ⟨trivial,_,rfl,out55 rfl⟩ | exact ⟨trivial,_,rfl,Cv.eq rfl (by simp only [T.pure,T.pureL,hkp,hkr,hpx,hpg,zp];rfl)⟩ | (refine ⟨trivial,_,rfl,Cv.tup (CvL.cons (Cv.eq rfl (yd _)) (CvL.cons ?_ CvL.nil))⟩;refine (show Cv _ _ (rqT _) from ?_);exact xq)
      ·(try simp only [zh] at hc9);obtain rfl:=g0 hc9
       refine zo ?_;refine zf zc [] rfl ?_;first | refine za rfl ?_ | refine zd rfl rfl zj ?_ | refine ze rfl rfl rfl zj ?_
       refine zk rfl rfl rfl rfl rfl yh rfl ?_;refine za rfl ?_;refine zb ?_;refine zq ?_;first | exact ⟨trivial,_,rfl,out55 rfl⟩ | exact ⟨trivial,_,rfl,Cv.eq rfl (by simp only [T.pure,T.pureL,hkp,hkr,hpx,hpg,zp];rfl)⟩ | (refine ⟨trivial,_,rfl,Cv.tup (CvL.cons (Cv.eq rfl (yd _)) (CvL.cons ?_ CvL.nil))⟩;refine (show Cv _ _ (rqT _) from ?_);exact xq)
     ·(try simp only [zh] at hc8)
      refine zf zc [] rfl ?_;iterate 2 refine za rfl ?_
      refine zb ?_;refine zm rfl (fun hc10=>?_) (fun hc10=>?_)
      ·(try simp only [zh] at hc10);have hl:=L24 hc10
       refine yv zc [] [_,_,_,_,_,_,_,_,_,_,_,_,_,_,_,_,_,_] rfl yj yj ?_;refine za rfl ?_;refine z9 (m:=0) rfl rfl rfl rfl rfl rfl z8 ?_;refine xu (m:=0) rfl rfl rfl rfl z8 ?_;refine za rfl ?_;first | refine za rfl ?_ | refine zd rfl rfl zj ?_ | refine ze rfl rfl rfl zj ?_
       iterate 2 refine za rfl ?_
       refine' zu (d:=120) [_,_,_,_,_] rfl ?_ rfl ?_
       rotate_left
       ·refine zt rfl rfl (fun hb20_6=>?_) (fun hb20_6=>?_)
        ·have ghb20_6:=hb20_6
         try simp only [zh,Bool.not_true,Bool.not_false] at ghb20_6
         refine za rfl ?_;refine zg rfl rfl hb20_6 ?_;refine z9 (m:=1) rfl rfl rfl rfl rfl rfl z8 ?_;refine zg rfl rfl hb20_6 ?_;refine xu (m:=1) rfl rfl rfl rfl z8 ?_;refine zg rfl rfl hb20_6 ?_;refine za rfl ?_;refine z3 rfl (fun _=>rfl) ?_;exact zb ⟨rfl,rfl⟩
        ·refine zl rfl rfl hb20_6 ?_;iterate 2 refine zl rfl rfl hb20_6 ?_
         exact z3 rfl (fun h=>absurd (h.symm.trans hb20_6) (by decide)) (zb ⟨rfl,rfl⟩)
       refine za rfl ?_;refine' zu (d:=126) [_,_,_,_,_] rfl ?_ rfl ?_
       rotate_left
       ·refine zt rfl rfl (fun hb20_12=>?_) (fun hb20_12=>?_)
        ·have ghb20_12:=hb20_12
         try simp only [zh,Bool.not_true,Bool.not_false] at ghb20_12
         refine za rfl ?_;refine zg rfl rfl hb20_12 ?_;refine z9 (m:=3) rfl rfl rfl rfl rfl rfl z8 ?_;refine zg rfl rfl hb20_12 ?_;refine xu (m:=3) rfl rfl rfl rfl z8 ?_;refine zg rfl rfl hb20_12 ?_;refine za rfl ?_;refine z3 rfl (fun _=>rfl) ?_;exact zb ⟨rfl,rfl⟩
        ·refine zl rfl rfl hb20_12 ?_;iterate 2 refine zl rfl rfl hb20_12 ?_
         exact z3 rfl (fun h=>absurd (h.symm.trans hb20_12) (by decide)) (zb ⟨rfl,rfl⟩)
       iterate 2 refine zb ?_
       refine zm rfl (fun hc11=>?_) (fun hc11=>?_)
       ·(try simp only [zh] at hc11);obtain rfl:=g24 hc11.1.1 hc10 hc11.1.2 hc11.2
        refine zf zc [] rfl ?_;refine za rfl ?_;first | refine za rfl ?_ | refine zd rfl rfl zj ?_ | refine ze rfl rfl rfl zj ?_
        refine zy (a:=e.cnt) (b:=1) rfl rfl z8 ?_;refine za rfl ?_;refine zk rfl rfl rfl rfl rfl yh rfl ?_;refine zb ?_;refine sa zc [134,136] [_,_,_,_,_,_,_] [true,true,true,true,true,false,false] rfl yj yj yj yj ?_;refine uy true (l1:=[_,_,_,_,_]) rfl ?_;first | refine za rfl ?_ | refine zd rfl rfl zj ?_ | refine ze rfl rfl rfl zj ?_
        refine za rfl ?_;first | refine za rfl ?_ | refine zd rfl rfl zj ?_ | refine ze rfl rfl rfl zj ?_
        refine ya rfl rfl ?_;refine zi rfl rfl rfl (u0 15 _ _ _ rfl) ?_;refine zb ⟨rfl,?_⟩
        refine uy false (l1:=[_]) rfl ?_;refine ya rfl rfl ?_;refine zb ⟨rfl,?_⟩
        refine zc2 rfl rfl rfl rfl ?_;refine pz (⟨Nat.le_of_ble_eq_true rfl,rfl,trivial⟩) ⟨rfl,?_⟩
        refine za rfl ?_;refine zb ?_;refine zq ?_;first | exact ⟨trivial,_,rfl,out55 rfl⟩ | exact ⟨trivial,_,rfl,Cv.eq rfl (by simp only [T.pure,T.pureL,hkp,hkr,hpx,hpg,zp];rfl)⟩ | (refine ⟨trivial,_,rfl,Cv.tup (CvL.cons (Cv.eq rfl (yd _)) (CvL.cons ?_ CvL.nil))⟩;refine (show Cv _ _ (rqT _) from ?_);exact xq)
       ·(try simp only [zh] at hc11);obtain rfl:=g24b hc10 (by first | exact hc11 | (intro h;exact hc11 h.1 h.2) | (intro h;exact hc11 h.1.1 h.1.2 h.2))
        refine zo ?_;refine zf zc [] rfl ?_;first | refine za rfl ?_ | refine zd rfl rfl zj ?_ | refine ze rfl rfl rfl zj ?_
        refine zk rfl rfl rfl rfl rfl yh rfl ?_;refine za rfl ?_;refine zb ?_;refine zq ?_;first | exact ⟨trivial,_,rfl,out55 rfl⟩ | exact ⟨trivial,_,rfl,Cv.eq rfl (by simp only [T.pure,T.pureL,hkp,hkr,hpx,hpg,zp];rfl)⟩ | (refine ⟨trivial,_,rfl,Cv.tup (CvL.cons (Cv.eq rfl (yd _)) (CvL.cons ?_ CvL.nil))⟩;refine (show Cv _ _ (rqT _) from ?_);exact xq)
      ·(try simp only [zh] at hc10);obtain rfl:=gN hc0 hc2 hc4 hc6 hc8 hc10
       refine zo ?_;refine zf zc [] rfl ?_;first | refine za rfl ?_ | refine zd rfl rfl zj ?_ | refine ze rfl rfl rfl zj ?_
       refine zk rfl rfl rfl rfl rfl yh rfl ?_;refine za rfl ?_;refine zb ?_;refine zq ?_;first | exact ⟨trivial,_,rfl,out55 rfl⟩ | exact ⟨trivial,_,rfl,Cv.eq rfl (by simp only [T.pure,T.pureL,hkp,hkr,hpx,hpg,zp];rfl)⟩ | (refine ⟨trivial,_,rfl,Cv.tup (CvL.cons (Cv.eq rfl (yd _)) (CvL.cons ?_ CvL.nil))⟩;refine (show Cv _ _ (rqT _) from ?_);exact xq)
end

section
open Go.RowKit
set_option maxRecDepth 100000
set_option maxHeartbeats 2000000
structure Ed.V (e : Ed) : Prop where
 w : e.W
 made : e.made = true
 pen : e.pen = e.win + 1
 win : 0≤e.win∧e.win≤100000000
 few : e.c.few
 seen : e.seen = e
 ask : 0≤e.asked
def Ed.ev56 (e : Ed) (o : Ot) : Ed × List Rq:=
 if o.kind = 2 then e.ev55 o.code o.n else if o.code = 15∧0 < e.asked∧o.seq = e.asked then (e.pasteE o.l,[]) else (e,[])
def Ed.step55 (e : Ed) (o : Ot) : Ed × List Rq:=
 if wholeB o = false then (e,[])
 else if o.kind = 2∧o.code = 10 then (if o.n[0]!≠e.win then (e,[]) else doneE (e,e.expL o.n e.rows))
 else doneE ((e.ev56 o).1.seen,(e.ev56 o).1.seen.redN e.look (e.ev56 o).2 e.rows)
theorem zcq (e : Ed) : doneE (e,[]) = (e,[]):=by
 show (({ e with cnt:=e.cnt + ((([] : List Rq).length : Nat) : Int) } : Ed),([] : List Rq)) = (e,[])
 have : e.cnt + ((([] : List Rq).length : Nat) : Int) = e.cnt:=by simp
 rw [this]
theorem zb3 (e : Ed) (was : Nat→Lk) (l : List Rq) (n : Nat) (h : ∀ y,e.look y = was y) : e.redN was l n = l:=by
 induction n with
 | zero=>exact e.redN_zero was l
 | succ n ih=>rw [Ed.redN_same (h n),ih]
theorem keepE (e e2 : Ed) (l : List Rq) (hs : e2.seen = e2) (hl : ∀ y,e2.look y = e.look y) : doneE (e2.seen,e2.seen.redN e.look l e.rows) = doneE (e2,l):=by
 rw [hs,zb3 e2 e.look l e.rows hl]
theorem pw (e : Ed) (n : List Int) (hs : e.seen = e) : (e.clearN n).seen = e.clearN n∧∀ y,(e.clearN n).look y = e.look y:=by
 unfold Ed.clearN
 split
 ·refine ⟨?_,fun y=>rfl⟩
  have h : (e.wc { e.c with cop:=[] }).seen = { e.seen with c:={ e.c with cop:=[] } }:=rfl
  rw [h,hs]
 ·exact ⟨hs,fun y=>rfl⟩
theorem rp (e : Ed) (n : List Int) (hs : e.seen = e) : (e.notiN n).1.seen = (e.notiN n).1∧∀ y,(e.notiN n).1.look y = e.look y:=by
 unfold Ed.notiN
 split
 ·exact ⟨hs,fun y=>rfl⟩
 ·refine ⟨?_,fun y=>rfl⟩
  have h : ({ e with asked:=e.cnt + 1 } : Ed).seen = { e.seen with asked:=e.cnt + 1 }:=rfl
  show ({ e with asked:=e.cnt + 1 } : Ed).seen = _
  rw [h,hs]
theorem zh6 {e : Ed} (hs : e.seen = e) (o : Ot) (hne : (e.ev56 o).2≠[]) : (e.ev56 o).1.seen = (e.ev56 o).1∧∀ y,(e.ev56 o).1.look y = e.look y:=by
 have hc : ∀ code time,e.cmdR code time≠[]→(e.wc (e.c.cmd code)).seen = e.wc (e.c.cmd code)∧∀ y,(e.wc (e.c.cmd code)).look y = e.look y:=by
  intro code time h
  unfold Ed.cmdR at h
  split at h
  ·rename_i h1
   subst h1
   split at h
   ·rename_i h2
    have h3 : e.c.cmd 99 = { e.c with cop:=(e.c.bf.text.take e.c.hi).drop e.c.lo }:=show (if e.c.lo < e.c.hi then _ else _) = _ from if_pos h2
    rw [h3]
    refine ⟨?_,fun y=>rfl⟩
    have h4 : (e.wc { e.c with cop:=(e.c.bf.text.take e.c.hi).drop e.c.lo }).seen = { e.seen with c:={ e.c with cop:=(e.c.bf.text.take e.c.hi).drop e.c.lo } }:=rfl
    rw [h4,hs]
   ·exact absurd rfl h
  ·split at h
   ·rename_i h1 h2
    subst h2
    exact ⟨hs,fun y=>rfl⟩
   ·exact absurd rfl h
 have hk : ∀ code mods time,e.keyR code mods time≠[]→(e.wc (e.c.key code mods)).seen = e.wc (e.c.key code mods)∧∀ y,(e.wc (e.c.key code mods)).look y = e.look y:=by
  intro code mods time h
  unfold Ed.keyR at h
  split at h
  ·rename_i h1
   rw [show e.c.key code mods = e.c.cmd code by unfold Ec.key;rw [if_pos h1]]
   exact hc code time h
  ·exact absurd rfl h
 unfold Ed.ev56 Ed.ev55 at hne ⊢
 split at hne
 ·rename_i h0
  rw [if_pos h0]
  split at hne
  ·exact absurd rfl hne
  ·rename_i h1
   rw [if_neg h1]
   split at hne
   ·rename_i h2;rw [if_pos h2];exact hk _ _ _ hne
   ·rename_i h2
    rw [if_neg h2]
    split at hne
    ·exact absurd rfl hne
    ·rename_i h3
     rw [if_neg h3]
     split at hne
     ·split at hne <;> exact absurd rfl hne
     ·rename_i h4
      rw [if_neg h4]
      split at hne
      ·exact absurd rfl hne
      ·rename_i h5
       rw [if_neg h5]
       split at hne
       ·rename_i h6;rw [if_pos h6];exact ⟨hs,fun y=>rfl⟩
       ·rename_i h6
        rw [if_neg h6]
        split at hne
        ·rename_i h7;rw [if_pos h7];exact rp e _ hs
        ·exact absurd rfl hne
 ·split at hne <;> exact absurd rfl hne
theorem qw {e : Ed} (hv : e.V) (o : Ot) : e.step55 o = e.step o:=by
 have hs:=hv.seen
 have hm:=hv.made
 have ha:=hv.ask
 have hno : doneE (e.seen,e.seen.redN e.look [] e.rows) = (e,[]):=by rw [keepE e e [] hs (fun y=>rfl),zcq]
 unfold Ed.step55 Ed.step
 by_cases h0 : wholeB o = false
 ·rw [if_pos h0,if_pos (.inr h0)]
 rw [if_neg h0,if_neg (show ¬ (e.made = false∨wholeB o = false) from fun h=>h.elim (fun h=>by rw [hm] at h;cases h) h0)]
 by_cases hk : o.kind = 1
 ·rw [if_pos hk,if_neg (show ¬ (o.kind = 2∧o.code = 10) by omega)]
  unfold Ed.ev56
  rw [if_neg (by omega)]
  by_cases hp : o.code = 15∧0 < e.asked∧o.seq = e.asked
  ·rw [if_pos hp,if_neg (by omega)]
   rfl
  ·rw [if_neg hp,if_pos (by omega)]
   exact hno
 ·rw [if_neg hk]
  have hk2 : o.kind = 2:=by
   unfold wholeB at h0
   rw [if_neg hk] at h0
   by_cases h2 : o.kind = 2
   ·exact h2
   ·rw [if_neg h2] at h0;exact absurd rfl h0
  by_cases hw : o.n[0]!≠e.win
  ·rw [if_pos hw,if_pos hw]
   split
   ·rfl
   ·have : e.ev56 o = (e,[]):=by unfold Ed.ev56 Ed.ev55;rw [if_pos hk2,if_pos hw]
    rw [this];exact hno
  rw [if_neg hw,if_neg hw]
  unfold Ed.evs
  by_cases c1 : o.code = 10
  ·rw [if_pos c1,if_pos ⟨hk2,c1⟩]
  rw [if_neg c1,if_neg (fun h=>c1 h.2)]
  have hee : e.ev56 o = e.ev55 o.code o.n:=by unfold Ed.ev56;rw [if_pos hk2]
  rw [hee]
  unfold Ed.ev55
  rw [if_neg hw]
  by_cases c2 : o.code = 1
  ·rw [if_pos c2,if_pos c2];rfl
  rw [if_neg c2,if_neg c2]
  by_cases c3 : o.code = 3
  ·rw [if_pos c3,if_pos c3];rfl
  rw [if_neg c3,if_neg c3]
  by_cases c4 : o.code = 5
  ·rw [if_pos c4,if_pos c4]
   unfold Ed.movedN
   by_cases hq : o.n[3]! / 256 % 2 = 0
   ·rw [if_pos hq,if_pos hq]
    dsimp only
    rw [hno,zcq]
   ·rw [if_neg hq,if_neg hq];rfl
  rw [if_neg c4,if_neg c4]
  by_cases c5 : o.code = 22
  ·rw [if_pos c5,if_neg (show ¬ o.code = 23 by omega),if_neg (show ¬ o.code = 24 by omega),if_pos c5]
   exact keepE e _ [] (pw e _ hs).1 (pw e _ hs).2
  rw [if_neg c5]
  by_cases c6 : o.code = 23
  ·rw [if_pos c6,if_pos c6]
   exact keepE e e _ hs (fun y=>rfl)
  rw [if_neg c6,if_neg c6]
  by_cases c7 : o.code = 24
  ·rw [if_pos c7,if_pos c7]
   exact keepE e _ _ (rp e _ hs).1 (rp e _ hs).2
  rw [if_neg c7,if_neg c7,if_neg c5]
  exact hno
end

section
open Go.RowKit
set_option maxRecDepth 100000
set_option maxHeartbeats 2000000
abbrev StepQ (e : Ed) (o : Ot) (p : Ed × List Rq) : Prop:=CallP Tryz.prog 20 [rxT e.R,otT o] (.tup [rxT p.1.R,rqT p.2])
theorem lk_eq55 (a b : Lk) : mEq tab 93 (lkT a) (lkT b) = some (decide (a = b)):=by
 have h : mEq tab 93 (lkT a) (lkT b) = some (((⟨a.let8.toArray⟩ : ByteArray).toList == (⟨b.let8.toArray⟩ : ByteArray).toList) && ((a.fm == b.fm) && ((a.tz == b.tz) && ((a.cu == b.cu) && true)))):=by rfl
 rw [h,zaw]
 obtain ⟨a1,a2,a3,a4⟩:=a
 obtain ⟨b1,b2,b3,b4⟩:=b
 congr 1
 rw [Bool.eq_iff_iff]
 simp [Lk.mk.injEq]
section
variable {q : Bool} {P : Program} {im : List Nat} {ds : List (Option Nat)} {l : List Oper} {E : Env} {H : Hp} {K : Env→Hp→Prop} {d : Nat} {ty : TypeId} {pos : String} {after : Array Edge}
theorem ue [Dr] {x y : Operand} {t2 : Nat} (a b : Lk) (hx : E.opd x = some (lkT a)) (hy : E.opd y = some (lkT b)) (k : VX q P tab im ds l ((d,BL (!decide (a = b))) :: E) H K) : VX q P tab im ds (⟨some d,.binOp .neq 93 x y t2,ty,pos,after,none⟩ :: l) E H K:=by
 refine za (t:=BL (!decide (a = b))) ?_ k
 simp only [opM,hx,hy,mBin,lk_eq55]
end
theorem out56 {v : Vw} {cs : List T} {x : Rx} (h : cs = rxC x) : Cv v (.tup [.agg cs,NIL]) (.tup [rxT x,rqT []]):=by
 subst h
 exact Cv.tup (CvL.cons (Cv.pure (yd x)) (CvL.cons (Cv.nil _ (.inl rfl)) CvL.nil))
theorem zjh (e : Ed) (hw : e.W) (o : Ot) (h : wholeB o = false) : StepQ e o (e,[]):=by
 have hpx:=yd e.R
 have hot:=x4 o
 have hwh:=uz o
 rw [h] at hwh
 show CallP _ _ _ _
 refine CallP.intro2 z5 z5 ?_;refine CallT.intro zc Tryz.func20 rfl (by kernel_rfl) (Nat.le_of_ble_eq_true rfl) ?_;refine zf zc [3] rfl ?_;refine yc rfl rfl ?_;refine ya rfl rfl ?_;refine yc rfl rfl ?_;refine za rfl ?_;refine zb ?_;refine zn ?_;refine zf zc [] rfl ?_;first | refine za rfl ?_ | refine zd rfl rfl zj ?_ | refine ze rfl rfl rfl zj ?_
 refine zi rfl rfl rfl (hwh) ?_;iterate 2 refine za rfl ?_
 refine' zu (d:=19) [_,_,_,_] rfl ?_ rfl ?_
 rotate_left
 ·refine zt rfl rfl (fun hb1_3=>?_) (fun hb1_3=>?_)
  ·have ghb1_3:=hb1_3
   try simp only [zh,Bool.not_true,Bool.not_false] at ghb1_3
   refine za rfl ?_;refine zg rfl rfl hb1_3 ?_;first | refine za rfl ?_ | refine zd rfl rfl zj ?_ | refine ze rfl rfl rfl zj ?_
   refine zg rfl rfl hb1_3 ?_;refine za rfl ?_;refine zr rfl (fun _=>rfl) ?_;exact zb ⟨rfl,rfl⟩
  ·refine zl rfl rfl hb1_3 ?_;refine zl rfl rfl hb1_3 ?_;exact zr rfl (fun h=>absurd (h.symm.trans hb1_3) (by decide)) (zb ⟨rfl,rfl⟩)
 refine zb ?_;refine xi rfl ?_;refine zf zc [] rfl ?_;first | refine za rfl ?_ | refine zd rfl rfl zj ?_ | refine ze rfl rfl rfl zj ?_
 refine zk rfl rfl rfl rfl rfl yh rfl ?_;refine za rfl ?_;refine zb ?_;refine zq ?_;exact ⟨trivial,_,rfl,out56 rfl⟩
theorem zjg (e : Ed) (hw : e.W) (o : Ot) (h : wholeB o = true) (hk : o.kind = 2) (hc : o.code = 10) (hl : 6≤o.n.length) (hne : o.n[0]!≠e.win) : StepQ e o (e,[]):=by
 have hpx:=yd e.R
 have hot:=x4 o
 have hpn:=zp cI o.n
 have hs:=hw.s
 have hwh:=uz o
 rw [h] at hwh
 have hro:=td e hw
 have hpl:=zp cLk (e.lk e.rows)
 have tw : e.R.w = e.w:=rfl
 have tn : e.R.win = e.win:=rfl
 show CallP _ _ _ _
 refine CallP.intro2 z5 z5 ?_;refine CallT.intro zc Tryz.func20 rfl (by kernel_rfl) (Nat.le_of_ble_eq_true rfl) ?_;refine zf zc [3] rfl ?_;refine yc rfl rfl ?_;refine ya rfl rfl ?_;refine yc rfl rfl ?_;refine za rfl ?_;refine zb ?_;refine zn ?_;refine zf zc [] rfl ?_;first | refine za rfl ?_ | refine zd rfl rfl zj ?_ | refine ze rfl rfl rfl zj ?_
 refine zi rfl rfl rfl (hwh) ?_;iterate 2 refine za rfl ?_
 refine' zu (d:=19) [_,_,_,_] rfl ?_ rfl ?_
 rotate_left
 ·refine zt rfl rfl (fun hb1_3=>?_) (fun hb1_3=>?_)
  ·have ghb1_3:=hb1_3
   try simp only [zh,Bool.not_true,Bool.not_false] at ghb1_3
   refine za rfl ?_;refine zg rfl rfl hb1_3 ?_;first | refine za rfl ?_ | refine zd rfl rfl zj ?_ | refine ze rfl rfl rfl zj ?_
   refine zg rfl rfl hb1_3 ?_;refine za rfl ?_;refine zr rfl (fun _=>rfl) ?_;exact zb ⟨rfl,rfl⟩
  ·refine zl rfl rfl hb1_3 ?_;refine zl rfl rfl hb1_3 ?_;exact zr rfl (fun h=>absurd (h.symm.trans hb1_3) (by decide)) (zb ⟨rfl,rfl⟩)
 refine zb ?_;refine zm rfl (fun hc0=>?_) (fun hc0=>?_)
 ·(try simp only [zh] at hc0);rcases hc0 with h9 | h9;(cases h9);(omega)
 ·(try simp only [zh] at hc0)
  refine zo ?_;refine zf zc [] rfl ?_;first | refine za rfl ?_ | refine zd rfl rfl zj ?_ | refine ze rfl rfl rfl zj ?_
  refine zi rfl rfl rfl (hro) ?_;refine za rfl ?_;refine zb ?_;refine zf zc [] rfl ?_;refine za rfl ?_;refine zb ?_;refine zn ?_;refine zf zc [] rfl ?_;refine za rfl ?_;first | refine za rfl ?_ | refine zd rfl rfl zj ?_ | refine ze rfl rfl rfl zj ?_
  iterate 2 refine za rfl ?_
  refine' zu (d:=30) [_,_,_,_] rfl ?_ rfl ?_
  rotate_left
  ·refine zt rfl rfl (fun hb5_3=>?_) (fun hb5_3=>?_)
   ·have ghb5_3:=hb5_3
    try simp only [zh,Bool.not_true,Bool.not_false] at ghb5_3
    refine za rfl ?_;refine zg rfl rfl hb5_3 ?_;first | refine za rfl ?_ | refine zd rfl rfl zj ?_ | refine ze rfl rfl rfl zj ?_
    refine zg rfl rfl hb5_3 ?_;refine za rfl ?_;refine z3 rfl (fun _=>rfl) ?_;exact zb ⟨rfl,rfl⟩
   ·refine zl rfl rfl hb5_3 ?_;refine zl rfl rfl hb5_3 ?_;exact z3 rfl (fun h=>absurd (h.symm.trans hb5_3) (by decide)) (zb ⟨rfl,rfl⟩)
  refine zb ?_;refine zm rfl (fun hc1=>?_) (fun hc1=>?_)
  ·(try simp only [zh] at hc1)
   refine zn ?_;refine yv zc [] [_,_,_,_,_,_,_] rfl yj yj ?_;refine za rfl ?_;first | refine za rfl ?_ | refine zd rfl rfl zj ?_ | refine ze rfl rfl rfl zj ?_
   refine z9 (m:=0) rfl rfl rfl rfl rfl rfl z8 ?_;refine xu (m:=0) rfl rfl rfl rfl z8 ?_;refine za rfl ?_;first | refine za rfl ?_ | refine zd rfl rfl zj ?_ | refine ze rfl rfl rfl zj ?_
   refine za rfl ?_;iterate 2 refine zb ?_
   refine zm rfl (fun hc2=>?_) (fun hc2=>?_)
   ·(try simp only [zh] at hc2)
    refine zf zc [] rfl ?_;first | refine za rfl ?_ | refine zd rfl rfl zj ?_ | refine ze rfl rfl rfl zj ?_
    refine zk rfl rfl rfl rfl rfl yh rfl ?_;refine za rfl ?_;refine zb ?_;refine zq ?_;exact ⟨trivial,_,rfl,out56 rfl⟩
   ·(try simp only [zh] at hc2);omega
  ·(try simp only [zh] at hc1);omega
theorem zjf (e : Ed) (hv : e.V) (hcn : 0≤e.cnt∧e.cnt≤900000000) (o : Ot) (hn : nOk o.n) (h : wholeB o = true) (hk : o.kind = 2) (hc : o.code = 10) (hl : 6≤o.n.length) (hne : o.n[0]! = e.win) : StepQ e o (doneE (e,e.expL o.n e.rows)):=by
 have hw:=hv.w
 have hpx:=yd e.R
 have hot:=x4 o
 have hpn:=zp cI o.n
 have hs:=hw.s
 have hR:=hw.rows
 have hwh:=uz o
 rw [h] at hwh
 have hro:=td e hw
 have hpl:=zp cLk (e.lk e.rows)
 have tw : e.R.w = e.w:=rfl
 have tn : e.R.win = e.win:=rfl
 have h2:=hn.at (i:=2) (by omega)
 have h4:=hn.at (i:=4) (by omega)
 have hel:=e.expL_len o.n
 have e1 : e.h / 6 = ((e.rows : Nat) : Int):=by unfold Ed.rows;omega
 have hdw:=fun y (h : y≤100)=>zcp e hw hv.pen hv.win y h
 show CallP _ _ _ _
 refine CallP.intro2 z5 z5 ?_;refine CallT.intro zc Tryz.func20 rfl (by kernel_rfl) (Nat.le_of_ble_eq_true rfl) ?_;refine zf zc [3] rfl ?_;refine yc rfl rfl ?_;refine ya rfl rfl ?_;refine yc rfl rfl ?_;refine za rfl ?_;refine zb ?_;refine zn ?_;refine zf zc [] rfl ?_;first | refine za rfl ?_ | refine zd rfl rfl zj ?_ | refine ze rfl rfl rfl zj ?_
 refine zi rfl rfl rfl (hwh) ?_;iterate 2 refine za rfl ?_
 refine' zu (d:=19) [_,_,_,_] rfl ?_ rfl ?_
 rotate_left
 ·refine zt rfl rfl (fun hb1_3=>?_) (fun hb1_3=>?_)
  ·have ghb1_3:=hb1_3
   try simp only [zh,Bool.not_true,Bool.not_false] at ghb1_3
   refine za rfl ?_;refine zg rfl rfl hb1_3 ?_;first | refine za rfl ?_ | refine zd rfl rfl zj ?_ | refine ze rfl rfl rfl zj ?_
   refine zg rfl rfl hb1_3 ?_;refine za rfl ?_;refine zr rfl (fun _=>rfl) ?_;exact zb ⟨rfl,rfl⟩
  ·refine zl rfl rfl hb1_3 ?_;refine zl rfl rfl hb1_3 ?_;exact zr rfl (fun h=>absurd (h.symm.trans hb1_3) (by decide)) (zb ⟨rfl,rfl⟩)
 refine zb ?_;refine zm rfl (fun hc0=>?_) (fun hc0=>?_)
 ·(try simp only [zh] at hc0);rcases hc0 with h9 | h9;(cases h9);(omega)
 ·(try simp only [zh] at hc0)
  refine zo ?_;refine zf zc [] rfl ?_;first | refine za rfl ?_ | refine zd rfl rfl zj ?_ | refine ze rfl rfl rfl zj ?_
  refine zi rfl rfl rfl (hro) ?_;refine za rfl ?_;refine zb ?_;refine zf zc [] rfl ?_;refine za rfl ?_;refine zb ?_;refine zn ?_;refine zf zc [] rfl ?_;refine za rfl ?_;first | refine za rfl ?_ | refine zd rfl rfl zj ?_ | refine ze rfl rfl rfl zj ?_
  iterate 2 refine za rfl ?_
  refine' zu (d:=30) [_,_,_,_] rfl ?_ rfl ?_
  rotate_left
  ·refine zt rfl rfl (fun hb5_3=>?_) (fun hb5_3=>?_)
   ·have ghb5_3:=hb5_3
    try simp only [zh,Bool.not_true,Bool.not_false] at ghb5_3
    refine za rfl ?_;refine zg rfl rfl hb5_3 ?_;first | refine za rfl ?_ | refine zd rfl rfl zj ?_ | refine ze rfl rfl rfl zj ?_
    refine zg rfl rfl hb5_3 ?_;refine za rfl ?_;refine z3 rfl (fun _=>rfl) ?_;exact zb ⟨rfl,rfl⟩
   ·refine zl rfl rfl hb5_3 ?_;refine zl rfl rfl hb5_3 ?_;exact z3 rfl (fun h=>absurd (h.symm.trans hb5_3) (by decide)) (zb ⟨rfl,rfl⟩)
  refine zb ?_;refine zm rfl (fun hc1=>?_) (fun hc1=>?_)
  ·(try simp only [zh] at hc1)
   refine zn ?_;refine yv zc [] [_,_,_,_,_,_,_] rfl yj yj ?_;refine za rfl ?_;first | refine za rfl ?_ | refine zd rfl rfl zj ?_ | refine ze rfl rfl rfl zj ?_
   refine z9 (m:=0) rfl rfl rfl rfl rfl rfl z8 ?_;refine xu (m:=0) rfl rfl rfl rfl z8 ?_;refine za rfl ?_;first | refine za rfl ?_ | refine zd rfl rfl zj ?_ | refine ze rfl rfl rfl zj ?_
   refine za rfl ?_;iterate 2 refine zb ?_
   refine zm rfl (fun hc2=>?_) (fun hc2=>?_)
   ·(try simp only [zh] at hc2);omega
   ·(try simp only [zh] at hc2)
    refine zo ?_;refine zn ?_;refine zf zc [] rfl ?_;refine za rfl ?_;refine zb ?_;refine yf ?_;refine yy (σ:=Nat) (fun y=>e.rows - y) (fun y=>y≤e.rows) (fun y=>[(8,I64 (y : Nat)),(2,.ptr 0 0),(4,.ptr 1 0),(7,.slc 2 0 (e.expL o.n y).length 4 none)]) (fun y=>[.c (rxC e.R),.c zRx,.c (encL cRq (e.expL o.n y))]) [3] rfl (0) ?_ ?_ ?_
    ·refine ⟨[some 0,some 1,none],rfl,yo,yn,?_,?_⟩ <;> (repeat' first | exact trivial | exact ym | exact yq | exact yp rfl | refine yb ?_ ?_ | refine z4 rfl ?_ ?_ | refine zx ?_ ?_ | refine yk rfl ?_ | fail) <;> first | exact xd | (first | exact CvL.pure hpx | exact CvL.pure rfl | exact Cv.pure (by simp only [T.pure,hpl]) | exact Cv.pure (by simp only [T.pureL,T.pure,hpn];rfl))
    ·(try dsimp only);omega
    rintro y hy;refine zn ?_;refine zf zc [] rfl ?_;iterate 2 refine za rfl ?_
    first | refine za rfl ?_ | refine zd rfl rfl zj ?_ | refine ze rfl rfl rfl zj ?_
    refine yi rfl rfl (by show 0≤e.h;omega) (by show e.h≤_;omega) z8 ?_;rw [show e.R.h / 6 = e.h / 6 from rfl,e1]
    refine za rfl ?_;refine zb ?_;refine zm rfl (fun hc3=>?_) (fun hc3=>?_)
    ·(try simp only [zh] at hc3);have hyl : y < e.rows:=(by omega);have hdr:=hdw y (by omega);have hdn:=e.drawnR_len y (e.look y);have hely:=hel y;have hT:=@Ed.expL_t e o.n y;have hF:=@Ed.expL_f e o.n y
     refine zo ?_;refine zn ?_;refine yf ?_;refine yv zc [] [_,_,_,_,_,_,_,_,_,_,_,_,_,_,_,_,_,_,_,_,_,_,_,_,_,_,_,_,_] rfl yj yj ?_;refine za rfl ?_;first | refine za rfl ?_ | refine zd rfl rfl zj ?_ | refine ze rfl rfl rfl zj ?_
     refine z9 (m:=4) rfl rfl rfl rfl rfl rfl z8 ?_;refine xu (m:=4) rfl rfl rfl rfl z8 ?_;iterate 2 refine za rfl ?_
     refine' zu (d:=60) [_,_,_,_,_,_,_,_,_] rfl ?_ rfl ?_
     rotate_left
     ·refine zt rfl rfl (fun hb11_5=>?_) (fun hb11_5=>?_)
      ·have ghb11_5:=hb11_5
       try simp only [zh,Bool.not_true,Bool.not_false] at ghb11_5
       refine za rfl ?_;refine zg rfl rfl hb11_5 ?_;first | refine za rfl ?_ | refine zd rfl rfl zj ?_ | refine ze rfl rfl rfl zj ?_
       refine zg rfl rfl hb11_5 ?_;refine z9 (m:=2) rfl rfl rfl rfl rfl rfl z8 ?_;refine zg rfl rfl hb11_5 ?_;refine xu (m:=2) rfl rfl rfl rfl z8 ?_;refine zg rfl rfl hb11_5 ?_;refine za rfl ?_;refine zg rfl rfl hb11_5 ?_;refine vv (a:=6) (b:=(y : Int)) rfl rfl z8 ?_;refine zg rfl rfl hb11_5 ?_;refine zy (a:=6 * (y : Int)) (b:=6) rfl rfl z8 ?_;refine zg rfl rfl hb11_5 ?_;refine za rfl ?_;refine z3 rfl (fun _=>rfl) ?_;exact zb ⟨rfl,rfl⟩
      ·refine zl rfl rfl hb11_5 ?_;iterate 6 refine zl rfl rfl hb11_5 ?_
       exact z3 rfl (fun h=>absurd (h.symm.trans hb11_5) (by decide)) (zb ⟨rfl,rfl⟩)
     refine za rfl ?_;refine' zu (d:=74) [_,_,_,_,_,_,_,_,_,_,_,_,_] rfl ?_ rfl ?_
     rotate_left
     ·refine zt rfl rfl (fun hb11_15=>?_) (fun hb11_15=>?_)
      ·have ghb11_15:=hb11_15
       try simp only [zh,Bool.not_true,Bool.not_false] at ghb11_15
       refine za rfl ?_;refine zg rfl rfl hb11_15 ?_;first | refine za rfl ?_ | refine zd rfl rfl zj ?_ | refine ze rfl rfl rfl zj ?_
       refine zg rfl rfl hb11_15 ?_;refine z9 (m:=2) rfl rfl rfl rfl rfl rfl z8 ?_;refine zg rfl rfl hb11_15 ?_;refine xu (m:=2) rfl rfl rfl rfl z8 ?_;refine zg rfl rfl hb11_15 ?_;refine za rfl ?_;refine zg rfl rfl hb11_15 ?_;first | refine za rfl ?_ | refine zd rfl rfl zj ?_ | refine ze rfl rfl rfl zj ?_
       refine zg rfl rfl hb11_15 ?_;refine z9 (m:=4) rfl rfl rfl rfl rfl rfl z8 ?_;refine zg rfl rfl hb11_15 ?_;refine xu (m:=4) rfl rfl rfl rfl z8 ?_;refine zg rfl rfl hb11_15 ?_;refine zy (a:=o.n[2]!) (b:=o.n[4]!) rfl rfl z8 ?_;refine zg rfl rfl hb11_15 ?_;refine za rfl ?_;refine zg rfl rfl hb11_15 ?_;refine vv (a:=6) (b:=(y : Int)) rfl rfl z8 ?_;refine zg rfl rfl hb11_15 ?_;refine za rfl ?_;refine z3 rfl (fun _=>rfl) ?_;exact zb ⟨rfl,rfl⟩
      ·refine zl rfl rfl hb11_15 ?_;iterate 10 refine zl rfl rfl hb11_15 ?_
       exact z3 rfl (fun h=>absurd (h.symm.trans hb11_15) (by decide)) (zb ⟨rfl,rfl⟩)
     iterate 2 refine zb ?_
     refine zm rfl (fun hc4=>?_) (fun hc4=>?_)
     ·(try simp only [zh] at hc4);have eT:=hT (by unfold meetsB;simp only [Bool.and_eq_true,decide_eq_true_eq];omega)
      refine zw zc [] rfl ?_;refine za rfl ?_;first | refine za rfl ?_ | refine zd rfl rfl zj ?_ | refine ze rfl rfl rfl zj ?_
      refine za rfl ?_;refine zi rfl rfl rfl (hdr) ?_;refine' yw rfl rfl rfl rfl rfl rfl (tt cRq rfl rfl rfl rfl) rfl ?h1 ?h2 ?h3 ?h4 ?h5 ?_
      case h1=>rw [ye,vx];omega
      case h2=>exact Nat.le_trans (Nat.mul_le_mul_right _ (show _≤1000 by omega)) (by decide)
      case h3=>omega
      case h4=>rw [ye];rfl
      case h5=>exact wh _ _
      refine za rfl ?_;refine zb ?_;refine zw zc [] rfl ?_;refine za rfl ?_;first | refine zy rfl rfl (by omega) ?_ | refine za rfl ?_
      refine za rfl ?_;refine zb ?_;refine ⟨y + 1,by (try dsimp only);omega,?_,(by refine ⟨[some 0,some 1,some 3],rfl,yo,yn,?_,?_⟩ <;> (repeat' first | exact trivial | exact ym | exact yq | exact yp rfl | refine yb ?_ ?_ | refine z4 rfl ?_ ?_ | refine zx ?_ ?_ | refine yk rfl ?_ | fail) <;> first | exact xd | (first | exact CvL.pure hpx | exact CvL.pure rfl | exact Cv.pure (by simp only [T.pure,hpl]) | exact Cv.pure (by simp only [T.pureL,T.pure,hpn];rfl) | (rw [eT,List.length_append];exact Cv.slc rfl (.inr rfl)) | exact CvL.eq (by rw [eT,yr,List.drop_zero,List.take_of_length_le (by rw [ye,vx];exact Nat.le_refl _)]) (zp _ _)))⟩
      (try dsimp only);omega
     ·(try simp only [zh] at hc4);have eF:=hF (by unfold meetsB;rw [Bool.eq_false_iff];intro h9;simp only [Bool.and_eq_true,decide_eq_true_eq] at h9;omega)
      refine zo ?_;refine zw zc [] rfl ?_;refine za rfl ?_;first | refine zy rfl rfl (by omega) ?_ | refine za rfl ?_
      refine za rfl ?_;refine zb ?_;refine ⟨y + 1,by (try dsimp only);omega,?_,(by refine ⟨[some 0,some 1,some 2],rfl,yo,yn,?_,?_⟩ <;> (repeat' first | exact trivial | exact ym | exact yq | exact yp rfl | refine yb ?_ ?_ | refine z4 rfl ?_ ?_ | refine zx ?_ ?_ | refine yk rfl ?_ | fail) <;> first | exact xd | (first | exact CvL.pure hpx | exact CvL.pure rfl | exact Cv.pure (by simp only [T.pure,hpl]) | exact Cv.pure (by simp only [T.pureL,T.pure,hpn];rfl) | (rw [eF];exact Cv.slc rfl (.inl rfl)) | exact CvL.eq (by rw [eF]) (zp _ _)))⟩
      (try dsimp only);omega
    ·(try simp only [zh] at hc3);obtain rfl : y = e.rows:=(by omega)
     refine yz ?_;refine zf zc [] rfl ?_;refine za rfl ?_;first | refine za rfl ?_ | refine zd rfl rfl zj ?_ | refine ze rfl rfl rfl zj ?_
     iterate 2 refine za rfl ?_
     refine zy (a:=e.cnt) (b:=((e.expL o.n e.rows).length : Nat)) rfl rfl (by have:=hel e.rows;omega) ?_;refine za rfl ?_;refine zk rfl rfl rfl rfl rfl yh rfl ?_;refine zb ?_;refine zf zc [] rfl ?_;first | refine za rfl ?_ | refine zd rfl rfl zj ?_ | refine ze rfl rfl rfl zj ?_
     refine za rfl ?_;refine zk rfl rfl rfl rfl rfl yh rfl ?_;refine za rfl ?_;refine zb ?_;refine zq ?_;exact ⟨trivial,_,rfl,Cv.tup (CvL.cons (Cv.eq rfl (yd _)) (CvL.cons (Cv.fslc0 ⟨rfl,by simp⟩ (CvL.pure (zp _ _))) CvL.nil))⟩
  ·(try simp only [zh] at hc1);omega
end

section
open Go.RowKit
set_option maxRecDepth 100000
set_option maxHeartbeats 4000000
theorem zgk (e e2 : Ed) (hv : e.V) (hw2 : e2.W) (hpen : e2.seen.pen = e2.seen.win + 1) (hwin : 0≤e2.seen.win∧e2.seen.win≤100000000) (hrw : e2.seen.rows = e.rows) (hcn : 0≤e2.seen.cnt∧e2.seen.cnt≤900000000) (o : Ot) (h : wholeB o = true) (hk : ¬ (o.kind = 2∧o.code = 10)) (hl : o.l.length≤100000)
  (hev : o.kind = 2→CallP Tryz.prog 34 [rxT e.R,otT o] (.tup [rxT e2.R,NIL])) (hpa : ¬ o.kind = 2→o.code = 15∧0 < e.asked∧o.seq = e.asked→e2 = e.pasteE o.l) (hno : ¬ o.kind = 2→¬ (o.code = 15∧0 < e.asked∧o.seq = e.asked)→e2 = e) :
  StepQ e o (doneE (e2.seen,e2.seen.redN e.look [] e.rows)):=by
 have hw:=hv.w
 have hpx:=yd e.R
 have hpx2:=yd e2.R
 have hpx3:=yd e2.seen.R
 have hot:=x4 o
 have hpn:=zp cI o.n
 have hpl0:=zp cI o.l
 have hs:=hw.s
 have hR:=hw.rows
 have hwh:=uz o
 rw [h] at hwh
 have hro:=td e hw
 have hpl:=zp cLk (e.lk e.rows)
 have tw : e.R.w = e.w:=rfl
 have tn : e.R.win = e.win:=rfl
 have ta : e.R.asked = e.asked:=rfl
 have hsc:=qb e2 hw2
 have hw3:=hw2.seen
 have hro3:=td e2.seen hw3
 rw [hrw] at hro3
 have hpl3:=zp cLk (e2.seen.lk e.rows)
 have hdw:=fun y (h : y≤100)=>zcp e2.seen hw3 hpen hwin y h
 have hrN:=e2.seen.redN_len e.look []
 have hgo:=got55_p o.l hl
 have hgl:=s0 o.l
 have hin:=fun (h : gotB o.l≠[])=>rv { e with asked:=0 } hw.o (gotB o.l) h (by omega)
 have q1 : ¬ o.kind = 2→(o.code = 15∧0 < e.asked∧o.seq = e.asked)→gotB o.l≠[]→CallP Tryz.prog 36 [rxT { e.R with asked:=0 },strT (gotB o.l)] (rxT e2.R):=fun h1 h2 h3=>by
  have h4:=hin h3
  rw [hpa h1 h2]
  have h5 : e.pasteE o.l = ({ e with asked:=0 } : Ed).wc (e.c.put (gotB o.l)):=by unfold Ed.pasteE;rw [if_neg h3]
  rw [h5]
  exact h4
 have q2 : ¬ o.kind = 2→(o.code = 15∧0 < e.asked∧o.seq = e.asked)→gotB o.l = []→e2.R = { e.R with asked:=0 }:=fun h1 h2 h3=>by
  rw [hpa h1 h2]
  unfold Ed.pasteE
  rw [if_pos h3]
  rfl
 have q3 : ¬ o.kind = 2→¬ (o.code = 15∧0 < e.asked∧o.seq = e.asked)→e2.R = e.R:=fun h1 h2=>by rw [hno h1 h2]
 have hat1:=fun y (h : y < e.rows)=>e.lk_at h
 have hat3:=fun y (h : y < e.rows)=>e2.seen.lk_at h
 have hfin : rxT (doneE (e2.seen,e2.seen.redN e.look [] e.rows)).1.R = rxT { e2.seen.R with cnt:=e2.seen.R.cnt + ((e2.seen.redN e.look [] e.rows).length : Nat) }:=rfl
 have hfl : (doneE (e2.seen,e2.seen.redN e.look [] e.rows)).2 = e2.seen.redN e.look [] e.rows:=rfl
 have tc : e2.seen.R.cnt = e2.seen.cnt:=rfl
 have hR0:=yd { e.R with asked:=0 }
 show CallP _ _ _ _
 rw [hfin,hfl]
 generalize e2.seen.R = x3 at *
 generalize e2.R = x2 at *
 refine CallP.intro2 z5 z5 ?_;refine CallT.intro zc Tryz.func20 rfl (by kernel_rfl) (Nat.le_of_ble_eq_true rfl) ?_;refine zf zc [3] rfl ?_;refine yc rfl rfl ?_;refine ya rfl rfl ?_;refine yc rfl rfl ?_;refine za rfl ?_;refine zb ?_;refine zn ?_;refine zf zc [] rfl ?_;first | refine za rfl ?_ | refine zd rfl rfl zj ?_ | refine ze rfl rfl rfl zj ?_
 refine zi rfl rfl rfl (hwh) ?_;iterate 2 refine za rfl ?_
 refine' zu (d:=19) [_,_,_,_] rfl ?_ rfl ?_
 rotate_left
 ·refine zt rfl rfl (fun hb1_3=>?_) (fun hb1_3=>?_)
  ·have ghb1_3:=hb1_3
   try simp only [zh,Bool.not_true,Bool.not_false] at ghb1_3
   refine za rfl ?_;refine zg rfl rfl hb1_3 ?_;first | refine za rfl ?_ | refine zd rfl rfl zj ?_ | refine ze rfl rfl rfl zj ?_
   refine zg rfl rfl hb1_3 ?_;refine za rfl ?_;refine zr rfl (fun _=>rfl) ?_;exact zb ⟨rfl,rfl⟩
  ·refine zl rfl rfl hb1_3 ?_;refine zl rfl rfl hb1_3 ?_;exact zr rfl (fun h=>absurd (h.symm.trans hb1_3) (by decide)) (zb ⟨rfl,rfl⟩)
 refine zb ?_;refine zm rfl (fun hc0=>?_) (fun hc0=>?_)
 ·(try simp only [zh] at hc0);rcases hc0 with h9 | h9;(cases h9);(omega)
 ·(try simp only [zh] at hc0)
  refine zo ?_;refine zf zc [] rfl ?_;first | refine za rfl ?_ | refine zd rfl rfl zj ?_ | refine ze rfl rfl rfl zj ?_
  refine zi rfl rfl rfl (hro) ?_;refine za rfl ?_;refine zb ?_;refine zf zc [] rfl ?_;refine za rfl ?_;refine zb ?_;refine zn ?_;refine zf zc [] rfl ?_;refine za rfl ?_;first | refine za rfl ?_ | refine zd rfl rfl zj ?_ | refine ze rfl rfl rfl zj ?_
  iterate 2 refine za rfl ?_
  refine' zu (d:=30) [_,_,_,_] rfl ?_ rfl ?_
  rotate_left
  ·refine zt rfl rfl (fun hb5_3=>?_) (fun hb5_3=>?_)
   ·have ghb5_3:=hb5_3
    try simp only [zh,Bool.not_true,Bool.not_false] at ghb5_3
    refine za rfl ?_;refine zg rfl rfl hb5_3 ?_;first | refine za rfl ?_ | refine zd rfl rfl zj ?_ | refine ze rfl rfl rfl zj ?_
    refine zg rfl rfl hb5_3 ?_;refine za rfl ?_;refine z3 rfl (fun _=>rfl) ?_;exact zb ⟨rfl,rfl⟩
   ·refine zl rfl rfl hb5_3 ?_;refine zl rfl rfl hb5_3 ?_;exact z3 rfl (fun h=>absurd (h.symm.trans hb5_3) (by decide)) (zb ⟨rfl,rfl⟩)
  refine zb ?_;refine zm rfl (fun hc1=>?_) (fun hc1=>?_)
  ·(try simp only [zh] at hc1);omega
  ·(try simp only [zh] at hc1)
   refine zo ?_;refine zn ?_;refine zf zc [] rfl ?_;refine za rfl ?_;first | refine za rfl ?_ | refine zd rfl rfl zj ?_ | refine ze rfl rfl rfl zj ?_
   refine za rfl ?_;refine zb ?_;refine zm rfl (fun hc5=>?_) (fun hc5=>?_)
   ·(try simp only [zh] at hc5);skip
    refine zw zc [] rfl ?_;first | refine za rfl ?_ | refine zd rfl rfl zj ?_ | refine ze rfl rfl rfl zj ?_
    first | refine za rfl ?_ | refine zd rfl rfl zj ?_ | refine ze rfl rfl rfl zj ?_
    refine zi rfl rfl rfl ((hev z8)) ?_;iterate 3 refine za rfl ?_
    refine zk rfl rfl rfl rfl rfl yh rfl ?_;refine za rfl ?_;refine zb ?_;refine zf zc [] rfl ?_;first | refine za rfl ?_ | refine zd rfl rfl zj ?_ | refine ze rfl rfl rfl zj ?_
    refine zi rfl rfl rfl (hsc) ?_;refine zk rfl rfl rfl rfl rfl yh rfl ?_;refine zb ?_;refine zf zc [] rfl ?_;first | refine za rfl ?_ | refine zd rfl rfl zj ?_ | refine ze rfl rfl rfl zj ?_
    refine zi rfl rfl rfl (hro3) ?_;refine za rfl ?_;refine zb ?_;refine zn ?_;refine zf zc [] rfl ?_;refine za rfl ?_;refine zb ?_;refine yf ?_;refine yy (σ:=Nat) (fun y=>e.rows - y) (fun y=>y≤e.rows) (fun y=>[(11,I64 (y : Nat)),(2,.ptr 0 0),(4,.ptr 1 0),(7,.slc 2 0 (e2.seen.redN e.look [] y).length 4 none)]) (fun y=>[.c (rxC x3),.c zRx,.c (encL cRq (e2.seen.redN e.look [] y))]) [6,10] rfl (0) ?_ ?_ ?_
    ·refine ⟨[some 0,some 1,none],rfl,yo,yn,?_,?_⟩ <;> (repeat' first | exact trivial | exact ym | exact yq | exact yp rfl | refine yb ?_ ?_ | refine z4 rfl ?_ ?_ | refine zx ?_ ?_ | refine yk rfl ?_ | fail) <;> first | exact xd | (first | exact CvL.pure rfl | exact CvL.eq rfl hpx3 | exact Cv.pure (by simp only [T.pure,hpl]) | exact Cv.pure (by simp only [T.pure,hpl3]) | exact Cv.pure (by simp only [T.pureL,T.pure,hpn,hpl0];rfl))
    ·(try dsimp only);omega
    rintro y hy;refine zn ?_;refine zf zc [] rfl ?_;iterate 4 refine za rfl ?_
    refine zb ?_;refine zm rfl (fun hc8=>?_) (fun hc8=>?_)
    ·(try simp only [zh] at hc8);have hyl : y < e.rows:=(by omega);have hdr:=hdw y (by omega);have hdn:=e2.seen.drawnR_len y (e2.seen.look y);have hrNy:=hrN y
     refine zo ?_;refine zn ?_;refine yf ?_;refine yv zc [] [_,_,_,_,_,_,_,_,_] rfl yj yj ?_;iterate 2 refine za rfl ?_
     refine z9 (m:=y) rfl rfl rfl rfl rfl rfl hyl ?_;refine zd rfl rfl (z6 cLk (m:=y) (a:=e2.seen.look y) (hat3 y hyl) (by decide) rfl) ?_;iterate 2 refine za rfl ?_
     refine z9 (m:=y) rfl rfl rfl rfl rfl rfl hyl ?_;refine zd rfl rfl (z6 cLk (m:=y) (a:=e.look y) (hat1 y hyl) (by decide) rfl) ?_;refine ue (e2.seen.look y) (e.look y) rfl rfl ?_;iterate 2 refine zb ?_
     refine zm rfl (fun hc9=>?_) (fun hc9=>?_)
     ·have hne : ¬ e2.seen.look y = e.look y:=(by simpa using hc9);have eT:=Ed.redN_new (l:=[]) hne
      refine zw zc [] rfl ?_;refine za rfl ?_;first | refine za rfl ?_ | refine zd rfl rfl zj ?_ | refine ze rfl rfl rfl zj ?_
      refine za rfl ?_;refine zi rfl rfl rfl (hdr) ?_;refine' yw rfl rfl rfl rfl rfl rfl (tt cRq rfl rfl rfl rfl) rfl ?h1 ?h2 ?h3 ?h4 ?h5 ?_
      case h1=>rw [ye,vx];omega
      case h2=>exact Nat.le_trans (Nat.mul_le_mul_right _ (show _≤1000 by simp only [List.length_nil] at hrNy;omega)) (by decide)
      case h3=>simp only [List.length_nil] at hrNy;omega
      case h4=>rw [ye];rfl
      case h5=>exact wh _ _
      refine za rfl ?_;refine zb ?_;refine zw zc [] rfl ?_;refine za rfl ?_;first | refine zy rfl rfl (by omega) ?_ | refine za rfl ?_
      refine za rfl ?_;refine zb ?_;refine ⟨y + 1,by (try dsimp only);omega,?_,(by refine ⟨[some 0,some 1,some 3],rfl,yo,yn,?_,?_⟩ <;> (repeat' first | exact trivial | exact ym | exact yq | exact yp rfl | refine yb ?_ ?_ | refine z4 rfl ?_ ?_ | refine zx ?_ ?_ | refine yk rfl ?_ | fail) <;> first | exact xd | (first | exact CvL.pure rfl | exact CvL.pure hpx3 | exact Cv.pure (by simp only [T.pure,hpl]) | exact Cv.pure (by simp only [T.pure,hpl3]) | exact Cv.pure (by simp only [T.pureL,T.pure,hpn,hpl0];rfl) | (rw [eT,List.length_append];exact Cv.slc rfl (.inr rfl)) | exact CvL.eq (by rw [eT,yr,List.drop_zero,List.take_of_length_le (by rw [ye,vx];exact Nat.le_refl _)]) (zp _ _)))⟩
      (try dsimp only);omega
     ·have hne : e2.seen.look y = e.look y:=(by simpa using hc9);have eF:=Ed.redN_same (l:=[]) hne
      refine zo ?_;refine zw zc [] rfl ?_;refine za rfl ?_;first | refine zy rfl rfl (by omega) ?_ | refine za rfl ?_
      refine za rfl ?_;refine zb ?_;refine ⟨y + 1,by (try dsimp only);omega,?_,(by refine ⟨[some 0,some 1,some 2],rfl,yo,yn,?_,?_⟩ <;> (repeat' first | exact trivial | exact ym | exact yq | exact yp rfl | refine yb ?_ ?_ | refine z4 rfl ?_ ?_ | refine zx ?_ ?_ | refine yk rfl ?_ | fail) <;> first | exact xd | (first | exact CvL.pure rfl | exact CvL.pure hpx3 | exact Cv.pure (by simp only [T.pure,hpl]) | exact Cv.pure (by simp only [T.pure,hpl3]) | exact Cv.pure (by simp only [T.pureL,T.pure,hpn,hpl0];rfl) | (rw [eF];exact Cv.slc rfl (.inl rfl)) | exact CvL.eq (by rw [eF]) (zp _ _)))⟩
      (try dsimp only);omega
    ·(try simp only [zh] at hc8);obtain rfl : y = e.rows:=(by omega)
     refine yz ?_;refine zf zc [] rfl ?_;refine za rfl ?_;first | refine za rfl ?_ | refine zd rfl rfl zj ?_ | refine ze rfl rfl rfl zj ?_
     iterate 2 refine za rfl ?_
     refine zy (a:=x3.cnt) (b:=((e2.seen.redN e.look [] e.rows).length : Nat)) rfl rfl (by have:=hrN e.rows;simp only [List.length_nil] at this;omega) ?_;refine za rfl ?_;refine zk rfl rfl rfl rfl rfl yh rfl ?_;refine zb ?_;refine zf zc [] rfl ?_;first | refine za rfl ?_ | refine zd rfl rfl zj ?_ | refine ze rfl rfl rfl zj ?_
     refine za rfl ?_;refine zk rfl rfl rfl rfl rfl yh rfl ?_;refine za rfl ?_;refine zb ?_;refine zq ?_;exact ⟨trivial,_,rfl,Cv.tup (CvL.cons (Cv.eq rfl (yd _)) (CvL.cons (Cv.fslc0 ⟨rfl,by simp⟩ (CvL.pure (zp _ _))) CvL.nil))⟩
   ·(try simp only [zh] at hc5)
    refine zf zc [] rfl ?_;refine za rfl ?_;first | refine za rfl ?_ | refine zd rfl rfl zj ?_ | refine ze rfl rfl rfl zj ?_
    iterate 2 refine za rfl ?_
    refine' zu (d:=104) [_,_,_,_] rfl ?_ rfl ?_
    rotate_left
    ·refine zt rfl rfl (fun hb17_3=>?_) (fun hb17_3=>?_)
     ·have ghb17_3:=hb17_3
      try simp only [zh,Bool.not_true,Bool.not_false] at ghb17_3
      refine za rfl ?_;refine zg rfl rfl hb17_3 ?_;first | refine za rfl ?_ | refine zd rfl rfl zj ?_ | refine ze rfl rfl rfl zj ?_
      refine zg rfl rfl hb17_3 ?_;refine za rfl ?_;refine z3 rfl (fun _=>rfl) ?_;exact zb ⟨rfl,rfl⟩
     ·refine zl rfl rfl hb17_3 ?_;refine zl rfl rfl hb17_3 ?_;exact z3 rfl (fun h=>absurd (h.symm.trans hb17_3) (by decide)) (zb ⟨rfl,rfl⟩)
    refine za rfl ?_;refine' zu (d:=111) [_,_,_,_,_,_] rfl ?_ rfl ?_
    rotate_left
    ·refine zt rfl rfl (fun hb17_8=>?_) (fun hb17_8=>?_)
     ·have ghb17_8:=hb17_8
      try simp only [zh,Bool.not_true,Bool.not_false] at ghb17_8
      refine za rfl ?_;refine zg rfl rfl hb17_8 ?_;first | refine za rfl ?_ | refine zd rfl rfl zj ?_ | refine ze rfl rfl rfl zj ?_
      refine zg rfl rfl hb17_8 ?_;refine za rfl ?_;refine zg rfl rfl hb17_8 ?_;first | refine za rfl ?_ | refine zd rfl rfl zj ?_ | refine ze rfl rfl rfl zj ?_
      refine zg rfl rfl hb17_8 ?_;refine za rfl ?_;refine z3 rfl (fun _=>rfl) ?_;exact zb ⟨rfl,rfl⟩
     ·refine zl rfl rfl hb17_8 ?_;iterate 3 refine zl rfl rfl hb17_8 ?_
      exact z3 rfl (fun h=>absurd (h.symm.trans hb17_8) (by decide)) (zb ⟨rfl,rfl⟩)
    refine zb ?_;refine zm rfl (fun hc6=>?_) (fun hc6=>?_)
    ·(try simp only [zh] at hc6);skip
     refine zf zc [] rfl ?_;refine za rfl ?_;refine zk rfl rfl rfl rfl rfl yh rfl ?_;refine zb ?_;refine xr ([(2,.ptr 0 0),(4,.ptr 1 0)]) ([.c (rxC { e.R with asked:=0 }),.c zRx]) [3,6,7] rfl (by refine ⟨[some 0,some 1],rfl,yo,yn,?_,?_⟩ <;> (repeat' first | exact trivial | exact ym | exact yq | exact yp rfl | refine yb ?_ ?_ | refine z4 rfl ?_ ?_ | refine zx ?_ ?_ | refine yk rfl ?_ | fail) <;> first | exact xd | (first | exact CvL.pure rfl | exact CvL.eq rfl (yd _) | exact Cv.pure (by simp only [T.pure,hpl]) | exact Cv.pure (by simp only [T.pureL,T.pure,hpn,hpl0];rfl))) ?_
     refine zf zc [] rfl ?_;refine za rfl ?_;first | refine za rfl ?_ | refine zd rfl rfl zj ?_ | refine ze rfl rfl rfl zj ?_
     refine zi rfl rfl rfl (hgo) ?_;refine za rfl ?_;refine zb ?_;refine zf zc [] rfl ?_;refine za rfl ?_;refine s7 (a:=gotB o.l) (b:=[]) rfl rfl ?_;refine zb ?_;refine zm rfl (fun hc7=>?_) (fun hc7=>?_)
     ·have hg6 : gotB o.l≠[]:=(by simpa using hc7)
      refine zw zc [] rfl ?_;first | refine za rfl ?_ | refine zd rfl rfl zj ?_ | refine ze rfl rfl rfl zj ?_
      refine za rfl ?_;refine zi rfl rfl rfl ((q1 z8 z8 hg6)) ?_;refine zk rfl rfl rfl rfl rfl yh rfl ?_;refine zb ?_;refine zf zc [] rfl ?_;first | refine za rfl ?_ | refine zd rfl rfl zj ?_ | refine ze rfl rfl rfl zj ?_
      refine zi rfl rfl rfl (hsc) ?_;refine zk rfl rfl rfl rfl rfl yh rfl ?_;refine zb ?_;refine zf zc [] rfl ?_;first | refine za rfl ?_ | refine zd rfl rfl zj ?_ | refine ze rfl rfl rfl zj ?_
      refine zi rfl rfl rfl (hro3) ?_;refine za rfl ?_;refine zb ?_;refine zn ?_;refine zf zc [] rfl ?_;refine za rfl ?_;refine zb ?_;refine yf ?_;refine yy (σ:=Nat) (fun y=>e.rows - y) (fun y=>y≤e.rows) (fun y=>[(11,I64 (y : Nat)),(2,.ptr 0 0),(4,.ptr 1 0),(7,.slc 2 0 (e2.seen.redN e.look [] y).length 4 none)]) (fun y=>[.c (rxC x3),.c zRx,.c (encL cRq (e2.seen.redN e.look [] y))]) [6,10] rfl (0) ?_ ?_ ?_
      ·refine ⟨[some 0,some 1,none],rfl,yo,yn,?_,?_⟩ <;> (repeat' first | exact trivial | exact ym | exact yq | exact yp rfl | refine yb ?_ ?_ | refine z4 rfl ?_ ?_ | refine zx ?_ ?_ | refine yk rfl ?_ | fail) <;> first | exact xd | (first | exact CvL.pure rfl | exact CvL.eq rfl hpx3 | exact Cv.pure (by simp only [T.pure,hpl]) | exact Cv.pure (by simp only [T.pure,hpl3]) | exact Cv.pure (by simp only [T.pureL,T.pure,hpn,hpl0];rfl))
      ·(try dsimp only);omega
      rintro y hy;refine zn ?_;refine zf zc [] rfl ?_;iterate 4 refine za rfl ?_
      refine zb ?_;refine zm rfl (fun hc8=>?_) (fun hc8=>?_)
      ·(try simp only [zh] at hc8);have hyl : y < e.rows:=(by omega);have hdr:=hdw y (by omega);have hdn:=e2.seen.drawnR_len y (e2.seen.look y);have hrNy:=hrN y
       refine zo ?_;refine zn ?_;refine yf ?_;refine yv zc [] [_,_,_,_,_,_,_,_,_] rfl yj yj ?_;iterate 2 refine za rfl ?_
       refine z9 (m:=y) rfl rfl rfl rfl rfl rfl hyl ?_;refine zd rfl rfl (z6 cLk (m:=y) (a:=e2.seen.look y) (hat3 y hyl) (by decide) rfl) ?_;iterate 2 refine za rfl ?_
       refine z9 (m:=y) rfl rfl rfl rfl rfl rfl hyl ?_;refine zd rfl rfl (z6 cLk (m:=y) (a:=e.look y) (hat1 y hyl) (by decide) rfl) ?_;refine ue (e2.seen.look y) (e.look y) rfl rfl ?_;iterate 2 refine zb ?_
       refine zm rfl (fun hc9=>?_) (fun hc9=>?_)
       ·have hne : ¬ e2.seen.look y = e.look y:=(by simpa using hc9);have eT:=Ed.redN_new (l:=[]) hne
        refine zw zc [] rfl ?_;refine za rfl ?_;first | refine za rfl ?_ | refine zd rfl rfl zj ?_ | refine ze rfl rfl rfl zj ?_
        refine za rfl ?_;refine zi rfl rfl rfl (hdr) ?_;refine' yw rfl rfl rfl rfl rfl rfl (tt cRq rfl rfl rfl rfl) rfl ?h1 ?h2 ?h3 ?h4 ?h5 ?_
        case h1=>rw [ye,vx];omega
        case h2=>exact Nat.le_trans (Nat.mul_le_mul_right _ (show _≤1000 by simp only [List.length_nil] at hrNy;omega)) (by decide)
        case h3=>simp only [List.length_nil] at hrNy;omega
        case h4=>rw [ye];rfl
        case h5=>exact wh _ _
        refine za rfl ?_;refine zb ?_;refine zw zc [] rfl ?_;refine za rfl ?_;first | refine zy rfl rfl (by omega) ?_ | refine za rfl ?_
        refine za rfl ?_;refine zb ?_;refine ⟨y + 1,by (try dsimp only);omega,?_,(by refine ⟨[some 0,some 1,some 3],rfl,yo,yn,?_,?_⟩ <;> (repeat' first | exact trivial | exact ym | exact yq | exact yp rfl | refine yb ?_ ?_ | refine z4 rfl ?_ ?_ | refine zx ?_ ?_ | refine yk rfl ?_ | fail) <;> first | exact xd | (first | exact CvL.pure rfl | exact CvL.pure hpx3 | exact Cv.pure (by simp only [T.pure,hpl]) | exact Cv.pure (by simp only [T.pure,hpl3]) | exact Cv.pure (by simp only [T.pureL,T.pure,hpn,hpl0];rfl) | (rw [eT,List.length_append];exact Cv.slc rfl (.inr rfl)) | exact CvL.eq (by rw [eT,yr,List.drop_zero,List.take_of_length_le (by rw [ye,vx];exact Nat.le_refl _)]) (zp _ _)))⟩
        (try dsimp only);omega
       ·have hne : e2.seen.look y = e.look y:=(by simpa using hc9);have eF:=Ed.redN_same (l:=[]) hne
        refine zo ?_;refine zw zc [] rfl ?_;refine za rfl ?_;first | refine zy rfl rfl (by omega) ?_ | refine za rfl ?_
        refine za rfl ?_;refine zb ?_;refine ⟨y + 1,by (try dsimp only);omega,?_,(by refine ⟨[some 0,some 1,some 2],rfl,yo,yn,?_,?_⟩ <;> (repeat' first | exact trivial | exact ym | exact yq | exact yp rfl | refine yb ?_ ?_ | refine z4 rfl ?_ ?_ | refine zx ?_ ?_ | refine yk rfl ?_ | fail) <;> first | exact xd | (first | exact CvL.pure rfl | exact CvL.pure hpx3 | exact Cv.pure (by simp only [T.pure,hpl]) | exact Cv.pure (by simp only [T.pure,hpl3]) | exact Cv.pure (by simp only [T.pureL,T.pure,hpn,hpl0];rfl) | (rw [eF];exact Cv.slc rfl (.inl rfl)) | exact CvL.eq (by rw [eF]) (zp _ _)))⟩
        (try dsimp only);omega
      ·(try simp only [zh] at hc8);obtain rfl : y = e.rows:=(by omega)
       refine yz ?_;refine zf zc [] rfl ?_;refine za rfl ?_;first | refine za rfl ?_ | refine zd rfl rfl zj ?_ | refine ze rfl rfl rfl zj ?_
       iterate 2 refine za rfl ?_
       refine zy (a:=x3.cnt) (b:=((e2.seen.redN e.look [] e.rows).length : Nat)) rfl rfl (by have:=hrN e.rows;simp only [List.length_nil] at this;omega) ?_;refine za rfl ?_;refine zk rfl rfl rfl rfl rfl yh rfl ?_;refine zb ?_;refine zf zc [] rfl ?_;first | refine za rfl ?_ | refine zd rfl rfl zj ?_ | refine ze rfl rfl rfl zj ?_
       refine za rfl ?_;refine zk rfl rfl rfl rfl rfl yh rfl ?_;refine za rfl ?_;refine zb ?_;refine zq ?_;exact ⟨trivial,_,rfl,Cv.tup (CvL.cons (Cv.eq rfl (yd _)) (CvL.cons (Cv.fslc0 ⟨rfl,by simp⟩ (CvL.pure (zp _ _))) CvL.nil))⟩
     ·have hg6 : gotB o.l = []:=(by simpa using hc7);obtain rfl:=(q2 (by omega) (by omega) hg6)
      refine zo ?_;refine zf zc [] rfl ?_;first | refine za rfl ?_ | refine zd rfl rfl zj ?_ | refine ze rfl rfl rfl zj ?_
      refine zi rfl rfl rfl (hsc) ?_;refine zk rfl rfl rfl rfl rfl yh rfl ?_;refine zb ?_;refine zf zc [] rfl ?_;first | refine za rfl ?_ | refine zd rfl rfl zj ?_ | refine ze rfl rfl rfl zj ?_
      refine zi rfl rfl rfl (hro3) ?_;refine za rfl ?_;refine zb ?_;refine zn ?_;refine zf zc [] rfl ?_;refine za rfl ?_;refine zb ?_;refine yf ?_;refine yy (σ:=Nat) (fun y=>e.rows - y) (fun y=>y≤e.rows) (fun y=>[(11,I64 (y : Nat)),(2,.ptr 0 0),(4,.ptr 1 0),(7,.slc 2 0 (e2.seen.redN e.look [] y).length 4 none)]) (fun y=>[.c (rxC x3),.c zRx,.c (encL cRq (e2.seen.redN e.look [] y))]) [6,10] rfl (0) ?_ ?_ ?_
      ·refine ⟨[some 0,some 1,none],rfl,yo,yn,?_,?_⟩ <;> (repeat' first | exact trivial | exact ym | exact yq | exact yp rfl | refine yb ?_ ?_ | refine z4 rfl ?_ ?_ | refine zx ?_ ?_ | refine yk rfl ?_ | fail) <;> first | exact xd | (first | exact CvL.pure rfl | exact CvL.eq rfl hpx3 | exact Cv.pure (by simp only [T.pure,hpl]) | exact Cv.pure (by simp only [T.pure,hpl3]) | exact Cv.pure (by simp only [T.pureL,T.pure,hpn,hpl0];rfl))
      ·(try dsimp only);omega
      rintro y hy;refine zn ?_;refine zf zc [] rfl ?_;iterate 4 refine za rfl ?_
      refine zb ?_;refine zm rfl (fun hc8=>?_) (fun hc8=>?_)
      ·(try simp only [zh] at hc8);have hyl : y < e.rows:=(by omega);have hdr:=hdw y (by omega);have hdn:=e2.seen.drawnR_len y (e2.seen.look y);have hrNy:=hrN y
       refine zo ?_;refine zn ?_;refine yf ?_;refine yv zc [] [_,_,_,_,_,_,_,_,_] rfl yj yj ?_;iterate 2 refine za rfl ?_
       refine z9 (m:=y) rfl rfl rfl rfl rfl rfl hyl ?_;refine zd rfl rfl (z6 cLk (m:=y) (a:=e2.seen.look y) (hat3 y hyl) (by decide) rfl) ?_;iterate 2 refine za rfl ?_
       refine z9 (m:=y) rfl rfl rfl rfl rfl rfl hyl ?_;refine zd rfl rfl (z6 cLk (m:=y) (a:=e.look y) (hat1 y hyl) (by decide) rfl) ?_;refine ue (e2.seen.look y) (e.look y) rfl rfl ?_;iterate 2 refine zb ?_
       refine zm rfl (fun hc9=>?_) (fun hc9=>?_)
       ·have hne : ¬ e2.seen.look y = e.look y:=(by simpa using hc9);have eT:=Ed.redN_new (l:=[]) hne
        refine zw zc [] rfl ?_;refine za rfl ?_;first | refine za rfl ?_ | refine zd rfl rfl zj ?_ | refine ze rfl rfl rfl zj ?_
        refine za rfl ?_;refine zi rfl rfl rfl (hdr) ?_;refine' yw rfl rfl rfl rfl rfl rfl (tt cRq rfl rfl rfl rfl) rfl ?h1 ?h2 ?h3 ?h4 ?h5 ?_
        case h1=>rw [ye,vx];omega
        case h2=>exact Nat.le_trans (Nat.mul_le_mul_right _ (show _≤1000 by simp only [List.length_nil] at hrNy;omega)) (by decide)
        case h3=>simp only [List.length_nil] at hrNy;omega
        case h4=>rw [ye];rfl
        case h5=>exact wh _ _
        refine za rfl ?_;refine zb ?_;refine zw zc [] rfl ?_;refine za rfl ?_;first | refine zy rfl rfl (by omega) ?_ | refine za rfl ?_
        refine za rfl ?_;refine zb ?_;refine ⟨y + 1,by (try dsimp only);omega,?_,(by refine ⟨[some 0,some 1,some 3],rfl,yo,yn,?_,?_⟩ <;> (repeat' first | exact trivial | exact ym | exact yq | exact yp rfl | refine yb ?_ ?_ | refine z4 rfl ?_ ?_ | refine zx ?_ ?_ | refine yk rfl ?_ | fail) <;> first | exact xd | (first | exact CvL.pure rfl | exact CvL.pure hpx3 | exact Cv.pure (by simp only [T.pure,hpl]) | exact Cv.pure (by simp only [T.pure,hpl3]) | exact Cv.pure (by simp only [T.pureL,T.pure,hpn,hpl0];rfl) | (rw [eT,List.length_append];exact Cv.slc rfl (.inr rfl)) | exact CvL.eq (by rw [eT,yr,List.drop_zero,List.take_of_length_le (by rw [ye,vx];exact Nat.le_refl _)]) (zp _ _)))⟩
        (try dsimp only);omega
       ·have hne : e2.seen.look y = e.look y:=(by simpa using hc9);have eF:=Ed.redN_same (l:=[]) hne
        refine zo ?_;refine zw zc [] rfl ?_;refine za rfl ?_;first | refine zy rfl rfl (by omega) ?_ | refine za rfl ?_
        refine za rfl ?_;refine zb ?_;refine ⟨y + 1,by (try dsimp only);omega,?_,(by refine ⟨[some 0,some 1,some 2],rfl,yo,yn,?_,?_⟩ <;> (repeat' first | exact trivial | exact ym | exact yq | exact yp rfl | refine yb ?_ ?_ | refine z4 rfl ?_ ?_ | refine zx ?_ ?_ | refine yk rfl ?_ | fail) <;> first | exact xd | (first | exact CvL.pure rfl | exact CvL.pure hpx3 | exact Cv.pure (by simp only [T.pure,hpl]) | exact Cv.pure (by simp only [T.pure,hpl3]) | exact Cv.pure (by simp only [T.pureL,T.pure,hpn,hpl0];rfl) | (rw [eF];exact Cv.slc rfl (.inl rfl)) | exact CvL.eq (by rw [eF]) (zp _ _)))⟩
        (try dsimp only);omega
      ·(try simp only [zh] at hc8);obtain rfl : y = e.rows:=(by omega)
       refine yz ?_;refine zf zc [] rfl ?_;refine za rfl ?_;first | refine za rfl ?_ | refine zd rfl rfl zj ?_ | refine ze rfl rfl rfl zj ?_
       iterate 2 refine za rfl ?_
       refine zy (a:=x3.cnt) (b:=((e2.seen.redN e.look [] e.rows).length : Nat)) rfl rfl (by have:=hrN e.rows;simp only [List.length_nil] at this;omega) ?_;refine za rfl ?_;refine zk rfl rfl rfl rfl rfl yh rfl ?_;refine zb ?_;refine zf zc [] rfl ?_;first | refine za rfl ?_ | refine zd rfl rfl zj ?_ | refine ze rfl rfl rfl zj ?_
       refine za rfl ?_;refine zk rfl rfl rfl rfl rfl yh rfl ?_;refine za rfl ?_;refine zb ?_;refine zq ?_;exact ⟨trivial,_,rfl,Cv.tup (CvL.cons (Cv.eq rfl (yd _)) (CvL.cons (Cv.fslc0 ⟨rfl,by simp⟩ (CvL.pure (zp _ _))) CvL.nil))⟩
    ·(try simp only [zh] at hc6);obtain rfl:=(q3 (by omega) (by omega))
     refine zo ?_;refine zf zc [] rfl ?_;first | refine za rfl ?_ | refine zd rfl rfl zj ?_ | refine ze rfl rfl rfl zj ?_
     refine zi rfl rfl rfl (hsc) ?_;refine zk rfl rfl rfl rfl rfl yh rfl ?_;refine zb ?_;refine zf zc [] rfl ?_;first | refine za rfl ?_ | refine zd rfl rfl zj ?_ | refine ze rfl rfl rfl zj ?_
     refine zi rfl rfl rfl (hro3) ?_;refine za rfl ?_;refine zb ?_;refine zn ?_;refine zf zc [] rfl ?_;refine za rfl ?_;refine zb ?_;refine yf ?_;refine yy (σ:=Nat) (fun y=>e.rows - y) (fun y=>y≤e.rows) (fun y=>[(11,I64 (y : Nat)),(2,.ptr 0 0),(4,.ptr 1 0),(7,.slc 2 0 (e2.seen.redN e.look [] y).length 4 none)]) (fun y=>[.c (rxC x3),.c zRx,.c (encL cRq (e2.seen.redN e.look [] y))]) [6,10] rfl (0) ?_ ?_ ?_
     ·refine ⟨[some 0,some 1,none],rfl,yo,yn,?_,?_⟩ <;> (repeat' first | exact trivial | exact ym | exact yq | exact yp rfl | refine yb ?_ ?_ | refine z4 rfl ?_ ?_ | refine zx ?_ ?_ | refine yk rfl ?_ | fail) <;> first | exact xd | (first | exact CvL.pure rfl | exact CvL.eq rfl hpx3 | exact Cv.pure (by simp only [T.pure,hpl]) | exact Cv.pure (by simp only [T.pure,hpl3]) | exact Cv.pure (by simp only [T.pureL,T.pure,hpn,hpl0];rfl))
     ·(try dsimp only);omega
     rintro y hy;refine zn ?_;refine zf zc [] rfl ?_;iterate 4 refine za rfl ?_
     refine zb ?_;refine zm rfl (fun hc8=>?_) (fun hc8=>?_)
     ·(try simp only [zh] at hc8);have hyl : y < e.rows:=(by omega);have hdr:=hdw y (by omega);have hdn:=e2.seen.drawnR_len y (e2.seen.look y);have hrNy:=hrN y
      refine zo ?_;refine zn ?_;refine yf ?_;refine yv zc [] [_,_,_,_,_,_,_,_,_] rfl yj yj ?_;iterate 2 refine za rfl ?_
      refine z9 (m:=y) rfl rfl rfl rfl rfl rfl hyl ?_;refine zd rfl rfl (z6 cLk (m:=y) (a:=e2.seen.look y) (hat3 y hyl) (by decide) rfl) ?_;iterate 2 refine za rfl ?_
      refine z9 (m:=y) rfl rfl rfl rfl rfl rfl hyl ?_;refine zd rfl rfl (z6 cLk (m:=y) (a:=e.look y) (hat1 y hyl) (by decide) rfl) ?_;refine ue (e2.seen.look y) (e.look y) rfl rfl ?_;iterate 2 refine zb ?_
      refine zm rfl (fun hc9=>?_) (fun hc9=>?_)
      ·have hne : ¬ e2.seen.look y = e.look y:=(by simpa using hc9);have eT:=Ed.redN_new (l:=[]) hne
       refine zw zc [] rfl ?_;refine za rfl ?_;first | refine za rfl ?_ | refine zd rfl rfl zj ?_ | refine ze rfl rfl rfl zj ?_
       refine za rfl ?_;refine zi rfl rfl rfl (hdr) ?_;refine' yw rfl rfl rfl rfl rfl rfl (tt cRq rfl rfl rfl rfl) rfl ?h1 ?h2 ?h3 ?h4 ?h5 ?_
       case h1=>rw [ye,vx];omega
       case h2=>exact Nat.le_trans (Nat.mul_le_mul_right _ (show _≤1000 by simp only [List.length_nil] at hrNy;omega)) (by decide)
       case h3=>simp only [List.length_nil] at hrNy;omega
       case h4=>rw [ye];rfl
       case h5=>exact wh _ _
       refine za rfl ?_;refine zb ?_;refine zw zc [] rfl ?_;refine za rfl ?_;first | refine zy rfl rfl (by omega) ?_ | refine za rfl ?_
       refine za rfl ?_;refine zb ?_;refine ⟨y + 1,by (try dsimp only);omega,?_,(by refine ⟨[some 0,some 1,some 3],rfl,yo,yn,?_,?_⟩ <;> (repeat' first | exact trivial | exact ym | exact yq | exact yp rfl | refine yb ?_ ?_ | refine z4 rfl ?_ ?_ | refine zx ?_ ?_ | refine yk rfl ?_ | fail) <;> first | exact xd | (first | exact CvL.pure rfl | exact CvL.pure hpx3 | exact Cv.pure (by simp only [T.pure,hpl]) | exact Cv.pure (by simp only [T.pure,hpl3]) | exact Cv.pure (by simp only [T.pureL,T.pure,hpn,hpl0];rfl) | (rw [eT,List.length_append];exact Cv.slc rfl (.inr rfl)) | exact CvL.eq (by rw [eT,yr,List.drop_zero,List.take_of_length_le (by rw [ye,vx];exact Nat.le_refl _)]) (zp _ _)))⟩
       (try dsimp only);omega
      ·have hne : e2.seen.look y = e.look y:=(by simpa using hc9);have eF:=Ed.redN_same (l:=[]) hne
       refine zo ?_;refine zw zc [] rfl ?_;refine za rfl ?_;first | refine zy rfl rfl (by omega) ?_ | refine za rfl ?_
       refine za rfl ?_;refine zb ?_;refine ⟨y + 1,by (try dsimp only);omega,?_,(by refine ⟨[some 0,some 1,some 2],rfl,yo,yn,?_,?_⟩ <;> (repeat' first | exact trivial | exact ym | exact yq | exact yp rfl | refine yb ?_ ?_ | refine z4 rfl ?_ ?_ | refine zx ?_ ?_ | refine yk rfl ?_ | fail) <;> first | exact xd | (first | exact CvL.pure rfl | exact CvL.pure hpx3 | exact Cv.pure (by simp only [T.pure,hpl]) | exact Cv.pure (by simp only [T.pure,hpl3]) | exact Cv.pure (by simp only [T.pureL,T.pure,hpn,hpl0];rfl) | (rw [eF];exact Cv.slc rfl (.inl rfl)) | exact CvL.eq (by rw [eF]) (zp _ _)))⟩
       (try dsimp only);omega
     ·(try simp only [zh] at hc8);obtain rfl : y = e.rows:=(by omega)
      refine yz ?_;refine zf zc [] rfl ?_;refine za rfl ?_;first | refine za rfl ?_ | refine zd rfl rfl zj ?_ | refine ze rfl rfl rfl zj ?_
      iterate 2 refine za rfl ?_
      refine zy (a:=x3.cnt) (b:=((e2.seen.redN e.look [] e.rows).length : Nat)) rfl rfl (by have:=hrN e.rows;simp only [List.length_nil] at this;omega) ?_;refine za rfl ?_;refine zk rfl rfl rfl rfl rfl yh rfl ?_;refine zb ?_;refine zf zc [] rfl ?_;first | refine za rfl ?_ | refine zd rfl rfl zj ?_ | refine ze rfl rfl rfl zj ?_
      refine za rfl ?_;refine zk rfl rfl rfl rfl rfl yh rfl ?_;refine za rfl ?_;refine zb ?_;refine zq ?_;exact ⟨trivial,_,rfl,Cv.tup (CvL.cons (Cv.eq rfl (yd _)) (CvL.cons (Cv.fslc0 ⟨rfl,by simp⟩ (CvL.pure (zp _ _))) CvL.nil))⟩
end

section
open Go.RowKit
set_option maxRecDepth 100000
set_option maxHeartbeats 4000000
theorem zgj (e e2 : Ed) (l : List Rq) (hv : e.V) (hw2 : e2.W) (hse : e2.seen = e2) (hlo : ∀ y,e2.look y = e.look y) (hll : l.length≤1000) (hcn : 0≤e2.cnt∧e2.cnt≤900000000) (hrw : e2.rows = e.rows) (o : Ot) (h : wholeB o = true) (hk : ¬ o.code = 10) (hk2 : o.kind = 2)
  (hev : CallP Tryz.prog 34 [rxT e.R,otT o] (.tup [rxT e2.R,rqT l])) : StepQ e o (doneE (e2,l)):=by
 have hw:=hv.w
 have hpx:=yd e.R
 have hpx2:=yd e2.R
 have hot:=x4 o
 have hpn:=zp cI o.n
 have hpl0:=zp cI o.l
 have hprl:=zp cRq l
 have hs:=hw.s
 have hR:=hw.rows
 have hwh:=uz o
 rw [h] at hwh
 have hro:=td e hw
 have hpl:=zp cLk (e.lk e.rows)
 have tw : e.R.w = e.w:=rfl
 have hsc:=qb e2 hw2
 rw [hse] at hsc
 have hro3:=td e2 hw2
 rw [hrw,show e2.lk e.rows = e.lk e.rows by unfold Ed.lk;exact List.map_congr_left fun y _=>hlo y] at hro3
 have hat1:=fun y (h : y < e.rows)=>e.lk_at h
 have hfin : rxT (doneE (e2,l)).1.R = rxT { e2.R with cnt:=e2.R.cnt + (l.length : Nat) }:=rfl
 have hfl : (doneE (e2,l)).2 = l:=rfl
 have tc : e2.R.cnt = e2.cnt:=rfl
 show CallP _ _ _ _
 rw [hfin,hfl]
 generalize e2.R = x3 at *
 refine CallP.intro2 z5 z5 ?_;refine CallT.intro zc Tryz.func20 rfl (by kernel_rfl) (Nat.le_of_ble_eq_true rfl) ?_;refine zf zc [3] rfl ?_;refine yc rfl rfl ?_;refine ya rfl rfl ?_;refine yc rfl rfl ?_;refine za rfl ?_;refine zb ?_;refine zn ?_;refine zf zc [] rfl ?_;first | refine za rfl ?_ | refine zd rfl rfl zj ?_ | refine ze rfl rfl rfl zj ?_
 refine zi rfl rfl rfl (hwh) ?_;iterate 2 refine za rfl ?_
 refine' zu (d:=19) [_,_,_,_] rfl ?_ rfl ?_
 rotate_left
 ·refine zt rfl rfl (fun hb1_3=>?_) (fun hb1_3=>?_)
  ·have ghb1_3:=hb1_3
   try simp only [zh,Bool.not_true,Bool.not_false] at ghb1_3
   refine za rfl ?_;refine zg rfl rfl hb1_3 ?_;first | refine za rfl ?_ | refine zd rfl rfl zj ?_ | refine ze rfl rfl rfl zj ?_
   refine zg rfl rfl hb1_3 ?_;refine za rfl ?_;refine zr rfl (fun _=>rfl) ?_;exact zb ⟨rfl,rfl⟩
  ·refine zl rfl rfl hb1_3 ?_;refine zl rfl rfl hb1_3 ?_;exact zr rfl (fun h=>absurd (h.symm.trans hb1_3) (by decide)) (zb ⟨rfl,rfl⟩)
 refine zb ?_;refine zm rfl (fun hc0=>?_) (fun hc0=>?_)
 ·(try simp only [zh] at hc0);rcases hc0 with h9 | h9;(cases h9);(omega)
 ·(try simp only [zh] at hc0)
  refine zo ?_;refine zf zc [] rfl ?_;first | refine za rfl ?_ | refine zd rfl rfl zj ?_ | refine ze rfl rfl rfl zj ?_
  refine zi rfl rfl rfl (hro) ?_;refine za rfl ?_;refine zb ?_;refine zf zc [] rfl ?_;refine za rfl ?_;refine zb ?_;refine zn ?_;refine zf zc [] rfl ?_;refine za rfl ?_;first | refine za rfl ?_ | refine zd rfl rfl zj ?_ | refine ze rfl rfl rfl zj ?_
  iterate 2 refine za rfl ?_
  refine' zu (d:=30) [_,_,_,_] rfl ?_ rfl ?_
  rotate_left
  ·refine zt rfl rfl (fun hb5_3=>?_) (fun hb5_3=>?_)
   ·have ghb5_3:=hb5_3
    try simp only [zh,Bool.not_true,Bool.not_false] at ghb5_3
    refine za rfl ?_;refine zg rfl rfl hb5_3 ?_;first | refine za rfl ?_ | refine zd rfl rfl zj ?_ | refine ze rfl rfl rfl zj ?_
    refine zg rfl rfl hb5_3 ?_;refine za rfl ?_;refine z3 rfl (fun _=>rfl) ?_;exact zb ⟨rfl,rfl⟩
   ·refine zl rfl rfl hb5_3 ?_;refine zl rfl rfl hb5_3 ?_;exact z3 rfl (fun h=>absurd (h.symm.trans hb5_3) (by decide)) (zb ⟨rfl,rfl⟩)
  refine zb ?_;refine zm rfl (fun hc1=>?_) (fun hc1=>?_)
  ·(try simp only [zh] at hc1);omega
  ·(try simp only [zh] at hc1)
   refine zo ?_;refine zn ?_;refine zf zc [] rfl ?_;refine za rfl ?_;first | refine za rfl ?_ | refine zd rfl rfl zj ?_ | refine ze rfl rfl rfl zj ?_
   refine za rfl ?_;refine zb ?_;refine zm rfl (fun hc5=>?_) (fun hc5=>?_)
   ·(try simp only [zh] at hc5)
    refine zw zc [] rfl ?_;first | refine za rfl ?_ | refine zd rfl rfl zj ?_ | refine ze rfl rfl rfl zj ?_
    first | refine za rfl ?_ | refine zd rfl rfl zj ?_ | refine ze rfl rfl rfl zj ?_
    refine zi rfl rfl rfl (hev) ?_;iterate 3 refine za rfl ?_
    refine zk rfl rfl rfl rfl rfl yh rfl ?_;refine za rfl ?_;refine zb ?_;refine zf zc [] rfl ?_;first | refine za rfl ?_ | refine zd rfl rfl zj ?_ | refine ze rfl rfl rfl zj ?_
    refine zi rfl rfl rfl (hsc) ?_;refine zk rfl rfl rfl rfl rfl yh rfl ?_;refine zb ?_;refine zf zc [] rfl ?_;first | refine za rfl ?_ | refine zd rfl rfl zj ?_ | refine ze rfl rfl rfl zj ?_
    refine zi rfl rfl rfl (hro3) ?_;refine za rfl ?_;refine zb ?_;refine zn ?_;refine zf zc [] rfl ?_;refine za rfl ?_;refine zb ?_;refine yf ?_;refine yy (σ:=Nat) (fun y=>e.rows - y) (fun y=>y≤e.rows) (fun y=>[(11,I64 (y : Nat)),(2,.ptr 0 0),(4,.ptr 1 0)]) (fun y=>[.c (rxC x3),.c zRx]) [6,7,10] rfl (0) ?_ ?_ ?_
    ·refine ⟨[some 0,some 1],rfl,yo,yn,?_,?_⟩ <;> (repeat' first | exact trivial | exact ym | exact yq | exact yp rfl | refine yb ?_ ?_ | refine z4 rfl ?_ ?_ | refine zx ?_ ?_ | refine yk rfl ?_ | fail) <;> first | exact xd | (first | exact CvL.pure rfl | exact CvL.eq rfl hpx2 | exact Cv.pure (by simp only [T.pure,hpl]) | exact Cv.pure (by simp only [T.pure,hprl]) | exact Cv.pure (by simp only [T.pureL,T.pure,hpn,hpl0];rfl))
    ·(try dsimp only);omega
    rintro y hy;refine zn ?_;refine zf zc [] rfl ?_;iterate 4 refine za rfl ?_
    refine zb ?_;refine zm rfl (fun hc8=>?_) (fun hc8=>?_)
    ·(try simp only [zh] at hc8);have hyl : y < e.rows:=(by omega)
     refine zo ?_;refine zn ?_;refine yf ?_;refine yv zc [] [_,_,_,_,_,_,_,_,_] rfl yj yj ?_;iterate 2 refine za rfl ?_
     refine z9 (m:=y) rfl rfl rfl rfl rfl rfl hyl ?_;refine zd rfl rfl (z6 cLk (m:=y) (a:=e.look y) (hat1 y hyl) (by decide) rfl) ?_;iterate 2 refine za rfl ?_
     refine z9 (m:=y) rfl rfl rfl rfl rfl rfl hyl ?_;refine zd rfl rfl (z6 cLk (m:=y) (a:=e.look y) (hat1 y hyl) (by decide) rfl) ?_;refine ue (e.look y) (e.look y) rfl rfl ?_;iterate 2 refine zb ?_
     refine zm rfl (fun hc9=>?_) (fun hc9=>?_)
     ·exact absurd hc9 (by simp)
     ·(try simp only [zh] at hc9)
      refine zo ?_;refine zw zc [] rfl ?_;refine za rfl ?_;first | refine zy rfl rfl (by omega) ?_ | refine za rfl ?_
      refine za rfl ?_;refine zb ?_;refine ⟨y + 1,by (try dsimp only);omega,?_,(by refine ⟨[some 0,some 1],rfl,yo,yn,?_,?_⟩ <;> (repeat' first | exact trivial | exact ym | exact yq | exact yp rfl | refine yb ?_ ?_ | refine z4 rfl ?_ ?_ | refine zx ?_ ?_ | refine yk rfl ?_ | fail) <;> first | exact xd | (first | exact CvL.pure rfl | exact CvL.pure hpx2 | exact Cv.pure (by simp only [T.pure,hpl]) | exact Cv.pure (by simp only [T.pure,hprl]) | exact Cv.pure (by simp only [T.pureL,T.pure,hpn,hpl0];rfl)))⟩
      (try dsimp only);omega
    ·(try simp only [zh] at hc8);obtain rfl : y = e.rows:=(by omega)
     refine yz ?_;refine zf zc [] rfl ?_;refine za rfl ?_;first | refine za rfl ?_ | refine zd rfl rfl zj ?_ | refine ze rfl rfl rfl zj ?_
     iterate 2 refine za rfl ?_
     refine zy (a:=x3.cnt) (b:=(l.length : Nat)) rfl rfl z8 ?_;refine za rfl ?_;refine zk rfl rfl rfl rfl rfl yh rfl ?_;refine zb ?_;refine zf zc [] rfl ?_;first | refine za rfl ?_ | refine zd rfl rfl zj ?_ | refine ze rfl rfl rfl zj ?_
     refine za rfl ?_;refine zk rfl rfl rfl rfl rfl yh rfl ?_;refine za rfl ?_;refine zb ?_;refine zq ?_;exact ⟨trivial,_,rfl,Cv.tup (CvL.cons (Cv.eq rfl (yd _)) (CvL.cons (Cv.pure (by simp only [T.pure,hprl])) CvL.nil))⟩
   ·(try simp only [zh] at hc5);omega
end

section
open Go.RowKit
set_option maxRecDepth 100000
set_option maxHeartbeats 2000000
theorem zkg {e : Ed} {code : Int} {n : List Int} {p : Ed × List Rq} (h : e.evs code n = some p) : p.1.made = e.made∧p.1.win = e.win:=by
 unfold Ed.evs at h
 split at h
 ·injection h with h;subst h;exact ⟨rfl,rfl⟩
 split at h
 ·injection h with h;subst h;exact ⟨rfl,rfl⟩
 split at h
 ·injection h with h;subst h;exact ⟨rfl,rfl⟩
 split at h
 ·injection h with h;subst h;unfold Ed.movedN;split <;> exact ⟨rfl,rfl⟩
 split at h
 ·injection h with h;subst h;exact ⟨rfl,rfl⟩
 split at h
 ·injection h with h;subst h;unfold Ed.notiN;split <;> exact ⟨rfl,rfl⟩
 split at h
 ·injection h with h;subst h;show (e.clearN n).made = _∧(e.clearN n).win = _;unfold Ed.clearN;split <;> exact ⟨rfl,rfl⟩
 ·cases h
theorem zgi (e : Ed) (o : Ot) : (e.step o).1.made = e.made∧(e.step o).1.win = e.win:=by
 unfold Ed.step
 split
 ·exact ⟨rfl,rfl⟩
 split
 ·split <;> exact ⟨rfl,rfl⟩
 split
 ·exact ⟨rfl,rfl⟩
 cases h : e.evs o.code o.n with
 | none=>exact ⟨rfl,rfl⟩
 | some p=>exact zkg (p:=p) h
structure KA (e : Ed) (i : Nat) : Prop where
 w : e.W
 m : e.made = true
 n : e.win = 1048577
 k : 0≤e.cnt∧e.cnt≤6 + 200 * i
theorem KA.step {e : Ed} {i : Nat} (h : KA e i) (o : Ot) : KA (e.step o).1 (i + 1):=by
 obtain ⟨g1,g2,g3,-⟩:=rm h.w o h.k.1
 obtain ⟨k1,k2⟩:=zgi e o
 have:=h.k
 exact ⟨g1,k1.trans h.m,k2.trans h.n,⟨g2,by omega⟩⟩
theorem KA.key {e : Ed} {i : Nat} (h : KA e i) (b : UInt8) (hb : 32≤b.toNat∧b.toNat≤126) : (e.step (keyO b.toNat 0)).1.c = e.c.put [b]:=by
 have h1:=(zd2 e h.m h.n b.toNat 0).1
 rw [h1]
 have:=key_ty e.c b (by unfold okB;simp;omega)
 rw [if_neg (by omega)] at this
 exact this
theorem step_c (e : Ed) (o : Ot) (hW : e.W) (hc : 0≤e.cnt∧e.cnt≤900000000) (hn : nOk o.n) (hl : o.l.length≤100000) :
  CallP Tryz.prog 10 [edT e,otT o] (.tup [edT (e.step o).1,rqT (e.step o).2]):=zbx e o hW hc hn hl
end

section
open Go.RowKit
set_option maxRecDepth 100000
set_option maxHeartbeats 2000000
theorem qx {f k m : Int} (h : 1≤m) : sightN (sightN f k m) k m = sightN f k m:=by unfold sightN;repeat' split <;> omega
theorem zgp {e : Ed} (hw : e.W) : e.seen.seen = e.seen:=by
 have h:=hw.rows
 have h1 : sightN (sightN e.top (spotN e.c.bf.text e.c.cur).1 e.rows) (spotN e.c.bf.text e.c.cur).1 e.rows = sightN e.top (spotN e.c.bf.text e.c.cur).1 e.rows:=qx (by omega)
 have h2 : sightN (sightN e.left (spotN e.c.bf.text e.c.cur).2 e.cols) (spotN e.c.bf.text e.c.cur).2 e.cols = sightN e.left (spotN e.c.bf.text e.c.cur).2 e.cols:=qx (by omega)
 show ({ e.seen with top:=sightN (sightN e.top (spotN e.c.bf.text e.c.cur).1 e.rows) (spotN e.c.bf.text e.c.cur).1 e.rows,left:=sightN (sightN e.left (spotN e.c.bf.text e.c.cur).2 e.cols) (spotN e.c.bf.text e.c.cur).2 e.cols } : Ed) = _
 rw [h1,h2]
 rfl
theorem redN_same {e2 : Ed} {was : Nat→Lk} {l : List Rq} (h : ∀ y,e2.look y = was y) : ∀ n,e2.redN was l n = l
 | 0=>Ed.redN_zero _ _ _
 | n + 1=>by rw [Ed.redN_same (h n),redN_same h n]
theorem zd5 {e : Ed} (h : e.seen = e) (k : Int) : ({ e with cnt:=k } : Ed).seen = { e with cnt:=k }:=by
 show ({ e.seen with cnt:=k } : Ed) = _
 rw [h]
end

section
open Go.RowKit
set_option maxRecDepth 100000
set_option maxHeartbeats 2000000
theorem zbh {c : Ec} (ok : c.Ok) (o : BSt) (cur anc : Nat) : ({ c with bf:=c.bf.chg o,cur:=cur,anc:=anc } : Ec).few:=by
 have h:=zat c.bf.past o ok.bf.few.1
 show (wth c.bf.past o).length + ([] : List BSt).length≤256
 simpa using h
theorem zdo {c : Ec} (ok : c.Ok) (hf : c.few) : c.cut.few:=by
 unfold Ec.cut
 split
 ·exact hf
 ·exact zbh ok _ _ _
theorem zdn {c : Ec} (ok : c.Ok) (hf : c.few) (s : List UInt8) : (c.put s).few:=by
 have h1:=ok.cut.1
 have h2:=zdo ok hf
 unfold Ec.put Ec.ins
 split
 ·exact h2
 ·exact zbh h1 _ _ _
theorem zhz {c : Ec} (ok : c.Ok) (hf : c.few) : c.erase.few:=by
 unfold Ec.erase
 split
 ·exact zdo ok hf
 ·split
  ·exact hf
  ·exact zbh ok _ _ _
theorem zfq {c : Ec} (ok : c.Ok) (hf : c.few) : c.eraseF.few:=by
 unfold Ec.eraseF
 split
 ·exact zdo ok hf
 ·split
  ·exact hf
  ·exact zbh ok _ _ _
theorem zkb {c : Ec} (hf : c.few) : (c.back c.bf.undo).few:=by
 rcases tf c.bf.past with h | ⟨l,o,h⟩
 ·have : c.back c.bf.undo = c:=by unfold Bf.undo;rw [h];rfl
  rw [this];exact hf
 ·unfold Ec.few at hf
  rw [h,List.length_append,List.length_singleton] at hf
  have e1 : c.bf.undo = (⟨l,c.bf.fut ++ [o],unT c.bf.text o⟩,true):=by
   unfold Bf.undo
   rw [h]
   simp only [List.getLast?_append,List.getLast?_singleton,Option.some_or,List.dropLast_concat,qr (show c.bf.fut.length < 256 by omega)]
   rfl
  rw [e1]
  show l.length + (c.bf.fut ++ [o]).length≤256
  rw [List.length_append,List.length_singleton];omega
theorem zkc {c : Ec} (hf : c.few) : (c.back c.bf.redo).few:=by
 rcases tf c.bf.fut with h | ⟨l,o,h⟩
 ·have : c.back c.bf.redo = c:=by unfold Bf.redo;rw [h];rfl
  rw [this];exact hf
 ·unfold Ec.few at hf
  rw [h,List.length_append,List.length_singleton] at hf
  have e1 : c.bf.redo = (⟨c.bf.past ++ [o],l,reT c.bf.text o⟩,true):=by
   unfold Bf.redo
   rw [h]
   simp only [List.getLast?_append,List.getLast?_singleton,Option.some_or,List.dropLast_concat,qr (show c.bf.past.length < 256 by omega)]
   rfl
  rw [e1]
  show (c.bf.past ++ [o]).length + l.length≤256
  rw [List.length_append,List.length_singleton];omega
theorem few_cmd {c : Ec} (hf : c.few) (code : Int) : (c.cmd code).few:=by
 unfold Ec.cmd
 split
 ·exact zkb hf
 split
 ·exact zkc hf
 split
 ·exact hf
 split
 ·split <;> exact hf
 ·exact hf
theorem few_key {c : Ec} (ok : c.Ok) (hf : c.few) (code mods : Int) : (c.key code mods).few:=by
 unfold Ec.key
 split
 ·exact few_cmd hf code
 split
 ·exact hf
 cases letN code mods with
 | some b=>exact zdn ok hf _
 | none=>
  dsimp only
  cases c.goes code with
  | some k=>dsimp only;split <;> exact hf
  | none=>
   dsimp only
   split
   ·exact hf
   split
   ·exact zdn ok hf _
   split
   ·exact zhz ok hf
   split
   ·exact zfq ok hf
   ·exact hf
theorem ev56_V {e : Ed} (hv : e.V) (hc : 0≤e.cnt) (o : Ot) : (e.ev56 o).1.W∧(e.ev56 o).1.made = true∧(e.ev56 o).1.win = e.win∧(e.ev56 o).1.pen = e.pen∧(e.ev56 o).1.c.few∧0≤(e.ev56 o).1.asked∧(e.ev56 o).1.cnt = e.cnt∧(e.ev56 o).1.rows = e.rows∧(e.ev56 o).2.length≤10:=by
 have hw:=hv.w
 have hsame : e.W∧e.made = true∧e.win = e.win∧e.pen = e.pen∧e.c.few∧0≤e.asked∧e.cnt = e.cnt∧e.rows = e.rows∧([] : List Rq).length≤10:=⟨hw,hv.made,rfl,rfl,hv.few,hv.ask,rfl,rfl,by simp⟩
 have hput : ∀ c : Ec,c.Ok→c.few→(e.wc c).W∧(e.wc c).made = true∧(e.wc c).win = e.win∧(e.wc c).pen = e.pen∧(e.wc c).c.few∧0≤(e.wc c).asked∧(e.wc c).cnt = e.cnt∧(e.wc c).rows = e.rows∧([] : List Rq).length≤10:=fun c h1 h2=>⟨hw.put_c h1,hv.made,rfl,rfl,h2,hv.ask,rfl,rfl,by simp⟩
 unfold Ed.ev56
 split
 ·unfold Ed.ev55
  split
  ·exact hsame
  split
  ·obtain ⟨a1,a2,a3,a4,a5,a6,a7,a8,-⟩:=hput (e.c.key o.n[2]! (o.n[3]! % 256)) (hw.o.key _ _) (few_key hw.o hv.few _ _)
   exact ⟨a1,a2,a3,a4,a5,a6,a7,a8,zbd e _ _ _⟩
  split
  ·exact hput { e.c with cur:=e.pt o.n,anc:=e.pt o.n } ⟨hw.o.bf,⟨zaz e o.n,zaz e o.n⟩,hw.o.cop⟩ hv.few
  split
  ·split
   ·exact hsame
   ·exact hput { e.c with cur:=e.pt o.n } ⟨hw.o.bf,⟨zaz e o.n,hw.o.cur.2⟩,hw.o.cop⟩ hv.few
  split
  ·unfold Ed.clearN
   split
   ·exact hput { e.c with cop:=[] } ⟨hw.o.bf,hw.o.cur,by simp⟩ hv.few
   ·exact hsame
  split
  ·obtain ⟨a1,a2,a3,a4,a5,a6,a7,a8,-⟩:=hsame
   exact ⟨a1,a2,a3,a4,a5,a6,a7,a8,by unfold Ed.givR;dsimp only;split <;> simp⟩
  split
  ·unfold Ed.notiN
   split
   ·exact hsame
   ·exact ⟨⟨hw.s,hw.o,hw.t⟩,hv.made,rfl,rfl,hv.few,by show 0≤e.cnt + 1;omega,rfl,rfl,by simp⟩
  ·exact hsame
 ·split
  ·refine ⟨zea hw o.l,hv.made,rfl,rfl,?_,Int.le_refl _,rfl,rfl,by simp⟩
   unfold Ed.pasteE
   dsimp only
   split
   ·exact hv.few
   ·exact zdn hw.o hv.few _
  ·exact hsame
theorem step_V {e : Ed} (hv : e.V) (hc : 0≤e.cnt) (o : Ot) : (e.step o).1.V:=by
 rw [← qw hv o]
 obtain ⟨a1,a2,a3,a4,a5,a6,a7,a8,a9⟩:=ev56_V hv hc o
 unfold Ed.step55
 split
 ·exact hv
 split
 ·split
  ·exact hv
  ·exact ⟨⟨hv.w.s,hv.w.o,hv.w.t⟩,hv.made,hv.pen,hv.win,hv.few,zd5 hv.seen _,hv.ask⟩
 ·have hs:=a1.seen
  refine ⟨⟨hs.s,hs.o,hs.t⟩,a2,?_,?_,a5,zd5 (zgp a1) _,a6⟩
  ·show (e.ev56 o).1.pen = (e.ev56 o).1.win + 1
   rw [a3,a4];exact hv.pen
  ·show 0≤(e.ev56 o).1.win∧(e.ev56 o).1.win≤_
   rw [a3];exact hv.win
theorem stepR_p (e : Ed) (hv : e.V) (hcn : 0≤e.cnt∧e.cnt≤900000000) (o : Ot) (hn : nOk o.n) (hl : o.l.length≤100000) : StepQ e o (e.step o):=by
 rw [← qw hv o]
 have hw:=hv.w
 unfold Ed.step55
 by_cases h0 : wholeB o = false
 ·rw [if_pos h0];exact zjh e hw o h0
 have h1 : wholeB o = true:=by cases h : wholeB o with | true=>rfl | false=>exact absurd h h0
 rw [if_neg h0]
 by_cases hk : o.kind = 2∧o.code = 10
 ·rw [if_pos hk]
  obtain ⟨hk2,k,he,hlen⟩:=u9 h1 (by omega)
  have hk6:=(zh4 he).1 hk.2
  by_cases hwi : o.n[0]!≠e.win
  ·rw [if_pos hwi];exact zjg e hw o h1 hk.1 hk.2 (by omega) hwi
  ·rw [if_neg hwi];exact zjf e hv hcn o hn h1 hk.1 hk.2 (by omega) (by simpa using hwi)
 rw [if_neg hk]
 obtain ⟨a1,a2,a3,a4,a5,a6,a7,a8,a9⟩:=ev56_V hv hcn.1 o
 have hk3:=zh6 hv.seen o
 have hevt : o.kind = 2→CallP Tryz.prog 34 [rxT e.R,otT o] (.tup [rxT (e.ev56 o).1.R,rqN (e.ev56 o).2]):=fun h2=>by
  obtain ⟨-,k,he,hlen⟩:=u9 h1 (by omega)
  obtain ⟨b1,b2,b3,b4,b5,b6,b7⟩:=zh4 he
  have h4:=zh3 e hw hv.few hcn o hn (fun h=>by have:=b2 h;omega) (fun h=>by have:=b3 h;omega) (fun h=>by have:=b4 h;omega) (fun h=>by have:=b7 h;omega) (fun h=>by have:=b5 h;omega) (fun h=>by have:=b6 h;omega)
  rw [show e.ev56 o = e.ev55 o.code o.n by unfold Ed.ev56;rw [if_pos h2]]
  exact h4
 have hpaste : ¬ o.kind = 2→o.code = 15∧0 < e.asked∧o.seq = e.asked→e.ev56 o = (e.pasteE o.l,[]):=fun g1 g2=>by unfold Ed.ev56;rw [if_neg g1,if_pos g2]
 have hnone : ¬ o.kind = 2→¬ (o.code = 15∧0 < e.asked∧o.seq = e.asked)→e.ev56 o = (e,[]):=fun g1 g2=>by unfold Ed.ev56;rw [if_neg g1,if_neg g2]
 generalize e.ev56 o = p at *
 obtain ⟨e2,l⟩:=p
 dsimp only at *
 cases l with
 | nil=>
  refine zgk e e2 hv a1 (by show e2.pen = e2.win + 1;rw [a3,a4];exact hv.pen) (by show 0≤e2.win∧e2.win≤_;rw [a3];exact hv.win) a8 (by show 0≤e2.cnt∧e2.cnt≤_;rw [a7];exact hcn) o h1 hk hl hevt (fun g1 g2=>?_) (fun g1 g2=>?_)
  ·have:=hpaste g1 g2;exact congrArg Prod.fst this
  ·have:=hnone g1 g2;exact congrArg Prod.fst this
 | cons r l=>
  obtain ⟨k1,k2⟩:=hk3 (by simp)
  have h2 : o.kind = 2:=by
   by_cases h9 : o.kind = 2
   ·exact h9
   ·exfalso
    by_cases h8 : o.code = 15∧0 < e.asked∧o.seq = e.asked
    ·have:=congrArg Prod.snd (hpaste h9 h8);cases this
    ·have:=congrArg Prod.snd (hnone h9 h8);cases this
  have h5:=zgj e e2 (r :: l) hv a1 k1 k2 (by omega) (by rw [a7];exact hcn) a8 o h1 (fun h=>hk ⟨h2,h⟩) h2 (hevt h2)
  have h6 : (e2.seen,e2.seen.redN e.look (r :: l) e.rows) = (e2,r :: l):=by rw [k1,zb3 e2 e.look (r :: l) e.rows k2]
  rw [h6]
  exact h5
end
end Go.Proofs.YtofmninnienjhaaGreatDoor
