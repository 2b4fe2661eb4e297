/-
  The proof's lemmas, part 4.
-/
import Derived.Test.YtofmninnienjhaaGreatDoorEdtc
namespace Go.Proofs.YtofmninnienjhaaGreatDoor
set_option linter.unusedSimpArgs false
set_option linter.unusedVariables false

section
open Go.RowKit
set_option maxRecDepth 100000
set_option maxHeartbeats 1000000
theorem lk_eq (a b : Lk) : mEq tab 105 (lkT a) (lkT b) = some (decide (a = b)):=by
 have h : mEq tab 105 (lkT a) (lkT b) = some (((⟨a.let8.toArray⟩ : ByteArray).toList == (⟨b.let8.toArray⟩ : ByteArray).toList) && ((a.fm == b.fm) && ((a.tz == b.tz) && ((a.cu == b.cu) && true)))):=by rfl
 rw [h,zaw]
 obtain ⟨a1,a2,a3,a4⟩:=a
 obtain ⟨b1,b2,b3,b4⟩:=b
 congr 1
 rw [Bool.eq_iff_iff]
 simp [Lk.mk.injEq]
section
variable {q : Bool} {P : Program} {im : List Nat} {ds : List (Option Nat)} {l : List Oper} {E : Env} {H : Hp} {K : Env→Hp→Prop} {d : Nat} {ty : TypeId} {pos : String} {after : Array Edge}
theorem VX.neqLk [Dr] {x y : Operand} {t2 : Nat} (a b : Lk) (hx : E.opd x = some (lkT a)) (hy : E.opd y = some (lkT b)) (k : VX q P tab im ds l ((d,BL (!decide (a = b))) :: E) H K) : VX q P tab im ds (⟨some d,.binOp .neq 105 x y t2,ty,pos,after,none⟩ :: l) E H K:=by
 refine za (t:=BL (!decide (a = b))) ?_ k
 simp only [opM,hx,hy,mBin,lk_eq]
end
theorem zdh (e : Ed) (y : Nat) (hw : e.W) : -10000≤(e.look y).fm∧(e.look y).fm≤10000∧-10000≤(e.look y).tz∧(e.look y).tz≤10000∧-10000≤(e.look y).cu∧(e.look y).cu≤10000:=by
 have h1:=sg e.c.bf.text e.c.cur
 have h2:=hw.len
 have h3:=hw.t
 have h4:=hw.rows
 unfold Ed.look
 dsimp only
 split
 ·dsimp only;omega
 ·dsimp only
  generalize spotN e.c.bf.text e.c.cur = sp at *
  generalize placeN e.c.bf.text (e.top + y) 0 = b0 at *
  generalize lineN e.c.bf.text (e.top + y) = s at *
  refine ⟨?_,?_,?_,?_,?_,?_⟩ <;> split <;> omega
def Ed.redN (e : Ed) (was : Nat→Lk) (l : List Rq) (n : Nat) : List Rq:=l ++ ((List.range n).map fun y=>if e.look y = was y then [] else e.drawnR y (e.look y)).flatten
theorem Ed.redN_zero (e : Ed) (was : Nat→Lk) (l : List Rq) : e.redN was l 0 = l:=by simp [Ed.redN]
theorem Ed.redN_same {e : Ed} {was : Nat→Lk} {l : List Rq} {n : Nat} (h : e.look n = was n) : e.redN was l (n + 1) = e.redN was l n:=by
 unfold Ed.redN;rw [List.range_succ,List.map_append,List.flatten_append];simp [h]
theorem Ed.redN_new {e : Ed} {was : Nat→Lk} {l : List Rq} {n : Nat} (h : ¬ e.look n = was n) : e.redN was l (n + 1) = e.redN was l n ++ e.drawnR n (e.look n):=by
 unfold Ed.redN;rw [List.range_succ,List.map_append,List.flatten_append];simp [h]
theorem Ed.redN_len (e : Ed) (was : Nat→Lk) (l : List Rq) (n : Nat) : (e.redN was l n).length≤l.length + 5 * n:=by
 induction n with
 | zero=>rw [Ed.redN_zero];omega
 | succ n ih=>
  by_cases h : e.look n = was n
  ·rw [Ed.redN_same h];omega
  ·rw [Ed.redN_new h,List.length_append];have:=e.drawnR_len n (e.look n);omega
theorem Ed.W.seen {e : Ed} (h : e.W) : e.seen.W:=by
 have h1:=sg e.c.bf.text e.c.cur
 have h2:=h.len
 have h3:=h.t
 have h4:=h.rows
 have s1:=zby (first:=e.top) (k:=(spotN e.c.bf.text e.c.cur).1) (many:=e.rows) h3.1 (by omega) (by omega)
 have s2:=zby (first:=e.left) (k:=(spotN e.c.bf.text e.c.cur).2) (many:=e.cols) h3.2.2.1 (by omega) (by omega)
 refine ⟨h.s,h.o,?_⟩
 show 0≤sightN _ _ _∧sightN _ _ _≤4096∧0≤sightN _ _ _∧sightN _ _ _≤4096
 omega
theorem sm (e e2 : Ed) (hw : e.W) (hw2 : e2.W) (hr : e2.rows = e.rows) (l : List Rq) (hl : l.length≤10) (f : FuncId) (cs : List T)
  (hdoes : CallT Tryz.prog f ([] ++ [] ++ cs) [.c (edC e)] (fun t H'=>t = .slc 1 0 l.length 4 none∧H' = [.c (edC e2),.c (encL cRq l)])) (hcs : CvL (vwIn [0]) cs cs) :
  CallT Tryz.prog 25 [.ptr 0 0,.clo f [] cs] [.c (edC e)] (fun t H'=>t = .slc 1 0 (e2.seen.redN e.look l e.rows).length 4 none∧H' = [.c (edC e2.seen),.c (encL cRq (e2.seen.redN e.look l e.rows))]):=by
 have hp:=yg e
 have hp2:=yg e2
 have hlk:=zdg e hw
 have hw3:=hw2.seen
 have hp3:=yg e2.seen
 have hlk3:=zdg e2.seen hw3
 have hpl:=zp cRq l
 have hpk:=zp cLk (e.lk e.rows)
 have hpk3:=zp cLk (e2.seen.lk e.rows)
 have h1:=sg e2.c.bf.text e2.c.cur
 have h2:=hw2.len
 have h3:=hw2.t
 have h4:=hw2.rows
 have hst:=zgl e2.c.bf e2.c.cur h2 hw2.o.cur.1
 have hs2:=hw2.s
 have hro:=rows_l e2 (by omega)
 have hco:=zii { e2 with top:=sightN e2.top (spotN e2.c.bf.text e2.c.cur).1 e2.rows } (by show 0≤e2.w∧e2.w≤1000;omega)
 have hs1:=zgm e2.top (spotN e2.c.bf.text e2.c.cur).1 e2.rows (by omega) (by omega) (by omega)
 have hs22:=zgm e2.left (spotN e2.c.bf.text e2.c.cur).2 e2.cols (by omega) (by omega) (by omega)
 have hr3 : e2.seen.rows = e.rows:=hr
 rw [hr3] at hlk3
 have hrN:=e2.seen.redN_len e.look l
 refine CallT.out ?_;refine CallT.intro zc Tryz.func25 rfl (by kernel_rfl) (Nat.le_of_ble_eq_true rfl) ?_;refine zf zc [] rfl ?_;refine za rfl ?_;refine zb ?_;refine zf zc [] rfl ?_;refine za rfl ?_;refine vn rfl rfl (hlk) rfl ?_;refine za rfl ?_;refine zb ?_;refine zf zc [] rfl ?_;refine za rfl ?_;refine y7 rfl rfl (CallT.frame hdoes [0] rfl xj hcs ?_);rintro _ _ ⟨rfl,rfl⟩;refine frK xk (r8 (CvL.pure hp2) (r8 (CvL.pure hpl) rg)) ?_;refine za rfl ?_;refine zb ?_;refine xr ([(0,.ptr 0 0),(6,.slc 1 0 l.length 4 none)]) ([.c (edC e2),.c (encL cRq l)]) [5] rfl (by refine ⟨[some 0,some 1],rfl,yo,yn,?_,?_⟩ <;> (repeat' first | exact trivial | exact ym | exact yq | exact yp rfl | refine yb ?_ ?_ | refine z4 rfl ?_ ?_ | refine zx ?_ ?_ | refine yk rfl ?_ | fail) <;> first | exact xd | (first | exact CvL.pure hp2 | exact CvL.pure hpl | exact Cv.pure (by simp only [T.pure,hpk]))) ?_
 refine yv zc [] [_,_,_,_,_,_,_,_,_,_,_,_,_,_,_] rfl yj yj ?_;iterate 3 refine za rfl ?_
 first | refine za rfl ?_ | refine zd rfl rfl zj ?_ | refine ze rfl rfl rfl zj ?_
 iterate 4 refine za rfl ?_
 first | refine za rfl ?_ | refine zd rfl rfl zj ?_ | refine ze rfl rfl rfl zj ?_
 refine zi rfl rfl rfl (hst) ?_;iterate 5 refine za rfl ?_
 iterate 2 refine zb ?_
 refine sc zc [] [_,_,_,_,_,_,_,_,_] ([.c (edC e2)]) [false,false,false,false,false,false,false,false,false] rfl yj yj yj (by repeat' first | exact x5 | refine x8 ?_ | refine xe ?_) ?_;refine yx rfl ?_;refine yx rfl ?_;refine yx rfl ?_;refine yx rfl ?_;first | refine yx rfl ?_ | refine VD.loadI rfl rfl zj ?_
 refine yx rfl ?_;refine yx rfl ?_;refine uw rfl rfl (hro) rfl ?_;refine ze7 rfl rfl (hs1) ?_;refine qj ?_;iterate 2 refine za rfl ?_
 refine zk rfl rfl rfl rfl rfl yh rfl ?_;refine zb ?_;refine xr ([(0,.ptr 0 0),(6,.slc 1 0 l.length 4 none)]) ([.c (edC { e2 with top:=sightN e2.top (spotN e2.c.bf.text e2.c.cur).1 e2.rows }),.c (encL cRq l)]) [5,8] rfl (by refine ⟨[some 0,some 1],rfl,yo,yn,?_,?_⟩ <;> (repeat' first | exact trivial | exact ym | exact yq | exact yp rfl | refine yb ?_ ?_ | refine z4 rfl ?_ ?_ | refine zx ?_ ?_ | refine yk rfl ?_ | fail) <;> first | exact xd | (first | exact CvL.eq rfl (yg _) | exact CvL.pure hpl | exact Cv.pure (by simp only [T.pure,hpk]))) ?_
 refine sc zc [] [_,_,_,_,_,_,_,_,_] ([.c (edC { e2 with top:=sightN e2.top (spotN e2.c.bf.text e2.c.cur).1 e2.rows })]) [false,false,false,false,false,false,false,false,false] rfl yj yj yj (by repeat' first | exact x5 | refine x8 ?_ | refine xe ?_) ?_;refine yx rfl ?_;refine yx rfl ?_;refine yx rfl ?_;refine yx rfl ?_;first | refine yx rfl ?_ | refine VD.loadI rfl rfl zj ?_
 refine yx rfl ?_;refine yx rfl ?_;refine uw rfl rfl (hco) rfl ?_;refine ze7 rfl rfl (hs22) ?_;refine qj ?_;iterate 2 refine za rfl ?_
 refine zk rfl rfl rfl rfl rfl yh rfl ?_;refine zb ?_;refine xr ([(0,.ptr 0 0),(6,.slc 1 0 l.length 4 none)]) ([.c (edC e2.seen),.c (encL cRq l)]) [5] rfl (by refine ⟨[some 0,some 1],rfl,yo,yn,?_,?_⟩ <;> (repeat' first | exact trivial | exact ym | exact yq | exact yp rfl | refine yb ?_ ?_ | refine z4 rfl ?_ ?_ | refine zx ?_ ?_ | refine yk rfl ?_ | fail) <;> first | exact xd | (first | exact CvL.eq rfl (yg _) | exact CvL.pure hpl | exact Cv.pure (by simp only [T.pure,hpk]))) ?_
 refine zn ?_;refine zf zc [] rfl ?_;refine za rfl ?_;refine vn rfl rfl (hlk3) rfl ?_;iterate 2 refine za rfl ?_
 refine zb ?_;refine yf ?_;refine yy (σ:=Nat) (fun y=>e.rows - y) (fun y=>y≤e.rows) (fun y=>[(53,I64 (y : Nat)),(0,.ptr 0 0),(6,.slc 1 0 (e2.seen.redN e.look l y).length 4 none)]) (fun y=>[.c (edC e2.seen),.c (encL cRq (e2.seen.redN e.look l y))]) [5,51,52] rfl (0) ?_ ?_ ?_
 ·refine ⟨[some 0,some 1],rfl,yo,yn,?_,?_⟩ <;> (repeat' first | exact trivial | exact ym | exact yq | exact yp rfl | refine yb ?_ ?_ | refine z4 rfl ?_ ?_ | refine zx ?_ ?_ | refine yk rfl ?_ | fail) <;> first | exact xd | (first | exact CvL.pure hp3 | exact CvL.eq (by rw [Ed.redN_zero]) (zp _ _) | exact Cv.pure (by simp only [T.pure,hpk]) | exact Cv.pure (by simp only [T.pure,hpk3]) | exact Cv.slcE rfl (by rw [Ed.redN_zero]) (.inl rfl))
 ·(try dsimp only);omega
 rintro y hy;refine zf zc [] rfl ?_;refine za rfl ?_;refine zb ?_;refine zn ?_;refine zm rfl (fun hc0=>?_) (fun hc0=>?_)
 ·(try simp only [zh] at hc0);have hyl : y < e.rows:=(by omega);have hrg:=zdh e2.seen y hw3;have hdr:=zic e2.seen y (e2.seen.look y) (by omega) hrg;have hdn:=e2.seen.drawnR_len y (e2.seen.look y);have hrNy:=hrN y
  refine zo ?_;refine zn ?_;refine yf ?_;refine zf zc [] rfl ?_;refine za rfl ?_;refine z9 (m:=y) rfl rfl rfl rfl rfl rfl hyl ?_;refine zd rfl rfl (z6 cLk (m:=y) (a:=e2.seen.look y) (e2.seen.lk_at hyl) (by decide) rfl) ?_;refine yc rfl rfl ?_;refine za rfl ?_;refine zk rfl rfl rfl rfl rfl yh rfl ?_;refine zb ?_;refine yv zc [] [_,_,_,_,_,_] rfl yj yj ?_;first | refine za rfl ?_ | refine zd rfl rfl zj ?_ | refine ze rfl rfl rfl zj ?_
  iterate 2 refine za rfl ?_
  refine z9 (m:=y) rfl rfl rfl rfl rfl rfl hyl ?_;refine zd rfl rfl (z6 cLk (m:=y) (a:=e.look y) (e.lk_at hyl) (by decide) rfl) ?_;refine VX.neqLk (e2.seen.look y) (e.look y) rfl rfl ?_;iterate 2 refine zb ?_
  refine zm rfl (fun hc1=>?_) (fun hc1=>?_)
  ·have hne : ¬ e2.seen.look y = e.look y:=(by simpa using hc1);have eT:=Ed.redN_new (l:=l) hne
   refine zw zc [] rfl ?_;iterate 3 refine za rfl ?_
   first | refine za rfl ?_ | refine zd rfl rfl zj ?_ | refine ze rfl rfl rfl zj ?_
   refine vn rfl rfl (hdr) rfl ?_;refine' yw rfl rfl rfl rfl rfl rfl (tt cRq rfl rfl rfl rfl) rfl ?h1 ?h2 ?h3 ?h4 ?h5 ?_
   case h1=>rw [ye,vx];omega
   case h2=>exact Nat.le_trans (Nat.mul_le_mul_right _ (show _≤1000 by omega)) (by decide)
   case h3=>omega
   case h4=>rw [ye];rfl
   case h5=>exact wh _ _
   refine za rfl ?_;refine zb ?_;refine zw zc [] rfl ?_;first | refine zy rfl rfl (by omega) ?_ | refine za rfl ?_
   refine za rfl ?_;refine zb ?_;refine ⟨y + 1,by (try dsimp only);omega,?_,(by refine ⟨[some 0,some 3],rfl,yo,yn,?_,?_⟩ <;> (repeat' first | exact trivial | exact ym | exact yq | exact yp rfl | refine yb ?_ ?_ | refine z4 rfl ?_ ?_ | refine zx ?_ ?_ | refine yk rfl ?_ | fail) <;> first | exact xd | (first | exact CvL.pure hp3 | exact Cv.pure (by simp only [T.pure,hpk]) | exact Cv.pure (by simp only [T.pure,hpk3]) | (rw [eT,List.length_append];exact Cv.slc rfl (.inr rfl)) | exact CvL.eq (by rw [eT,yr,List.drop_zero,List.take_of_length_le (by rw [ye,vx];exact Nat.le_refl _)]) (zp _ _)))⟩
   (try dsimp only);omega
  ·have hne : e2.seen.look y = e.look y:=(by simpa using hc1);have eF:=Ed.redN_same (l:=l) hne
   refine zo ?_;refine zw zc [] rfl ?_;first | refine zy rfl rfl (by omega) ?_ | refine za rfl ?_
   refine za rfl ?_;refine zb ?_;refine ⟨y + 1,by (try dsimp only);omega,?_,(by refine ⟨[some 0,some 1],rfl,yo,yn,?_,?_⟩ <;> (repeat' first | exact trivial | exact ym | exact yq | exact yp rfl | refine yb ?_ ?_ | refine z4 rfl ?_ ?_ | refine zx ?_ ?_ | refine yk rfl ?_ | fail) <;> first | exact xd | (first | exact CvL.pure hp3 | exact Cv.pure (by simp only [T.pure,hpk]) | exact Cv.pure (by simp only [T.pure,hpk3]) | (rw [eF];exact Cv.slc rfl (.inl rfl)) | exact CvL.eq (by rw [eF]) (zp _ _)))⟩
   (try dsimp only);omega
 ·(try simp only [zh] at hc0);obtain rfl : y = e.rows:=(by omega)
  refine yz ?_;refine zf zc [] rfl ?_;iterate 2 refine za rfl ?_
  refine zb ?_;refine zq ?_;exact ⟨trivial,_,rfl,out2 (b:=0) rfl rfl (CvL.pure hp3) (CvL.pure (zp _ _))⟩
end

section
open Go.RowKit
set_option maxRecDepth 100000
set_option maxHeartbeats 2000000
/- a function's operations one by one, and what the ones that build come to -/
def opsC : Code→List Oper
 | .region _ ops _=>ops.toList
 | .seq a b=>opsC a ++ opsC b
 | .cond _ a b=>opsC a ++ opsC b
 | .block _ a=>opsC a
 | .loop a=>opsC a
 | _=>[]
def isBuild (o : Oper) : Bool:=match o.op with | .build ..=>true | _=>false
def runC : List Oper→Env→Env
 | [],E=>E
 | o :: r,E=>match o.dst,opM tab (fun _=>none) 0 E.opd o.op with | some d,some (t,_)=>runC r ((d,t) :: E) | _,_=>runC r E
def cellsT : Option T→List T
 | some (.agg cs)=>cs
 | _=>[]
def builtC (f : Func) (d : Nat) : List T:=cellsT ((runC ((opsC (f.body.getD .skip)).filter isBuild) []).get d)
noncomputable def evCs : List T:=builtC Tryz.f73 36
noncomputable def rqA : List T:=builtC Tryz.f99 30
noncomputable def rqB : List T:=builtC Tryz.f100 30
theorem zki : evCs.length = 78:=by kernel_rfl
theorem rqA_len : rqA.length = 90:=by kernel_rfl
theorem rqB_len : rqB.length = 177:=by kernel_rfl
theorem zh5 : T.pureL evCs = true:=by kernel_rfl
theorem zd8 : T.pureL rqA = true:=by kernel_rfl
theorem zd7 : T.pureL rqB = true:=by kernel_rfl
def evOne (n : Nat) (e : List T) : Bool:=
 match e with
 | [.v (.string a),.v (.string b),.v (.string c)]=>
  (mEq tab 121 (.agg [.v (.string a),.v (.string b),.v (.string c)]) (.agg [strT [],strT [],strT []]) == some false) && lineB b.data.toList && (needsE n == 0 || (fmOf (Lib.fields b.data.toList)).fx.length == needsE n)
 | _=>false
def evChk (cs : List T) : Bool:=(List.range 25).all fun k=>evOne (k + 1) ((cs.drop ((k + 1) * 3)).take 3)
def needsR (n : Nat) : Nat:=if n = 9 then 7 else if n = 15 then 3 else 0
def rqOne (n : Nat) (e : List T) : Bool:=
 match e with
 | [.v (.string a),.v (.string b),.v (.string c)]=>(c.data.toList == [] && needsR n == 0) || (lineB c.data.toList && (needsR n == 0 || (fmOf (Lib.fields c.data.toList)).fx.length == needsR n) && !(c.data.toList == []))
 | _=>false
def rqChk (cs : List T) (a n : Nat) : Bool:=(List.range n).all fun k=>rqOne (a + k) ((cs.drop ((a + k) * 3)).take 3)
theorem ev_ok : evChk evCs = true:=by kernel_rfl
theorem rqA_ok : rqChk rqA 1 29 = true:=by kernel_rfl
theorem rqB_ok : rqChk rqB 30 29 = true:=by kernel_rfl
end

section
open Go.RowKit
set_option maxRecDepth 100000
set_option maxHeartbeats 2000000
section
variable {q : Bool} {P : Program} {tab : Tab} {im : List Nat} {ds : List (Option Nat)} {l : List Oper} {E : Env} {H : Hp} {K : Env→Hp→Prop} {d : Nat} {ty : TypeId} {pos : String} {after : Array Edge}
def meekL (tab : Tab) (look : Look) (nx : Nat) : List Oper→Env→Option Env
 | [],E=>some E
 | o :: r,E=>match o with
  | ⟨some d,op,_,_,_,none⟩=>match opM tab look nx E.opd op with | some (t,none)=>meekL tab look nx r ((d,t) :: E) | _=>none
  | _=>none
theorem zi4 [Dr] {E' : Env} : ∀ (l l2 : List Oper) (E : Env),meekL tab (lookH H) H.length l E = some E'→VX q P tab im ds l2 E' H K→VX q P tab im ds (l ++ l2) E H K
 | [],l2,E,h,k=>by
  injection h with h
  subst h
  exact k
 | o :: r,l2,E,h,k=>by
  obtain ⟨dst,op,ty,pos,after,g⟩:=o
  cases dst with
  | none=>cases h
  | some d=>
   cases g with
   | some g=>cases h
   | none=>
    simp only [meekL] at h
    split at h
    ·rename_i t ht
     exact za ht (zi4 r l2 _ h k)
    ·cases h
theorem VX.bulkN [Dr] (n : Nat) {E' : Env} {l : List Oper} (h : meekL tab (lookH H) H.length (l.take n) E = some E') (k : VX q P tab im ds (l.drop n) E' H K) : VX q P tab im ds l E H K:=by
 have:=zi4 (im:=im) (ds:=ds) (P:=P) (q:=q) _ _ _ h k
 rwa [List.take_append_drop] at this
theorem zbt [Dr] (n : Nat) (L : Env) {l : List Oper} (h : meekL tab (lookH H) H.length (l.take n) E = some (L ++ E)) (k : VX q P tab im ds (l.drop n) (L ++ E) H K) : VX q P tab im ds l E H K:=VX.bulkN n h k
theorem VX.idxAr [Dr] {t e o m w : Nat} {x ix : Operand} {i j : TyI} {cs : List T} {k : IntKind} (hT : tab t = some i) (hk : i.k = .arr w e) (hj : tab e = some j) (hx : E.opd x = some (.iptr cs o)) (hi : E.opd ix = some (.v (.int k (m : Int)))) (hm : m < w)
  (kk : VX q P tab im ds l ((d,.iptr cs (o + m * j.sz)) :: E) H K) : VX q P tab im ds (⟨some d,.indexAddr t x ix,ty,pos,after,none⟩ :: l) E H K:=by
 refine za (t:=.iptr cs (o + m * j.sz)) ?_ kk
 simp only [opM,hx,hi,mIndexAddr,hT,hk,hj]
 rw [if_pos ⟨by omega,by omega⟩];rfl
theorem ze5 [Dr] {t e m w : Nat} {x ix : Operand} {i j : TyI} {cs : List T} {k : IntKind} (hT : tab t = some i) (hk : i.k = .arr w e) (hj : tab e = some j) (hg : j.k.agg = true) (hx : E.opd x = some (.agg cs)) (hi : E.opd ix = some (.v (.int k (m : Int)))) (hm : m < w) (hl : m * j.sz + j.sz≤cs.length)
  (kk : VX q P tab im ds l ((d,.agg ((cs.drop (m * j.sz)).take j.sz)) :: E) H K) : VX q P tab im ds (⟨some d,.index t x ix,ty,pos,after,none⟩ :: l) E H K:=by
 refine za (t:=.agg ((cs.drop (m * j.sz)).take j.sz)) ?_ kk
 simp only [opM,hx,hi,mIndex,hT,hk,hj]
 rw [if_pos ⟨by omega,by omega⟩]
 unfold partT
 rw [if_pos hg,Int.toNat_natCast,if_pos hl]
end
theorem vi (a : ByteArray) : strT a.data.toList = .v (.string a):=by
 obtain ⟨d⟩:=a
 simp
theorem ev_at (n : Nat) (h1 : 1≤n) (h2 : n≤25) : ∃ a b c : List UInt8,(evCs.drop (n * 3)).take 3 = [strT a,strT b,strT c]∧mEq tab 121 (.agg [strT a,strT b,strT c]) (.agg [strT [],strT [],strT []]) = some false∧lineB b = true∧(needsE n = 0∨(fmOf (Lib.fields b)).fx.length = needsE n):=by
 have h:=List.all_eq_true.1 ev_ok (n - 1) (List.mem_range.2 (by omega))
 rw [show n - 1 + 1 = n from by omega] at h
 generalize (evCs.drop (n * 3)).take 3 = e at *
 unfold evOne at h
 split at h
 ·rename_i a b c
  simp only [Bool.and_eq_true,Bool.or_eq_true,beq_iff_eq] at h
  refine ⟨a.data.toList,b.data.toList,c.data.toList,by rw [vi,vi,vi],by rw [vi,vi,vi];exact h.1.1,h.1.2,?_⟩
  rcases h.2 with k | k
  ·exact .inl k
  ·exact .inr k
 ·cases h
noncomputable def tabL (cs : List T) (d n : Nat) : Env:=(d + n,.agg cs) :: (List.range n).reverse.map fun k=>(d + k,.agg ((cs.drop ((k + 1) * 3)).take 3))
theorem event_p (n : Nat) (h1 : 1≤n) (h2 : n≤25) : CallP Tryz.prog 73 [I64 n] (.agg ((evCs.drop (n * 3)).take 3)):=by
 obtain ⟨a,b,c,he,-,-,-⟩:=ev_at n h1 h2
 have hl:=zki
 have hpt : partT ⟨3,48,[strT [],strT [],strT []],.st [(0,9),(1,9),(2,9)],true⟩ evCs (0 + n * 3) = some (.agg [strT a,strT b,strT c]):=by
  unfold partT
  rw [if_pos (show (Kd.st [(0,9),(1,9),(2,9)]).agg = true from rfl),if_pos (by show 0 + n * 3 + 3≤_;omega),Nat.zero_add]
  exact congrArg (fun l=>some (T.agg l)) he
 rw [he]
 refine CallP.intro2 z5 z5 ?_;refine CallT.intro zc Tryz.func73 rfl (by kernel_rfl) (Nat.le_of_ble_eq_true rfl) ?_;refine zf zc [] rfl ?_;refine yc rfl rfl ?_;refine zb ?_;refine zn ?_;refine zf zc [] rfl ?_;iterate 3 refine za rfl ?_
 refine' zu (d:=9) [_,_,_] rfl ?_ rfl ?_
 rotate_left
 ·refine zt rfl rfl (fun hb1_2=>?_) (fun hb1_2=>?_)
  ·have ghb1_2:=hb1_2
   try simp only [zh,Bool.not_true,Bool.not_false] at ghb1_2
   refine za rfl ?_;refine zg rfl rfl hb1_2 ?_;refine za rfl ?_;refine zr rfl (fun _=>rfl) ?_;exact zb ⟨rfl,rfl⟩
  ·refine zl rfl rfl hb1_2 ?_;exact zr rfl (fun h=>absurd (h.symm.trans hb1_2) (by decide)) (zb ⟨rfl,rfl⟩)
 refine zb ?_;refine zm rfl (fun hc0=>?_) (fun hc0=>?_)
 ·exact absurd hc0 (by simp;omega)
 ·(try simp only [zh] at hc0)
  refine zo ?_;refine zf zc [] rfl ?_;refine zbt 26 (tabL evCs 11 25) ?h ?k
  case h=>kernel_rfl
  skip
  skip
  skip
  skip
  skip
  skip
  skip
  skip
  skip
  skip
  skip
  skip
  skip
  skip
  skip
  skip
  skip
  skip
  skip
  skip
  skip
  skip
  skip
  skip
  skip
  refine yc rfl rfl ?_;refine zk rfl rfl rfl rfl yj (Nat.le_of_ble_eq_true yj) yj ?_;refine zb ?_;refine xr ([(2,.ptr 0 0),(3,.iptr evCs 0)]) ([.c [strT [],strT [],strT []]]) [0] rfl (by refine ⟨[some 0],rfl,yo,yn,?_,?_⟩ <;> (repeat' first | exact trivial | exact ym | exact yq | exact yp rfl | refine yb ?_ ?_ | refine z4 rfl ?_ ?_ | refine zx ?_ ?_ | refine yk rfl ?_ | fail) <;> first | exact xd | (first | exact CvL.pure rfl | exact Cv.fptr ⟨rfl,(show some 1∉[some 0] by simp)⟩ (CvL.eq yj zh5))) ?_
  refine zf zc [] rfl ?_;refine za rfl ?_;refine VX.idxAr rfl rfl rfl rfl rfl z8 ?_;refine zd rfl rfl hpt ?_;refine zk rfl rfl rfl rfl rfl yh rfl ?_;refine zb ?_;refine zq ?_;exact ⟨trivial,_,rfl,Cv.eq (by first | rfl | (simp [*];done)) rfl⟩
end

section
open Go.RowKit
set_option maxRecDepth 100000
set_option maxHeartbeats 2000000
section
variable {q : Bool} {P : Program} {tab : Tab} {im : List Nat} {ds : List (Option Nat)} {l : List Oper} {E : Env} {H : Hp} {K : Env→Hp→Prop} {d : Nat} {ty : TypeId} {pos : String} {after : Array Edge}
theorem ze6 [Dr] {x y : Operand} {t t2 : Nat} (xs ys : List T) {r : Bool} (hx : E.opd x = some (.agg xs)) (hy : E.opd y = some (.agg ys)) (h : mEq tab t (.agg xs) (.agg ys) = some r) (k : VX q P tab im ds l ((d,BL r) :: E) H K) : VX q P tab im ds (⟨some d,.binOp .eql t x y t2,ty,pos,after,none⟩ :: l) E H K:=by
 refine za (t:=BL r) ?_ k
 simp only [opM,hx,hy,mBin,h]
end
theorem u1 (m : Fm) : T.pureL [cIf m.fx,BL m.b,I64 m.l] = true:=by simp only [T.pureL,T.pure,zp];rfl
abbrev fm0 : Fm:=⟨[],false,0⟩
theorem eventN (code : Int) (h : code < 1∨25 < code) : CallP Tryz.prog 42 [I64 code] (.tup [fmT fm0,BL false]):=by
 have hev : CallP Tryz.prog 73 [I64 code] (.agg [strT [],strT [],strT []]):=by
  refine CallP.intro2 z5 z5 ?_;refine CallT.intro zc Tryz.func73 rfl (by kernel_rfl) (Nat.le_of_ble_eq_true rfl) ?_;refine zf zc [] rfl ?_;refine yc rfl rfl ?_;refine zb ?_;refine zn ?_;refine zf zc [] rfl ?_;iterate 3 refine za rfl ?_
  refine' zu (d:=9) [_,_,_] rfl ?_ rfl ?_
  rotate_left
  ·refine zt rfl rfl (fun hb1_2=>?_) (fun hb1_2=>?_)
   ·have ghb1_2:=hb1_2
    try simp only [zh,Bool.not_true,Bool.not_false] at ghb1_2
    refine za rfl ?_;refine zg rfl rfl hb1_2 ?_;refine za rfl ?_;refine zr rfl (fun _=>rfl) ?_;exact zb ⟨rfl,rfl⟩
   ·refine zl rfl rfl hb1_2 ?_;exact zr rfl (fun h=>absurd (h.symm.trans hb1_2) (by decide)) (zb ⟨rfl,rfl⟩)
  refine zb ?_;refine zm rfl (fun hc0=>?_) (fun hc0=>?_)
  ·(try simp only [zh] at hc0)
   refine zf zc [] rfl ?_;refine za rfl ?_;refine zk rfl rfl rfl rfl rfl yh rfl ?_;refine zb ?_;refine zq ?_;exact ⟨trivial,_,rfl,Cv.eq (by first | rfl | (simp [*];done)) rfl⟩
  ·exact absurd hc0 (by simp;omega)
 refine CallP.intro2 z5 z5 ?_;refine CallT.intro zc Tryz.func42 rfl (by kernel_rfl) (Nat.le_of_ble_eq_true rfl) ?_;refine zf zc [] rfl ?_;refine yc rfl rfl ?_;refine za rfl ?_;refine zb ?_;refine zf zc [] rfl ?_;refine za rfl ?_;refine zi rfl rfl rfl (hev) ?_;refine yc rfl rfl ?_;refine zk rfl rfl rfl rfl rfl yh rfl ?_;refine zb ?_;refine zn ?_;refine zf zc [] rfl ?_;first | refine za rfl ?_ | refine zd rfl rfl zj ?_ | refine ze rfl rfl rfl zj ?_
 refine za rfl ?_;refine ze6 [strT [],strT [],strT []] [strT [],strT [],strT []] (r:=true) rfl rfl yj ?_;refine zb ?_;refine xi rfl ?_;refine zf zc [] rfl ?_;refine za rfl ?_;refine zk rfl rfl rfl rfl rfl yh rfl ?_;refine za rfl ?_;refine zb ?_;refine zq ?_;exact ⟨trivial,_,rfl,Cv.tup (CvL.cons (Cv.agg (CvL.cons (Cv.nil _ (.inl rfl)) (CvL.pure rfl))) (CvL.cons (Cv.pure rfl) CvL.nil))⟩
noncomputable def tabA (cs : List T) (a d n : Nat) : Env:=(d + n,.agg cs) :: (List.range n).reverse.map fun k=>(d + k,.agg ((cs.drop ((a + k) * 3)).take 3))
theorem early_p : CallP Tryz.prog 99 [] (.agg rqA):=by
 have hpu:=zd8
 refine CallP.intro2 z5 z5 ?_;refine CallT.intro zc Tryz.func99 rfl (by kernel_rfl) (Nat.le_of_ble_eq_true rfl) ?_;refine zf zc [] rfl ?_;refine yc rfl rfl ?_;refine zb ?_;refine zf zc [] rfl ?_;refine zbt 30 (tabA rqA 1 1 29) ?h ?k
 case h=>kernel_rfl
 skip
 skip
 skip
 skip
 skip
 skip
 skip
 skip
 skip
 skip
 skip
 skip
 skip
 skip
 skip
 skip
 skip
 skip
 skip
 skip
 skip
 skip
 skip
 skip
 skip
 skip
 skip
 skip
 skip
 refine zk rfl rfl rfl rfl yj (Nat.le_of_ble_eq_true yj) yj ?_;refine zb ?_;refine zq ?_;exact ⟨trivial,_,rfl,Cv.agg (CvL.eq (by kernel_rfl) zd8)⟩
theorem late_p : CallP Tryz.prog 100 [] (.agg rqB):=by
 have hpu:=zd7
 refine CallP.intro2 z5 z5 ?_;refine CallT.intro zc Tryz.func100 rfl (by kernel_rfl) (Nat.le_of_ble_eq_true rfl) ?_;refine zf zc [] rfl ?_;refine yc rfl rfl ?_;refine zb ?_;refine zf zc [] rfl ?_;refine zbt 30 (tabA rqB 30 1 29) ?h ?k
 case h=>kernel_rfl
 skip
 skip
 skip
 skip
 skip
 skip
 skip
 skip
 skip
 skip
 skip
 skip
 skip
 skip
 skip
 skip
 skip
 skip
 skip
 skip
 skip
 skip
 skip
 skip
 skip
 skip
 skip
 skip
 skip
 refine zk rfl rfl rfl rfl yj (Nat.le_of_ble_eq_true yj) yj ?_;refine zb ?_;refine zq ?_;exact ⟨trivial,_,rfl,Cv.agg (CvL.eq (by kernel_rfl) zd7)⟩
theorem rq_at (cs : List T) (a m : Nat) (hc : rqChk cs a m = true) (n : Nat) (h1 : a≤n) (h2 : n < a + m) : ∃ x b c : List UInt8,(cs.drop (n * 3)).take 3 = [strT x,strT b,strT c]∧((c = []∧needsR n = 0)∨(c≠[]∧lineB c = true∧(needsR n = 0∨(fmOf (Lib.fields c)).fx.length = needsR n))):=by
 have h:=List.all_eq_true.1 hc (n - a) (List.mem_range.2 (by omega))
 rw [show a + (n - a) = n from by omega] at h
 generalize (cs.drop (n * 3)).take 3 = e at *
 unfold rqOne at h
 split at h
 ·rename_i x b c
  simp only [Bool.and_eq_true,Bool.or_eq_true,beq_iff_eq,Bool.not_eq_true',beq_eq_false_iff_ne] at h
  refine ⟨x.data.toList,b.data.toList,c.data.toList,by rw [vi,vi,vi],?_⟩
  rcases h with k | k
  ·exact .inl k
  ·exact .inr ⟨k.2,k.1.1,k.1.2⟩
 ·cases h
theorem replyX (code : Int) (x b c : List UInt8) (h : CallP Tryz.prog 71 [I64 code] (.agg [strT x,strT b,strT c])) (hl : c≠[]→lineB c = true) :
  CallP Tryz.prog 41 [I64 code] (.tup [fmT (if c = [] then fm0 else fmOf (Lib.fields c)),BL (c != [])]):=by
 by_cases hc : c = []
 ·subst hc
  rw [if_pos rfl]
  refine CallP.intro2 z5 z5 ?_;refine CallT.intro zc Tryz.func41 rfl (by kernel_rfl) (Nat.le_of_ble_eq_true rfl) ?_;refine zf zc [] rfl ?_;refine yc rfl rfl ?_;refine za rfl ?_;refine zb ?_;refine zf zc [] rfl ?_;refine za rfl ?_;refine zi rfl rfl rfl (h) ?_;refine yc rfl rfl ?_;refine zk rfl rfl rfl rfl rfl yh rfl ?_;refine zb ?_;refine zn ?_;refine zf zc [] rfl ?_;refine za rfl ?_;first | refine za rfl ?_ | refine zd rfl rfl zj ?_ | refine ze rfl rfl rfl zj ?_
  refine wj rfl rfl ?_;refine zb ?_;refine xi rfl ?_;refine zf zc [] rfl ?_;refine za rfl ?_;refine zk rfl rfl rfl rfl rfl yh rfl ?_;refine za rfl ?_;refine zb ?_;refine zq ?_;exact ⟨trivial,_,rfl,Cv.tup (CvL.cons (Cv.agg (CvL.cons (Cv.nil _ (.inl rfl)) (CvL.pure rfl))) (CvL.cons (Cv.pure rfl) CvL.nil))⟩
 ·rw [if_neg hc]
  have hfo:=form_p c (hl hc)
  have hb : (c == []) = false:=beq_eq_false_iff_ne.2 hc
  have hb2 : (c != []) = true:=by rw [bne,hb];rfl
  rw [hb2]
  refine CallP.intro2 z5 z5 ?_;refine CallT.intro zc Tryz.func41 rfl (by kernel_rfl) (Nat.le_of_ble_eq_true rfl) ?_;refine zf zc [] rfl ?_;refine yc rfl rfl ?_;refine za rfl ?_;refine zb ?_;refine zf zc [] rfl ?_;refine za rfl ?_;refine zi rfl rfl rfl (h) ?_;refine yc rfl rfl ?_;refine zk rfl rfl rfl rfl rfl yh rfl ?_;refine zb ?_;refine zn ?_;refine zf zc [] rfl ?_;refine za rfl ?_;first | refine za rfl ?_ | refine zd rfl rfl zj ?_ | refine ze rfl rfl rfl zj ?_
  refine wj rfl rfl ?_;rw [hb]
  refine zb ?_;refine y8 rfl ?_;refine zo ?_;refine zf zc [] rfl ?_;refine za rfl ?_;first | refine za rfl ?_ | refine zd rfl rfl zj ?_ | refine ze rfl rfl rfl zj ?_
  refine zi rfl rfl rfl (hfo) ?_;refine zk rfl rfl rfl rfl rfl yh rfl ?_;refine za rfl ?_;refine zb ?_;refine zq ?_;exact ⟨trivial,_,rfl,Cv.tup (CvL.cons (Cv.agg (CvL.eq rfl (u1 _))) (CvL.cons (Cv.pure rfl) CvL.nil))⟩
end

section
open Go.RowKit
set_option maxRecDepth 100000
set_option maxHeartbeats 1000000
def nOk (n : List Int) : Prop:=∀ v∈n,-4294967296≤v∧v≤4294967296
theorem nOk.at {n : List Int} (h : nOk n) {i : Nat} (hi : i < n.length) : -4294967296≤n[i]!∧n[i]!≤4294967296:=h _ (List.mem_iff_getElem?.2 ⟨i,getE hi⟩)
theorem and255g {s : Int} (h : -9223372036854775808≤s∧s≤9223372036854775807) : bitV .and .i64 s 255 = s % 256:=by
 have e : (BitVec.ofInt 64 s &&& BitVec.ofInt 64 255).toNat = (s % 256).toNat:=by
  rw [BitVec.toNat_and]
  have e1 : (BitVec.ofInt 64 s).toNat = (s % 18446744073709551616).toNat:=by simp only [BitVec.toNat_ofInt];rfl
  have e2 : (BitVec.ofInt 64 255).toNat = 2 ^ 8 - 1:=by decide
  rw [e1,e2,Nat.and_two_pow_sub_one_eq_mod]
  omega
 show IntKind.i64.wrap ((BitVec.ofInt 64 s &&& BitVec.ofInt 64 255).toNat : Int) = _
 rw [e,wq (by omega)]
 omega
theorem zfj (x : Nat) : x &&& 2 ^ 8 = if x / 2 ^ 8 % 2 = 1 then 2 ^ 8 else 0:=by
 apply Nat.eq_of_testBit_eq
 intro j
 rw [Nat.testBit_and,Nat.testBit_two_pow]
 by_cases hj : 8 = j
 ·subst hj
  rw [decide_eq_true rfl,Bool.and_true,Nat.testBit_eq_decide_div_mod_eq]
  by_cases h : x / 2 ^ 8 % 2 = 1
  ·rw [if_pos h,decide_eq_true h];rfl
  ·rw [if_neg h,decide_eq_false h];rfl
 ·rw [decide_eq_false hj,Bool.and_false]
  split
  ·rw [Nat.testBit_two_pow,decide_eq_false hj]
  ·rw [Nat.zero_testBit]
theorem and256g {s : Int} (h : -9223372036854775808≤s∧s≤9223372036854775807) : bitV .and .i64 s 256 = (s / 256 % 2) * 256:=by
 have e : (BitVec.ofInt 64 s &&& BitVec.ofInt 64 256).toNat = ((s / 256 % 2) * 256).toNat:=by
  rw [BitVec.toNat_and]
  have e1 : (BitVec.ofInt 64 s).toNat = (s % 18446744073709551616).toNat:=by simp only [BitVec.toNat_ofInt];rfl
  have e2 : (BitVec.ofInt 64 256).toNat = 2 ^ 8:=by decide
  rw [e1,e2,zfj]
  split <;> omega
 show IntKind.i64.wrap ((BitVec.ofInt 64 s &&& BitVec.ofInt 64 256).toNat : Int) = _
 rw [e,wq (by omega)]
 omega
section
variable {q : Bool} {P : Program} {tab : Tab} {im : List Nat} {ds : List (Option Nat)} {l : List Oper} {E : Env} {H Hm F : Hp} {K : Env→Hp→Prop} {d : Nat} {ty : TypeId} {pos : String} {after : Array Edge}
theorem xu [Dr] {m t : Nat} {a : Operand} {i : TyI} {n : List Int} (hT : tab t = some i) (ha : E.opd a = some (.iptr (encL cI n) (m * cI.sz))) (hi : i.k.agg = false) (hz : i.sz = 1) (hm : m < n.length) (k : VX q P tab im ds l ((d,I64 n[m]!) :: E) H K) : VX q P tab im ds (⟨some d,.load t a,ty,pos,after,none⟩ :: l) E H K:=
 zd hT ha (z6 cI (m:=m) (a:=n[m]!) (getE hm) (by rw [hz];decide) (by unfold partT;rw [hi];rfl)) k
end
def Ed.pt (e : Ed) (n : List Int) : Nat:=placeN e.c.bf.text (e.top + max n[5]! 0 / 6) (e.left + max n[4]! 0 / 4)
theorem zg4 (e : Ed) (hw : e.W) (n : List Int) (hn : nOk n) (hl : 6≤n.length) : CallP Tryz.prog 87 [.iptr (edC e) 0,cIf n] (I64 (e.pt n : Nat)):=by
 have hp:=yg e
 have hpn:=zp cI n
 have h4:=hn.at (i:=4) (by omega)
 have h5:=hn.at (i:=5) (by omega)
 have h3:=hw.t
 have hpl:=ro e.c.bf (e.top + max n[5]! 0 / 6) (e.left + max n[4]! 0 / 4) hw.len (by omega) (by omega)
 refine CallP.intro2 z5 z5 ?_;refine CallT.intro zc Tryz.func87 rfl (by kernel_rfl) (Nat.le_of_ble_eq_true rfl) ?_;refine zf zc [] rfl ?_;refine za rfl ?_;refine zb ?_;refine yv zc [] [_,_,_,_,_,_,_,_,_,_] rfl yj yj ?_;refine za rfl ?_;refine z9 (m:=4) rfl rfl rfl rfl rfl rfl z8 ?_;refine zd rfl rfl (z6 cI (m:=4) (getE z8) (by decide) rfl) ?_;first | refine wy rfl rfl ?_ | refine za rfl ?_
 refine za rfl ?_;refine z9 (m:=5) rfl rfl rfl rfl rfl rfl z8 ?_;refine zd rfl rfl (z6 cI (m:=5) (getE z8) (by decide) rfl) ?_;first | refine wy rfl rfl ?_ | refine za rfl ?_
 iterate 2 refine za rfl ?_
 iterate 2 refine zb ?_
 refine yv zc [] [_,_,_,_,_,_,_,_,_,_,_,_,_,_,_,_,_,_,_,_] rfl yj yj ?_;iterate 3 refine za rfl ?_
 first | refine za rfl ?_ | refine zd rfl rfl zj ?_ | refine ze rfl rfl rfl zj ?_
 iterate 3 refine za rfl ?_
 first | refine za rfl ?_ | refine zd rfl rfl zj ?_ | refine ze rfl rfl rfl zj ?_
 refine za rfl ?_;refine yi rfl rfl z8 z8 z8 ?_;first | refine zy rfl rfl (by omega) ?_ | refine za rfl ?_
 iterate 3 refine za rfl ?_
 first | refine za rfl ?_ | refine zd rfl rfl zj ?_ | refine ze rfl rfl rfl zj ?_
 refine za rfl ?_;refine yi rfl rfl z8 z8 z8 ?_;first | refine zy rfl rfl (by omega) ?_ | refine za rfl ?_
 refine zi rfl rfl rfl (hpl) ?_;refine za rfl ?_;iterate 2 refine zb ?_
 refine zq ?_;exact ⟨trivial,_,rfl,Cv.eq rfl rfl⟩
theorem zb5 (e : Ed) (hw : e.W) (n : List Int) (hn : nOk n) (hl : 6≤n.length) : LookT Tryz.prog 87 [cIf n] (I64 (e.pt n : Nat)) (edC e):=
 LookT.of_p (zg4 e hw n hn hl) rfl rfl (yg e) (by simp only [T.pureL,T.pure,zp];rfl)
abbrev EvT (f : FuncId) (e : Ed) (n : List Int) (p : Ed × List Rq) : Prop:=CallT Tryz.prog f [.ptr 0 0,cIf n] [.c (edC e)] (fun t H'=>t = .slc 1 0 p.2.length 4 none∧H' = [.c (edC p.1),.c (encL cRq p.2)])
def Ed.anew (e e2 : Ed) (l : List Rq) : Ed × List Rq:=(e2.seen,e2.seen.redN e.look l e.rows)
theorem zbd (e : Ed) (code mods time : Int) : (e.keyR code mods time).length≤10:=by
 unfold Ed.keyR Ed.cmdR
 repeat' split
 all_goals simp
theorem zfh (e : Ed) (hw : e.W) (n : List Int) (hn : nOk n) (hl : 9≤n.length) : CallT Tryz.prog 84 ([] ++ [] ++ [.iptr [.ptr 0 0] 0,.iptr [cIf n] 0]) [.c (edC e)]
  (fun t H'=>t = .slc 1 0 (e.keyR n[2]! (n[3]! % 256) n[8]!).length 4 none∧H' = [.c (edC (e.wc (e.c.key n[2]! (n[3]! % 256)))),.c (encL cRq (e.keyR n[2]! (n[3]! % 256) n[8]!))]):=by
 have hpn:=zp cI n
 have h3:=hn.at (i:=3) (by omega)
 have hk:=key_t e hw.o n[2]! (n[3]! % 256) n[8]! (by omega)
 have hpl:=zp cRq (e.keyR n[2]! (n[3]! % 256) n[8]!)
 have ha:=and255g (s:=n[3]!) (by omega)
 show CallT Tryz.prog 84 [.iptr [.ptr 0 0] 0,.iptr [cIf n] 0] _ _
 refine CallT.intro zc Tryz.func84 rfl (by kernel_rfl) (Nat.le_of_ble_eq_true rfl) ?_;refine zf zc [] rfl ?_;refine za rfl ?_;refine zb ?_;refine yv zc [] [_,_,_,_,_,_,_,_,_,_,_] rfl yj yj ?_;first | refine za rfl ?_ | refine zd rfl rfl zj ?_ | refine ze rfl rfl rfl zj ?_
 first | refine za rfl ?_ | refine zd rfl rfl zj ?_ | refine ze rfl rfl rfl zj ?_
 refine z9 (m:=2) rfl rfl rfl rfl rfl rfl z8 ?_;refine zd rfl rfl (z6 cI (m:=2) (getE z8) (by decide) rfl) ?_;first | refine za rfl ?_ | refine zd rfl rfl zj ?_ | refine ze rfl rfl rfl zj ?_
 refine z9 (m:=3) rfl rfl rfl rfl rfl rfl z8 ?_;refine zd rfl rfl (z6 cI (m:=3) (getE z8) (by decide) rfl) ?_;refine za (t:=I64 (n[3]! % 256)) (by show some (T.v (.int .i64 (bitV .and .i64 n[3]! 255)),(none : Option (Nat × List T))) = _;rw [ha]) ?_;first | refine za rfl ?_ | refine zd rfl rfl zj ?_ | refine ze rfl rfl rfl zj ?_
 refine z9 (m:=8) rfl rfl rfl rfl rfl rfl z8 ?_;refine zd rfl rfl (z6 cI (m:=8) (getE z8) (by decide) rfl) ?_;refine zb ?_;refine y7 rfl rfl (CallT.frame (hk) [0] rfl xj xj ?_)
 rintro _ _ ⟨rfl,rfl⟩;refine frK xk xk ?_;refine za rfl ?_;refine zb ?_;refine zq ?_;exact ⟨trivial,_,rfl,rfl,rfl⟩
theorem zin (n : List Int) : CvL (vwIn [0]) [.iptr [.ptr 0 0] 0,.iptr [cIf n] 0] [.iptr [.ptr 0 0] 0,.iptr [cIf n] 0]:=
 CvL.cons (Cv.iptr (CvL.cons (Cv.ptr rfl) CvL.nil)) (CvL.cons (Cv.iptr (CvL.pure (by simp only [T.pureL,T.pure,zp];rfl))) CvL.nil)
theorem Ed.W.put_c {e : Ed} (hw : e.W) {c : Ec} (ok : c.Ok) : (e.wc c).W:=⟨hw.s,ok,hw.t⟩
theorem zg2 (e : Ed) (hw : e.W) (n : List Int) (hn : nOk n) (hl : 9≤n.length) : EvT 51 e n (e.anew (e.wc (e.c.key n[2]! (n[3]! % 256))) (e.keyR n[2]! (n[3]! % 256) n[8]!)):=by
 have hpn:=zp cI n
 have hr:=sm e (e.wc (e.c.key n[2]! (n[3]! % 256))) hw (hw.put_c (hw.o.key _ _)) rfl _ (zbd e _ _ _) _ _ (zfh e hw n hn hl) (zin n)
 show CallT _ _ _ _ _
 unfold Ed.anew
 refine CallT.intro zc Tryz.func51 rfl (by kernel_rfl) (Nat.le_of_ble_eq_true rfl) ?_;refine zf zc [2,3] rfl ?_;iterate 2 refine ya rfl rfl ?_
 refine za rfl ?_;refine zb ?_;refine zf zc [] rfl ?_;first | refine za rfl ?_ | refine zd rfl rfl zj ?_ | refine ze rfl rfl rfl zj ?_
 refine za rfl ?_;refine y7 rfl rfl (CallT.frame (hr) [0] rfl xj xj ?_)
 rintro _ _ ⟨rfl,rfl⟩;refine frK xk xk ?_;refine za rfl ?_;refine zb ?_;refine zq ?_;exact ⟨trivial,_,rfl,rfl,rfl⟩
theorem zft (e : Ed) (hw : e.W) (n : List Int) (hn : nOk n) (hl : 6≤n.length) : CallT Tryz.prog 86 ([] ++ [] ++ [.iptr [.ptr 0 0] 0,.iptr [cIf n] 0]) [.c (edC e)]
  (fun t H'=>t = .slc 1 0 ([] : List Rq).length 4 none∧H' = [.c (edC (e.wc { e.c with cur:=e.pt n,anc:=e.pt n })),.c (encL cRq [])]):=by
 have hpn:=zp cI n
 have hpo:=zb5 e hw n hn hl
 have hbo:=zcw e (e.pt n)
 refine CallT.out ?_;show CallT Tryz.prog 86 [.iptr [.ptr 0 0] 0,.iptr [cIf n] 0] _ _
 refine CallT.intro zc Tryz.func86 rfl (by kernel_rfl) (Nat.le_of_ble_eq_true rfl) ?_;refine zf zc [] rfl ?_;refine za rfl ?_;refine zb ?_;refine sc zc [] [_,_,_,_,_,_] ([.c (edC e)]) [false,false,false,false,false,false] rfl yj yj yj (by repeat' first | exact x5 | refine x8 ?_ | refine xe ?_) ?_;first | refine yx rfl ?_ | refine VD.loadI rfl rfl zj ?_
 refine yx rfl ?_;refine yx rfl ?_;first | refine yx rfl ?_ | refine VD.loadI rfl rfl zj ?_
 first | refine yx rfl ?_ | refine VD.loadI rfl rfl zj ?_
 refine uw rfl rfl (hpo) rfl ?_;refine qj ?_;refine y7 rfl rfl (CallT.frame (hbo) [0] rfl xj xj ?_)
 rintro _ _ ⟨rfl,rfl⟩;refine frK xk xk ?_;refine zb ?_;refine zf zc [] rfl ?_;refine za rfl ?_;refine zb ?_;refine zq ?_;exact ⟨trivial,_,rfl,out2n rfl (CvL.eq rfl (yg _))⟩
theorem zaz (e : Ed) (n : List Int) : e.pt n≤e.c.bf.text.length:=v9 _ _ _
theorem zik (e : Ed) (hw : e.W) (n : List Int) (hn : nOk n) (hl : 6≤n.length) : EvT 52 e n (e.anew (e.wc { e.c with cur:=e.pt n,anc:=e.pt n }) []):=by
 have hpn:=zp cI n
 have hr:=sm e (e.wc { e.c with cur:=e.pt n,anc:=e.pt n }) hw (hw.put_c ⟨hw.o.bf,⟨zaz e n,zaz e n⟩,hw.o.cop⟩) rfl [] (by simp) _ _ (zft e hw n hn hl) (zin n)
 show CallT _ _ _ _ _
 unfold Ed.anew
 refine CallT.intro zc Tryz.func52 rfl (by kernel_rfl) (Nat.le_of_ble_eq_true rfl) ?_;refine zf zc [2,3] rfl ?_;iterate 2 refine ya rfl rfl ?_
 refine za rfl ?_;refine zb ?_;refine zf zc [] rfl ?_;first | refine za rfl ?_ | refine zd rfl rfl zj ?_ | refine ze rfl rfl rfl zj ?_
 refine za rfl ?_;refine y7 rfl rfl (CallT.frame (hr) [0] rfl xj xj ?_)
 rintro _ _ ⟨rfl,rfl⟩;refine frK xk xk ?_;refine za rfl ?_;refine zb ?_;refine zq ?_;exact ⟨trivial,_,rfl,rfl,rfl⟩
theorem zjx (e : Ed) (hw : e.W) (n : List Int) (hn : nOk n) (hl : 6≤n.length) : CallT Tryz.prog 88 ([] ++ [] ++ [.iptr [.ptr 0 0] 0,.iptr [cIf n] 0]) [.c (edC e)]
  (fun t H'=>t = .slc 1 0 ([] : List Rq).length 4 none∧H' = [.c (edC (e.wc { e.c with cur:=e.pt n })),.c (encL cRq [])]):=by
 have hpn:=zp cI n
 have hpo:=zb5 e hw n hn hl
 refine CallT.out ?_;show CallT Tryz.prog 88 [.iptr [.ptr 0 0] 0,.iptr [cIf n] 0] _ _
 refine CallT.intro zc Tryz.func88 rfl (by kernel_rfl) (Nat.le_of_ble_eq_true rfl) ?_;refine zf zc [] rfl ?_;refine za rfl ?_;refine zb ?_;refine sc zc [] [_,_,_,_] ([.c (edC e)]) [false,false,false,false] rfl yj yj yj (by repeat' first | exact x5 | refine x8 ?_ | refine xe ?_) ?_;first | refine yx rfl ?_ | refine VD.loadI rfl rfl zj ?_
 first | refine yx rfl ?_ | refine VD.loadI rfl rfl zj ?_
 first | refine yx rfl ?_ | refine VD.loadI rfl rfl zj ?_
 refine uw rfl rfl (hpo) rfl ?_;refine qj ?_;iterate 3 refine za rfl ?_
 refine zk rfl rfl rfl rfl rfl yh rfl ?_;refine zb ?_;refine zf zc [] rfl ?_;refine za rfl ?_;refine zb ?_;refine zq ?_;exact ⟨trivial,_,rfl,out2n rfl (CvL.eq rfl (yg _))⟩
def Ed.movedN (e : Ed) (n : List Int) : Ed × List Rq:=if n[3]! / 256 % 2 = 0 then (e,[]) else e.anew (e.wc { e.c with cur:=e.pt n }) []
theorem moved_t (e : Ed) (hw : e.W) (n : List Int) (hn : nOk n) (hl : 6≤n.length) : EvT 53 e n (e.movedN n):=by
 have hp:=yg e
 have hpn:=zp cI n
 have h3:=hn.at (i:=3) (by omega)
 have ha:=and256g (s:=n[3]!) (by omega)
 have hr:=sm e (e.wc { e.c with cur:=e.pt n }) hw (hw.put_c ⟨hw.o.bf,⟨zaz e n,hw.o.cur.2⟩,hw.o.cop⟩) rfl [] (by simp) _ _ (zjx e hw n hn hl) (zin n)
 show CallT _ _ _ _ _
 by_cases h : n[3]! / 256 % 2 = 0
 case pos=>
  rw [show e.movedN n = (e,[]) from if_pos h]
  refine CallT.out ?_;refine CallT.intro zc Tryz.func53 rfl (by kernel_rfl) (Nat.le_of_ble_eq_true rfl) ?_;refine zf zc [2,3] rfl ?_;iterate 2 refine ya rfl rfl ?_
  refine za rfl ?_;refine zb ?_;refine zn ?_;refine zf zc [] rfl ?_;first | refine za rfl ?_ | refine zd rfl rfl zj ?_ | refine ze rfl rfl rfl zj ?_
  refine z9 (m:=3) rfl rfl rfl rfl rfl rfl z8 ?_;refine zd rfl rfl (z6 cI (m:=3) (getE z8) (by decide) rfl) ?_;refine za (t:=I64 0) (by show some (T.v (.int .i64 (bitV .and .i64 n[3]! 256)),(none : Option (Nat × List T))) = _;rw [ha,h];rfl) ?_;refine za rfl ?_;refine zb ?_;refine xi rfl ?_;refine zf zc [] rfl ?_;refine za rfl ?_;refine zb ?_;refine zq ?_;exact ⟨trivial,_,rfl,out2n rfl (CvL.eq rfl (yg _))⟩
 case neg=>
  rw [show e.movedN n = e.anew (e.wc { e.c with cur:=e.pt n }) [] from if_neg h]
  unfold Ed.anew
  have h1 : n[3]! / 256 % 2 * 256 = 256:=by omega
  refine CallT.intro zc Tryz.func53 rfl (by kernel_rfl) (Nat.le_of_ble_eq_true rfl) ?_;refine zf zc [2,3] rfl ?_;iterate 2 refine ya rfl rfl ?_
  refine za rfl ?_;refine zb ?_;refine zn ?_;refine zf zc [] rfl ?_;first | refine za rfl ?_ | refine zd rfl rfl zj ?_ | refine ze rfl rfl rfl zj ?_
  refine z9 (m:=3) rfl rfl rfl rfl rfl rfl z8 ?_;refine zd rfl rfl (z6 cI (m:=3) (getE z8) (by decide) rfl) ?_;refine za (t:=I64 256) (by show some (T.v (.int .i64 (bitV .and .i64 n[3]! 256)),(none : Option (Nat × List T))) = _;rw [ha,h1]) ?_;refine za rfl ?_;refine zb ?_;refine y8 rfl ?_;refine zo ?_;refine zf zc [] rfl ?_;first | refine za rfl ?_ | refine zd rfl rfl zj ?_ | refine ze rfl rfl rfl zj ?_
  refine za rfl ?_;refine y7 rfl rfl (CallT.frame (hr) [0] rfl xj xj ?_)
  rintro _ _ ⟨rfl,rfl⟩;refine frK xk xk ?_;refine za rfl ?_;refine zb ?_;refine zq ?_;exact ⟨trivial,_,rfl,rfl,rfl⟩
def Ed.clearN (e : Ed) (n : List Int) : Ed:=if n[1]! = 3 then e.wc { e.c with cop:=[] } else e
theorem zil (e : Ed) (hw : e.W) (n : List Int) (hl : 2≤n.length) : EvT 56 e n (e.clearN n,[]):=by
 have hp:=yg e
 have hpn:=zp cI n
 show CallT _ _ _ _ _
 refine CallT.out ?_;unfold Ed.clearN
 refine CallT.intro zc Tryz.func56 rfl (by kernel_rfl) (Nat.le_of_ble_eq_true rfl) ?_;refine zf zc [] rfl ?_;refine za rfl ?_;refine zb ?_;refine zn ?_;refine zf zc [] rfl ?_;refine za rfl ?_;refine z9 (m:=1) rfl rfl rfl rfl rfl rfl z8 ?_;refine zd rfl rfl (z6 cI (m:=1) (getE z8) (by decide) rfl) ?_;refine za rfl ?_;refine zb ?_;refine zm rfl (fun hc0=>?_) (fun hc0=>?_)
 ·(try simp only [zh] at hc0);rw [if_pos hc0]
  refine zw zc [] rfl ?_;iterate 3 refine za rfl ?_
  refine zk rfl rfl rfl rfl rfl yh rfl ?_;refine zb ?_;refine zf zc [] rfl ?_;refine za rfl ?_;refine zb ?_;refine zq ?_;exact ⟨trivial,_,rfl,out2n rfl (CvL.eq rfl (yg _))⟩
 ·(try simp only [zh] at hc0);rw [if_neg hc0]
  refine zo ?_;refine zf zc [] rfl ?_;refine za rfl ?_;refine zb ?_;refine zq ?_;exact ⟨trivial,_,rfl,out2n rfl (CvL.eq rfl (yg _))⟩
def Ed.notiN (e : Ed) (n : List Int) : Ed × List Rq:=if n[1]!≠3∨n[3]!≠9 then (e,[]) else ({ e with asked:=e.cnt + 1 },[⟨15,[e.win,9,4,0,4096,1],[],[]⟩])
theorem zfi (e : Ed) (hc : 0≤e.cnt∧e.cnt≤1000000000) (n : List Int) (hl : 4≤n.length) : EvT 55 e n (e.notiN n):=by
 have hp:=yg e
 have hpn:=zp cI n
 show CallT _ _ _ _ _
 refine CallT.out ?_;unfold Ed.notiN
 refine CallT.intro zc Tryz.func55 rfl (by kernel_rfl) (Nat.le_of_ble_eq_true rfl) ?_;refine zf zc [] rfl ?_;refine za rfl ?_;refine zb ?_;refine zn ?_;refine zf zc [] rfl ?_;refine za rfl ?_;refine z9 (m:=1) rfl rfl rfl rfl rfl rfl z8 ?_;refine zd rfl rfl (z6 cI (m:=1) (getE z8) (by decide) rfl) ?_;iterate 2 refine za rfl ?_
 refine' zu (d:=14) [_,_,_,_,_] rfl ?_ rfl ?_
 rotate_left
 ·refine zt rfl rfl (fun hb1_4=>?_) (fun hb1_4=>?_)
  ·have ghb1_4:=hb1_4
   try simp only [zh,Bool.not_true,Bool.not_false] at ghb1_4
   refine za rfl ?_;refine zg rfl rfl hb1_4 ?_;refine z9 (m:=3) rfl rfl rfl rfl rfl rfl z8 ?_;refine zg rfl rfl hb1_4 ?_;refine zd rfl rfl (z6 cI (m:=3) (getE z8) (by decide) rfl) ?_;refine zg rfl rfl hb1_4 ?_;refine za rfl ?_;refine zr rfl (fun _=>rfl) ?_;exact zb ⟨rfl,rfl⟩
  ·refine zl rfl rfl hb1_4 ?_;iterate 2 refine zl rfl rfl hb1_4 ?_
   exact zr rfl (fun h=>absurd (h.symm.trans hb1_4) (by decide)) (zb ⟨rfl,rfl⟩)
 refine zb ?_;refine zm rfl (fun hc0=>?_) (fun hc0=>?_)
 ·(try simp only [zh] at hc0);rw [if_pos hc0]
  refine zf zc [] rfl ?_;refine za rfl ?_;refine zb ?_;refine zq ?_;exact ⟨trivial,_,rfl,out2n rfl (CvL.eq rfl (yg _))⟩
 ·(try simp only [zh] at hc0);rw [if_neg (by omega)]
  refine zo ?_;refine zf zc [] rfl ?_;iterate 4 refine za rfl ?_
  first | refine za rfl ?_ | refine zd rfl rfl zj ?_ | refine ze rfl rfl rfl zj ?_
  first | refine zy rfl rfl (by omega) ?_ | refine za rfl ?_
  iterate 2 refine za rfl ?_
  refine zk rfl rfl rfl rfl rfl yh rfl ?_;refine zb ?_;refine xr ([(0,.ptr 0 0)]) ([.c (edC { e with asked:=e.cnt + 1 })]) [] rfl (by refine ⟨[some 0],rfl,yo,yn,?_,?_⟩ <;> (repeat' first | exact trivial | exact ym | exact yq | exact yp rfl | refine yb ?_ ?_ | refine z4 rfl ?_ ?_ | refine zx ?_ ?_ | refine yk rfl ?_ | fail) <;> first | exact xd | (exact CvL.eq rfl (yg _))) ?_
  refine zf zc [27] rfl ?_;iterate 3 refine za rfl ?_
  first | refine za rfl ?_ | refine zd rfl rfl zj ?_ | refine ze rfl rfl rfl zj ?_
  refine ya rfl rfl ?_;refine za rfl ?_;refine yc rfl rfl ?_;refine za rfl ?_;refine zb ?_;refine zq ?_;refine ⟨trivial,_,rfl,out2 (b:=0) (xs:=[_,_,_,_]) rfl rfl (CvL.eq rfl (yg _)) ?_⟩;exact xq
end

section
open Go.RowKit
set_option maxRecDepth 100000
set_option maxHeartbeats 1000000
section
variable {q : Bool} {P : Program} {tab : Tab} {im : List Nat} {ds : List (Option Nat)} {l : List Oper} {E : Env} {H : Hp} {K : Env→Hp→Prop} {d : Nat} {ty : TypeId} {pos : String} {after : Array Edge}
theorem s7 [Dr] {x y : Operand} {t t2 : Nat} {a b : List UInt8} (hx : E.opd x = some (strT a)) (hy : E.opd y = some (strT b)) (k : VX q P tab im ds l ((d,BL (a != b)) :: E) H K) : VX q P tab im ds (⟨some d,.binOp .neq t x y t2,ty,pos,after,none⟩ :: l) E H K:=by
 refine za (t:=BL (a != b)) ?_ k
 simp only [opM,hx,hy,mBin,binStr]
 rw [zaw]
 rfl
end
def meetsB (a y h : Int) : Bool:=decide (0 < h) && decide (y < a + 6) && decide (a < y + h)
theorem zjy (a y h : Int) (ha : 0≤a∧a≤100000) (hy : -4294967296≤y∧y≤4294967296) (hh : -4294967296≤h∧h≤4294967296) : CallP Tryz.prog 83 [I64 a,I64 y,I64 h] (BL (meetsB a y h)):=by
 refine CallP.intro2 z5 z5 ?_;refine CallT.intro zc Tryz.func83 rfl (by kernel_rfl) (Nat.le_of_ble_eq_true rfl) ?_;refine zf zc [] rfl ?_;refine za rfl ?_;refine zb ?_;refine zn ?_;refine zf zc [] rfl ?_;iterate 3 refine za rfl ?_
 refine' zu (d:=14) [_,_,_,_,_] rfl ?_ rfl ?_
 rotate_left
 ·refine zt rfl rfl (fun hb1_2=>?_) (fun hb1_2=>?_)
  ·have ghb1_2:=hb1_2
   try simp only [zh,Bool.not_true,Bool.not_false] at ghb1_2
   refine za rfl ?_;refine zg rfl rfl hb1_2 ?_;refine za rfl ?_;refine zg rfl rfl hb1_2 ?_;first | refine zy rfl rfl (by omega) ?_ | refine za rfl ?_
   refine zg rfl rfl hb1_2 ?_;refine za rfl ?_;refine zr rfl (fun _=>rfl) ?_;exact zb ⟨rfl,rfl⟩
  ·refine zl rfl rfl hb1_2 ?_;iterate 2 refine zl rfl rfl hb1_2 ?_
   exact zr rfl (fun h=>absurd (h.symm.trans hb1_2) (by decide)) (zb ⟨rfl,rfl⟩)
 refine zb ?_;refine zm rfl (fun hc0=>?_) (fun hc0=>?_)
 ·(try simp only [zh] at hc0);have e1 : meetsB a y h = false:=(by unfold meetsB;simp;omega)
  refine zf zc [] rfl ?_;refine za rfl ?_;refine zb ?_;refine zq ?_;exact ⟨trivial,_,rfl,Cv.eq (by rw [e1];rfl) rfl⟩
 ·(try simp only [zh] at hc0);skip
  refine zo ?_;refine zn ?_;refine zf zc [] rfl ?_;iterate 2 refine za rfl ?_
  refine zb ?_;refine zm rfl (fun hc1=>?_) (fun hc1=>?_)
  ·(try simp only [zh] at hc1);have e2 : meetsB a y h = decide (a < y + h):=(by unfold meetsB;rw [Bool.eq_iff_iff];simp;omega)
   refine zf zc [] rfl ?_;iterate 3 refine za rfl ?_
   first | refine zy rfl rfl (by omega) ?_ | refine za rfl ?_
   iterate 2 refine za rfl ?_
   refine zb ?_;refine zq ?_;exact ⟨trivial,_,rfl,Cv.eq (by rw [e2]) rfl⟩
  ·(try simp only [zh] at hc1);have e3 : meetsB a y h = decide (a - y < h):=(by unfold meetsB;rw [Bool.eq_iff_iff];simp;omega)
   refine zo ?_;refine zf zc [] rfl ?_;iterate 2 refine za rfl ?_
   first | refine yu rfl rfl (by omega) ?_ | refine za rfl ?_
   iterate 3 refine za rfl ?_
   refine zb ?_;refine zq ?_;exact ⟨trivial,_,rfl,Cv.eq (by rw [e3]) rfl⟩
def Ed.expL (e : Ed) (n : List Int) (k : Nat) : List Rq:=((List.range k).map fun (y : Nat)=>if meetsB (6 * (y : Int)) n[2]! n[4]! = true then e.drawnR y (e.look y) else []).flatten
theorem Ed.expL_t {e : Ed} {n : List Int} {k : Nat} (h : meetsB (6 * (k : Int)) n[2]! n[4]! = true) : e.expL n (k + 1) = e.expL n k ++ e.drawnR k (e.look k):=by
 unfold Ed.expL;rw [List.range_succ,List.map_append,List.flatten_append,List.map_singleton,if_pos h,List.flatten_singleton]
theorem Ed.expL_f {e : Ed} {n : List Int} {k : Nat} (h : meetsB (6 * (k : Int)) n[2]! n[4]! = false) : e.expL n (k + 1) = e.expL n k:=by
 unfold Ed.expL;rw [List.range_succ,List.map_append,List.flatten_append,List.map_singleton,if_neg (by rw [h];simp),List.flatten_singleton,List.append_nil]
theorem Ed.expL_len (e : Ed) (n : List Int) (k : Nat) : (e.expL n k).length≤5 * k:=by
 induction k with
 | zero=>simp [Ed.expL]
 | succ k ih=>
  cases h : meetsB (6 * (k : Int)) n[2]! n[4]! with
  | true=>rw [Ed.expL_t h,List.length_append];have:=e.drawnR_len k (e.look k);omega
  | false=>rw [Ed.expL_f h];omega
theorem zfr (e : Ed) (hw : e.W) (n : List Int) (hn : nOk n) (hl : 5≤n.length) : EvT 50 e n (e,e.expL n e.rows):=by
 have hp:=yg e
 have hpn:=zp cI n
 have h2:=hn.at (i:=2) (by omega)
 have h4:=hn.at (i:=4) (by omega)
 have hlk:=zdg e hw
 have hpk:=zp cLk (e.lk e.rows)
 have hR:=hw.rows
 have hel:=e.expL_len n
 show CallT _ _ _ _ _
 refine CallT.out ?_;refine CallT.intro zc Tryz.func50 rfl (by kernel_rfl) (Nat.le_of_ble_eq_true rfl) ?_;refine zf zc [] rfl ?_;refine za rfl ?_;refine zb ?_;refine zf zc [] rfl ?_;refine za rfl ?_;refine zb ?_;refine zn ?_;refine zf zc [] rfl ?_;refine za rfl ?_;refine vn rfl rfl (hlk) rfl ?_;iterate 2 refine za rfl ?_
 refine zb ?_;refine yf ?_;refine yy (σ:=Nat) (fun y=>e.rows - y) (fun y=>y≤e.rows) (fun y=>[(11,I64 (y : Nat)),(0,.ptr 0 0),(5,.slc 1 0 (e.expL n y).length 4 none)]) (fun y=>[.c (edC e),.c (encL cRq (e.expL n y))]) [1,9,10] rfl (0) ?_ ?_ ?_
 ·refine ⟨[some 0,none],rfl,yo,yn,?_,?_⟩ <;> (repeat' first | exact trivial | exact ym | exact yq | exact yp rfl | refine yb ?_ ?_ | refine z4 rfl ?_ ?_ | refine zx ?_ ?_ | refine yk rfl ?_ | fail) <;> first | exact xd | (first | exact CvL.pure hp | exact CvL.pure rfl | exact Cv.pure (by simp only [T.pure,hpk]) | exact Cv.pure (by simp only [T.pure,hpn]))
 ·(try dsimp only);omega
 rintro y hy;refine zf zc [] rfl ?_;refine za rfl ?_;refine zb ?_;refine zn ?_;refine zm rfl (fun hc0=>?_) (fun hc0=>?_)
 ·(try simp only [zh] at hc0);have hyl : y < e.rows:=(by omega);have hrg:=zdh e y hw;have hdr:=zic e y (e.look y) (by omega) hrg;have hdn:=e.drawnR_len y (e.look y);have hely:=hel y;have hme:=zjy (6 * (y : Int)) n[2]! n[4]! (by omega) h2 h4;have hT:=@Ed.expL_t e n y;have hF:=@Ed.expL_f e n y
  refine zo ?_;refine zn ?_;refine yf ?_;refine zf zc [] rfl ?_;refine za rfl ?_;refine z9 (m:=y) rfl rfl rfl rfl rfl rfl hyl ?_;refine zd rfl rfl (z6 cLk (m:=y) (a:=e.look y) (e.lk_at hyl) (by decide) rfl) ?_;refine yc rfl rfl ?_;refine za rfl ?_;refine zk rfl rfl rfl rfl rfl vd rfl ?_;refine zb ?_;refine yv zc [] [_,_,_,_,_,_,_,_,_] rfl yj yj ?_;refine za rfl ?_;first | refine vv rfl rfl (by omega) ?_ | refine za rfl ?_
  refine za rfl ?_;refine z9 (m:=2) rfl rfl rfl rfl rfl rfl z8 ?_;refine zd rfl rfl (z6 cI (m:=2) (getE z8) (by decide) rfl) ?_;refine za rfl ?_;refine z9 (m:=4) rfl rfl rfl rfl rfl rfl z8 ?_;refine zd rfl rfl (z6 cI (m:=4) (getE z8) (by decide) rfl) ?_;refine zi rfl rfl rfl (hme) ?_;iterate 2 refine zb ?_
  refine zm rfl (fun hc1=>?_) (fun hc1=>?_)
  ·have eT:=hT hc1
   refine zw zc [] rfl ?_;iterate 3 refine za rfl ?_
   first | refine za rfl ?_ | refine zd rfl rfl zj ?_ | refine ze rfl rfl rfl zj ?_
   refine vn rfl rfl (hdr) rfl ?_;refine' yw rfl rfl rfl rfl rfl rfl (tt cRq rfl rfl rfl rfl) rfl ?h1 ?h2 ?h3 ?h4 ?h5 ?_
   case h1=>rw [ye,vx];omega
   case h2=>exact Nat.le_trans (Nat.mul_le_mul_right _ (show _≤1000 by omega)) (by decide)
   case h3=>omega
   case h4=>rw [ye];rfl
   case h5=>exact wh _ _
   refine za rfl ?_;refine zb ?_;refine zw zc [] rfl ?_;first | refine zy rfl rfl (by omega) ?_ | refine za rfl ?_
   refine za rfl ?_;refine zb ?_;refine ⟨y + 1,by (try dsimp only);omega,?_,(by refine ⟨[some 0,some 3],rfl,yo,yn,?_,?_⟩ <;> (repeat' first | exact trivial | exact ym | exact yq | exact yp rfl | refine yb ?_ ?_ | refine z4 rfl ?_ ?_ | refine zx ?_ ?_ | refine yk rfl ?_ | fail) <;> first | exact xd | (first | exact CvL.pure hp | exact Cv.pure (by simp only [T.pure,hpk]) | exact Cv.pure (by simp only [T.pure,hpn]) | (rw [eT,List.length_append];exact Cv.slc rfl (.inr rfl)) | exact CvL.eq (by rw [eT,yr,List.drop_zero,List.take_of_length_le (by rw [ye,vx];exact Nat.le_refl _)]) (zp _ _)))⟩
   (try dsimp only);omega
  ·have eF:=hF hc1
   refine zo ?_;refine zw zc [] rfl ?_;first | refine zy rfl rfl (by omega) ?_ | refine za rfl ?_
   refine za rfl ?_;refine zb ?_;refine ⟨y + 1,by (try dsimp only);omega,?_,(by refine ⟨[some 0,some 1],rfl,yo,yn,?_,?_⟩ <;> (repeat' first | exact trivial | exact ym | exact yq | exact yp rfl | refine yb ?_ ?_ | refine z4 rfl ?_ ?_ | refine zx ?_ ?_ | refine yk rfl ?_ | fail) <;> first | exact xd | (first | exact CvL.pure hp | exact Cv.pure (by simp only [T.pure,hpk]) | exact Cv.pure (by simp only [T.pure,hpn]) | (rw [eF];exact Cv.slc rfl (.inl rfl)) | exact CvL.eq (by rw [eF]) (zp _ _)))⟩
   (try dsimp only);omega
 ·(try simp only [zh] at hc0);obtain rfl : y = e.rows:=(by omega)
  refine yz ?_;refine zf zc [] rfl ?_;iterate 2 refine za rfl ?_
  refine zb ?_;refine zq ?_;exact ⟨trivial,_,rfl,out2 (b:=0) rfl rfl (CvL.pure hp) (CvL.pure (zp _ _))⟩
def Ed.givR (e : Ed) (n : List Int) : List Rq:=
 if n[2]! = 3∧n[3]! = 4∧n[4]!≠0∧e.c.cop≠[] then [⟨13,[n[1]!,n[4]!,4,8,0],[],e.c.cop.map fun b=>(b.toNat : Int)⟩,⟨53,[n[1]!,0,0,24],[],[n[1]!,n[2]!,n[3]!,n[4]!,n[5]!]⟩]
 else [⟨53,[n[1]!,0,0,24],[],[n[1]!,n[2]!,n[3]!,0,n[5]!]⟩]
theorem given_t (e : Ed) (hw : e.W) (n : List Int) (hl : 6≤n.length) : EvT 54 e n (e,e.givR n):=by
 have hp:=yg e
 have hpn:=zp cI n
 have hcop:=hw.o.cop
 show CallT _ _ _ _ _
 refine CallT.out ?_;unfold Ed.givR
 refine CallT.intro zc Tryz.func54 rfl (by kernel_rfl) (Nat.le_of_ble_eq_true rfl) ?_;refine zf zc [] rfl ?_;refine za rfl ?_;refine zb ?_;refine yv zc [] [_,_,_,_,_,_,_,_] rfl yj yj ?_;refine za rfl ?_;refine z9 (m:=1) rfl rfl rfl rfl rfl rfl z8 ?_;refine zd rfl rfl (z6 cI (m:=1) (getE z8) (by decide) rfl) ?_;refine za rfl ?_;refine z9 (m:=4) rfl rfl rfl rfl rfl rfl z8 ?_;refine zd rfl rfl (z6 cI (m:=4) (getE z8) (by decide) rfl) ?_;iterate 2 refine za rfl ?_
 iterate 2 refine zb ?_
 refine zf zc [] rfl ?_;refine za rfl ?_;refine zb ?_;refine zn ?_;refine zf zc [] rfl ?_;refine za rfl ?_;refine z9 (m:=2) rfl rfl rfl rfl rfl rfl z8 ?_;refine zd rfl rfl (z6 cI (m:=2) (getE z8) (by decide) rfl) ?_;iterate 2 refine za rfl ?_
 refine' zu (d:=25) [_,_,_,_,_] rfl ?_ rfl ?_
 rotate_left
 ·refine zt rfl rfl (fun hb3_4=>?_) (fun hb3_4=>?_)
  ·have ghb3_4:=hb3_4
   try simp only [zh,Bool.not_true,Bool.not_false] at ghb3_4
   refine za rfl ?_;refine zg rfl rfl hb3_4 ?_;refine z9 (m:=3) rfl rfl rfl rfl rfl rfl z8 ?_;refine zg rfl rfl hb3_4 ?_;refine zd rfl rfl (z6 cI (m:=3) (getE z8) (by decide) rfl) ?_;refine zg rfl rfl hb3_4 ?_;refine za rfl ?_;refine z3 rfl (fun _=>rfl) ?_;exact zb ⟨rfl,rfl⟩
  ·refine zl rfl rfl hb3_4 ?_;iterate 2 refine zl rfl rfl hb3_4 ?_
   exact z3 rfl (fun h=>absurd (h.symm.trans hb3_4) (by decide)) (zb ⟨rfl,rfl⟩)
 refine za rfl ?_;refine' zu (d:=29) [_,_,_] rfl ?_ rfl ?_
 rotate_left
 ·refine zt rfl rfl (fun hb3_10=>?_) (fun hb3_10=>?_)
  ·have ghb3_10:=hb3_10
   try simp only [zh,Bool.not_true,Bool.not_false] at ghb3_10
   refine za rfl ?_;refine zg rfl rfl hb3_10 ?_;refine za rfl ?_;refine z3 rfl (fun _=>rfl) ?_;exact zb ⟨rfl,rfl⟩
  ·refine zl rfl rfl hb3_10 ?_;exact z3 rfl (fun h=>absurd (h.symm.trans hb3_10) (by decide)) (zb ⟨rfl,rfl⟩)
 refine za rfl ?_;refine' zu (d:=36) [_,_,_,_,_,_] rfl ?_ rfl ?_
 rotate_left
 ·refine zt rfl rfl (fun hb3_14=>?_) (fun hb3_14=>?_)
  ·have ghb3_14:=hb3_14
   try simp only [zh,Bool.not_true,Bool.not_false] at ghb3_14
   refine za rfl ?_;refine zg rfl rfl hb3_14 ?_;refine za rfl ?_;refine zg rfl rfl hb3_14 ?_;refine za rfl ?_;refine zg rfl rfl hb3_14 ?_;first | refine za rfl ?_ | refine zd rfl rfl zj ?_ | refine ze rfl rfl rfl zj ?_
   refine zg rfl rfl hb3_14 ?_;refine s7 (a:=e.c.cop) (b:=[]) rfl rfl ?_;refine z3 rfl (fun _=>rfl) ?_;exact zb ⟨rfl,rfl⟩
  ·refine zl rfl rfl hb3_14 ?_;iterate 3 refine zl rfl rfl hb3_14 ?_
   exact z3 rfl (fun h=>absurd (h.symm.trans hb3_14) (by decide)) (zb ⟨rfl,rfl⟩)
 refine zb ?_;refine zm rfl (fun hc0=>?_) (fun hc0=>?_)
 ·(try simp only [zh] at hc0);rw [if_pos ⟨hc0.1.1.1,hc0.1.1.2,hc0.1.2,hc0.2⟩]
  refine zf zc [] rfl ?_;refine za rfl ?_;refine zb ?_;refine zn ?_;refine zf zc [] rfl ?_;iterate 3 refine za rfl ?_
  first | refine za rfl ?_ | refine zd rfl rfl zj ?_ | refine ze rfl rfl rfl zj ?_
  refine za (t:=I64 (e.c.cop.length : Nat)) rfl ?_;refine za rfl ?_;refine zb ?_;refine yf ?_;refine yy (σ:=Nat) (fun i=>e.c.cop.length - i) (fun i=>i≤e.c.cop.length) (fun i=>[(42,I64 (i : Nat)),(0,.ptr 0 0),(8,.slc 1 0 i 1 none)]) (fun i=>[.c (edC e),.c (encL cI ((e.c.cop.take i).map fun b=>(b.toNat : Int)))]) [1,5,6,7,41] rfl (0) ?_ ?_ ?_
  ·refine ⟨[some 0,none],rfl,yo,yn,?_,?_⟩ <;> (repeat' first | exact trivial | exact ym | exact yq | exact yp rfl | refine yb ?_ ?_ | refine z4 rfl ?_ ?_ | refine zx ?_ ?_ | refine yk rfl ?_ | fail) <;> first | exact xd | (first | exact CvL.pure hp | exact CvL.pure rfl | exact Cv.pure (by simp only [T.pure,hpn]))
  ·(try dsimp only);omega
  rintro i hi;refine zf zc [] rfl ?_;refine za rfl ?_;refine zb ?_;refine zn ?_;refine zm rfl (fun hc1=>?_) (fun hc1=>?_)
  ·(try simp only [zh] at hc1);have hil : i < e.c.cop.length:=(by omega);have hat : e.c.cop[i]? = some (e.c.cop[i]?.getD 0):=(by rw [List.getElem?_eq_getElem hil];rfl);have hbt:=(e.c.cop[i]?.getD 0).toNat_lt;have hsn : (e.c.cop.take (i + 1)).map (fun b=>(b.toNat : Int)) = (e.c.cop.take i).map (fun b=>(b.toNat : Int)) ++ [((e.c.cop[i]?.getD 0).toNat : Int)]:=(by rw [List.take_add_one,List.map_append,hat];rfl);have hml : ((e.c.cop.take i).map (fun b=>(b.toNat : Int))).length = i:=(by rw [List.length_map,List.length_take];omega)
   refine zo ?_;refine zn ?_;refine yf ?_;refine zf zc [] rfl ?_;iterate 2 refine za rfl ?_
   refine zb ?_;refine zw zc [53] rfl ?_;iterate 4 refine za rfl ?_
   first | refine za rfl ?_ | refine zd rfl rfl zj ?_ | refine ze rfl rfl rfl zj ?_
   refine za rfl ?_;refine xw rfl rfl rfl rfl rfl hat ?_;refine za (t:=I64 (e.c.cop[i]?.getD 0).toNat) (by show some (T.v (.int .i64 (IntKind.i64.wrap ((e.c.cop[i]?.getD 0).toNat : Int))),(none : Option (Nat × List T))) = _;rw [wq z8]) ?_;refine ya rfl rfl ?_;refine' yw rfl rfl rfl rfl rfl rfl rfl rfl ?h1 ?h2 ?h3 ?h4 ?h5 ?_
   case h1=>rw [ye,t8,hml];(try dsimp only);omega
   case h2=>exact Nat.le_trans (Nat.mul_le_mul_right _ (show _≤10000 by omega)) (by decide)
   case h3=>omega
   case h4=>rfl
   case h5=>rfl
   refine za rfl ?_;refine zb ?_;refine zw zc [] rfl ?_;first | refine zy rfl rfl (by omega) ?_ | refine za rfl ?_
   refine za rfl ?_;refine zb ?_;refine ⟨i + 1,by (try dsimp only);omega,?_,(by refine ⟨[some 0,some 2],rfl,yo,yn,?_,?_⟩ <;> (repeat' first | exact trivial | exact ym | exact yq | exact yp rfl | refine yb ?_ ?_ | refine z4 rfl ?_ ?_ | refine zx ?_ ?_ | refine yk rfl ?_ | fail) <;> first | exact xd | (first | exact CvL.pure hp | exact Cv.pure (by simp only [T.pure,hpn]) | exact Cv.slc rfl (.inl rfl) | exact CvL.eq (by rw [hsn,yr,List.drop_zero,List.take_of_length_le (by rw [ye,t8,hml];exact Nat.le_refl _)];rfl) (zp _ _)))⟩
   (try dsimp only);omega
  ·(try simp only [zh] at hc1);obtain rfl : i = e.c.cop.length:=(by omega);rw [List.take_length]
   refine yz ?_;refine zw zc [59,62] rfl ?_;iterate 3 refine za rfl ?_
   refine ya rfl rfl ?_;iterate 2 refine za rfl ?_
   refine ya rfl rfl ?_;first | refine xb rfl rfl rfl rfl rfl rfl vd vd vd ?_ | refine yw rfl rfl rfl rfl rfl rfl rfl rfl vd vd vd vd vd ?_
   refine za rfl ?_;refine zb ?_;refine yv zc [66,78,80] [_,_,_,_,_,_,_,_,_,_,_,_,_,_,_,_,_] rfl yj yj ?_;iterate 2 refine za rfl ?_
   refine ya rfl rfl ?_;iterate 2 refine za rfl ?_
   refine z9 (m:=2) rfl rfl rfl rfl rfl rfl z8 ?_;refine zd rfl rfl (z6 cI (m:=2) (getE z8) (by decide) rfl) ?_;refine za rfl ?_;refine z9 (m:=3) rfl rfl rfl rfl rfl rfl z8 ?_;refine zd rfl rfl (z6 cI (m:=3) (getE z8) (by decide) rfl) ?_;iterate 2 refine za rfl ?_
   refine z9 (m:=5) rfl rfl rfl rfl rfl rfl z8 ?_;refine zd rfl rfl (z6 cI (m:=5) (getE z8) (by decide) rfl) ?_;refine ya rfl rfl ?_;refine za rfl ?_;refine ya rfl rfl ?_;refine zb ?_;first | refine xb rfl rfl rfl rfl rfl rfl vd vd vd ?_ | refine yw rfl rfl rfl rfl rfl rfl rfl rfl vd vd vd vd vd ?_
   refine za rfl ?_;refine zb ?_;refine zq ?_;refine ⟨trivial,_,rfl,out2 (b:=2) (xs:=[_,_,_,_,_,_,_,_]) rfl rfl (CvL.eq rfl (yg _)) ?_⟩;repeat' first | exact CvL.nil | refine CvL.cons ?_ ?_ | exact Cv.nil _ (.inl rfl) | exact Cv.fslcE (by simp) ⟨rfl,by simp⟩ (CvL.pure (zp _ _)) | refine Cv.islc ?_ (.inr rfl) | exact Cv.pure zbo
 ·(try simp only [zh] at hc0);rw [if_neg (fun h=>absurd h.2.2.2 (by have:=hc0 ⟨⟨h.1,h.2.1⟩,h.2.2.1⟩;simpa using this))]
  refine zw zc [] rfl ?_;refine za rfl ?_;refine zb ?_;refine yv zc [66,78,80] [_,_,_,_,_,_,_,_,_,_,_,_,_,_,_,_,_] rfl yj yj ?_;iterate 2 refine za rfl ?_
  refine ya rfl rfl ?_;iterate 2 refine za rfl ?_
  refine z9 (m:=2) rfl rfl rfl rfl rfl rfl z8 ?_;refine zd rfl rfl (z6 cI (m:=2) (getE z8) (by decide) rfl) ?_;refine za rfl ?_;refine z9 (m:=3) rfl rfl rfl rfl rfl rfl z8 ?_;refine zd rfl rfl (z6 cI (m:=3) (getE z8) (by decide) rfl) ?_;iterate 2 refine za rfl ?_
  refine z9 (m:=5) rfl rfl rfl rfl rfl rfl z8 ?_;refine zd rfl rfl (z6 cI (m:=5) (getE z8) (by decide) rfl) ?_;refine ya rfl rfl ?_;refine za rfl ?_;refine ya rfl rfl ?_;refine zb ?_;first | refine xb rfl rfl rfl rfl rfl rfl vd vd vd ?_ | refine yw rfl rfl rfl rfl rfl rfl rfl rfl vd vd vd vd vd ?_
  refine za rfl ?_;refine zb ?_;refine zq ?_;refine ⟨trivial,_,rfl,out2 (b:=0) (xs:=[_,_,_,_]) rfl rfl (CvL.eq rfl (yg _)) ?_⟩;exact xq
def gotP (v : Int) : Bool:=v == 10 || (decide (32≤v) && decide (v≤126))
def gotB (l : List Int) : List UInt8:=(l.filter gotP).map fun v=>UInt8.ofNat v.toNat
theorem zcf (l : List Int) (v : Int) : gotB (l ++ [v]) = gotB l ++ (if gotP v = true then [UInt8.ofNat v.toNat] else []):=by
 unfold gotB
 rw [List.filter_append,List.map_append]
 congr 1
 cases h : gotP v with
 | true=>rw [List.filter_cons_of_pos h];rfl
 | false=>rw [List.filter_cons_of_neg (by rw [h];simp)];rfl
theorem s0 (l : List Int) : (gotB l).length≤l.length:=by unfold gotB;rw [List.length_map];exact List.length_filter_le _ _
theorem zbf {v : Int} (h : gotP v = true) : (v = 10∨(32≤v∧v≤126)):=by unfold gotP at h;simpa using h
theorem zfp (l : List Int) : rightB (gotB l) = true:=by
 unfold rightB gotB
 rw [List.all_eq_true]
 intro b hb
 obtain ⟨v,hv,rfl⟩:=List.mem_map.1 hb
 have h:=zbf (List.mem_filter.1 hv).2
 unfold okB
 rw [UInt8.toNat_ofNat']
 simp
 omega
def Ed.pasteE (e : Ed) (row : List Int) : Ed:={ e with asked:=0,c:=if gotB row = [] then e.c else e.c.put (gotB row) }
theorem zjt (e : Ed) (hw : e.W) (row : List Int) (hl : row.length≤100000) : CallT Tryz.prog 27 [.ptr 0 0,cIf row] [.c (edC e)] (fun t H'=>t = .slc 1 0 ([] : List Rq).length 4 none∧H' = [.c (edC (e.pasteE row)),.c (encL cRq [])]):=by
 have hp:=yg e
 have hp0:=yg { e with asked:=0 }
 have hpr:=zp cI row
 have hgl:=s0 row
 have hgr:=zfp row
 have hpu:=fun (h : gotB row≠[])=>put_t { e with asked:=0 } hw.o (gotB row) h hgr (by omega)
 have hgk:=fun k=>s0 (row.take k)
 refine CallT.out ?_;unfold Ed.pasteE
 refine CallT.intro zc Tryz.func27 rfl (by kernel_rfl) (Nat.le_of_ble_eq_true rfl) ?_;refine zf zc [] rfl ?_;refine za rfl ?_;refine zb ?_;refine zf zc [] rfl ?_;iterate 3 refine za rfl ?_
 refine zk rfl rfl rfl rfl rfl vd rfl ?_;refine zb ?_;refine zf zc [] rfl ?_;refine za rfl ?_;refine zb ?_;refine zn ?_;refine zf zc [] rfl ?_;iterate 3 refine za rfl ?_
 refine zb ?_;refine yf ?_;refine yy (σ:=Nat) (fun k=>row.length - k) (fun k=>k≤row.length) (fun k=>[(13,I64 (k : Nat)),(0,.ptr 0 0),(5,.slc 1 0 (gotB (row.take k)).length 1 none)]) (fun k=>[.c (edC { e with asked:=0 }),.c (encL cY (gotB (row.take k)))]) [11,12] rfl (0) ?_ ?_ ?_
 ·refine ⟨[some 0,none],rfl,yo,yn,?_,?_⟩ <;> (repeat' first | exact trivial | exact ym | exact yq | exact yp rfl | refine yb ?_ ?_ | refine z4 rfl ?_ ?_ | refine zx ?_ ?_ | refine yk rfl ?_ | fail) <;> first | exact xd | (first | exact CvL.eq rfl hp0 | exact CvL.pure rfl | exact Cv.pure (by simp only [T.pure,hpr]))
 ·(try dsimp only);omega
 rintro k hk;refine zf zc [] rfl ?_;refine za rfl ?_;refine zb ?_;refine zn ?_;refine zm rfl (fun hc0=>?_) (fun hc0=>?_)
 ·(try simp only [zh] at hc0);have hkl : k < row.length:=(by omega);have hat : row.take (k + 1) = row.take k ++ [row[k]!]:=(by rw [List.take_add_one,getE hkl];rfl);have hsn:=zcf (row.take k) row[k]!;rw [← hat] at hsn;have hgkk:=hgk k;rw [List.length_take] at hgkk
  refine zo ?_;refine zn ?_;refine yf ?_;refine zf zc [] rfl ?_;refine z9 (m:=k) rfl rfl rfl rfl rfl rfl hkl ?_;refine zd rfl rfl (z6 cI (m:=k) (getE hkl) (by decide) rfl) ?_;refine za rfl ?_;refine zb ?_;refine zf zc [] rfl ?_;iterate 3 refine za rfl ?_
  refine' zu (d:=26) [_,_,_,_,_,_,_] rfl ?_ rfl ?_
  rotate_left
  ·refine zt rfl rfl (fun hb6_2=>?_) (fun hb6_2=>?_)
   ·have ghb6_2:=hb6_2
    try simp only [zh,Bool.not_true,Bool.not_false] at ghb6_2
    refine za rfl ?_;refine zg rfl rfl hb6_2 ?_;refine za rfl ?_;refine zg rfl rfl hb6_2 ?_;refine za rfl ?_;refine' zu (d:=25) [_,_,_] rfl ?_ rfl ?_
    rotate_left
    ·refine zt rfl rfl (fun hb6_5=>?_) (fun hb6_5=>?_)
     ·have ghb6_5:=hb6_5
      try simp only [zh,Bool.not_true,Bool.not_false] at ghb6_5
      refine za rfl ?_;refine zg rfl rfl hb6_5 ?_;refine za rfl ?_;refine zg rfl rfl hb6_2 ?_;refine z3 rfl (fun _=>rfl) ?_;exact zb ⟨rfl,rfl⟩
     ·refine zl rfl rfl hb6_5 ?_;refine zg rfl rfl hb6_2 ?_;exact z3 rfl (fun h=>absurd (h.symm.trans hb6_5) (by decide)) (zb ⟨rfl,rfl⟩)
    refine zr rfl (fun _=>rfl) ?_;exact zb ⟨rfl,rfl⟩
   ·refine zl rfl rfl hb6_2 ?_;refine zl rfl rfl hb6_2 ?_;iterate 2 refine re rfl rfl ?_
    refine zl rfl rfl hb6_2 ?_;exact zr rfl (fun h=>absurd (h.symm.trans hb6_2) (by decide)) (zb ⟨rfl,rfl⟩)
  refine zb ?_;refine zm rfl (fun hc1=>?_) (fun hc1=>?_)
  ·(try simp only [zh] at hc1);have hg : gotP row[k]! = true:=(by unfold gotP;simp only [zh];omega);have eT : gotB (row.take (k + 1)) = gotB (row.take k) ++ [UInt8.ofNat row[k]!.toNat]:=(by rw [hsn,if_pos hg]);have hv:=zbf hg;have hw8 : IntKind.u8.wrap row[k]! = ((UInt8.ofNat row[k]!.toNat).toNat : Int):=(by rw [UInt8.toNat_ofNat',wrapU (by omega)];omega)
   refine zw zc [30] rfl ?_;iterate 2 refine za rfl ?_
   refine za (t:=U8 ((UInt8.ofNat row[k]!.toNat).toNat : Nat)) (by show some (T.v (.int .u8 (IntKind.u8.wrap row[k]!)),(none : Option (Nat × List T))) = _;rw [hw8]) ?_;refine ya rfl rfl ?_;refine' yw rfl rfl rfl rfl rfl rfl rfl rfl ?h1 ?h2 ?h3 ?h4 ?h5 ?_
   case h1=>rw [ye,vw];(try dsimp only);omega
   case h2=>exact Nat.le_trans (Nat.mul_le_mul_right _ (show _≤200000 by omega)) (by decide)
   case h3=>omega
   case h4=>rfl
   case h5=>rfl
   refine za rfl ?_;refine zb ?_;refine zw zc [] rfl ?_;first | refine zy rfl rfl (by omega) ?_ | refine za rfl ?_
   refine za rfl ?_;refine zb ?_;refine ⟨k + 1,by (try dsimp only);omega,?_,(by refine ⟨[some 0,some 2],rfl,yo,yn,?_,?_⟩ <;> (repeat' first | exact trivial | exact ym | exact yq | exact yp rfl | refine yb ?_ ?_ | refine z4 rfl ?_ ?_ | refine zx ?_ ?_ | refine yk rfl ?_ | fail) <;> first | exact xd | (first | exact CvL.pure hp0 | exact Cv.pure (by simp only [T.pure,hpr]) | (rw [eT,List.length_append];exact Cv.slc rfl (.inl rfl)) | exact CvL.eq (by rw [eT,yr,List.drop_zero,List.take_of_length_le (by rw [ye,vw];exact Nat.le_refl _)];rfl) (zp _ _)))⟩
   (try dsimp only);omega
  ·(try simp only [zh] at hc1);have hg : gotP row[k]! = false:=(by unfold gotP;simp only [zh];refine ⟨?_,fun h1=>?_⟩ <;> omega);have eF : gotB (row.take (k + 1)) = gotB (row.take k):=(by rw [hsn,if_neg (by rw [hg];simp),List.append_nil])
   refine zo ?_;refine zw zc [] rfl ?_;first | refine zy rfl rfl (by omega) ?_ | refine za rfl ?_
   refine za rfl ?_;refine zb ?_;refine ⟨k + 1,by (try dsimp only);omega,?_,(by refine ⟨[some 0,some 1],rfl,yo,yn,?_,?_⟩ <;> (repeat' first | exact trivial | exact ym | exact yq | exact yp rfl | refine yb ?_ ?_ | refine z4 rfl ?_ ?_ | refine zx ?_ ?_ | refine yk rfl ?_ | fail) <;> first | exact xd | (first | exact CvL.pure hp0 | exact Cv.pure (by simp only [T.pure,hpr]) | (rw [eF];exact Cv.slc rfl (.inl rfl)) | exact CvL.eq (by rw [eF]) (zp _ _)))⟩
   (try dsimp only);omega
 ·(try simp only [zh] at hc0);obtain rfl : k = row.length:=(by omega);rw [List.take_length]
  refine yz ?_;refine zn ?_;refine zf zc [] rfl ?_;iterate 3 refine za rfl ?_
  refine zb ?_;refine zm rfl (fun hc2=>?_) (fun hc2=>?_)
  ·(try simp only [zh] at hc2);have hne : gotB row≠[]:=(by intro h;rw [h] at hc2;simp at hc2);rw [if_neg hne];have hpu2:=hpu hne
   refine zw zc [] rfl ?_;iterate 2 refine za rfl ?_
   refine vf (xs:=gotB row) rfl rfl rfl rfl rfl rfl rfl rfl (by rw [ye,vw];omega) (by rw [List.drop_zero,List.take_of_length_le (by rw [ye,vw];omega)]) ?_;refine y7 rfl rfl (CallT.frame (hpu2) [0] rfl xj xj ?_)
   rintro _ _ ⟨rfl,rfl⟩;refine frK xk xk ?_;refine zb ?_;refine zf zc [] rfl ?_;refine za rfl ?_;refine zb ?_;refine zq ?_;exact ⟨trivial,_,rfl,out2n rfl (CvL.eq rfl (yg _))⟩
  ·(try simp only [zh] at hc2);have hne : gotB row = []:=(by cases h : gotB row with | nil=>rfl | cons a l=>rw [h] at hc2;simp at hc2;omega);rw [if_pos hne]
   refine zo ?_;refine zf zc [] rfl ?_;refine za rfl ?_;refine zb ?_;refine zq ?_;exact ⟨trivial,_,rfl,out2n rfl (CvL.eq rfl (yg _))⟩
abbrev otC (o : Ot) : List T:=[I64 o.kind,I64 o.code,I64 o.seq,cIf o.n,strT o.b,cIf o.l]
abbrev otT (o : Ot) : T:=.agg (otC o)
theorem x4 (o : Ot) : T.pureL (otC o) = true:=by simp only [T.pureL,T.pure,zp];rfl
theorem step1_t (e : Ed) (hw : e.W) (o : Ot) (hl : o.l.length≤100000) : CallT Tryz.prog 26 ([] ++ [] ++ [.ptr 0 0,.iptr (otC o) 0]) [.c (edC e)] (fun t H'=>t = .slc 1 0 ([] : List Rq).length 4 none∧H' = [.c (edC (e.pasteE o.l)),.c (encL cRq [])]):=by
 have hot:=x4 o
 have hpa:=zjt e hw o.l hl
 show CallT Tryz.prog 26 [.ptr 0 0,.iptr (otC o) 0] _ _
 refine CallT.intro zc Tryz.func26 rfl (by kernel_rfl) (Nat.le_of_ble_eq_true rfl) ?_;refine zf zc [] rfl ?_;refine za rfl ?_;refine zb ?_;refine zf zc [] rfl ?_;refine za rfl ?_;first | refine za rfl ?_ | refine zd rfl rfl zj ?_ | refine ze rfl rfl rfl zj ?_
 refine y7 rfl rfl (CallT.frame (hpa) [0] rfl xj xj ?_)
 rintro _ _ ⟨rfl,rfl⟩;refine frK xk xk ?_;refine za rfl ?_;refine zb ?_;refine zq ?_;exact ⟨trivial,_,rfl,rfl,rfl⟩
end

section
open Go.RowKit
set_option maxRecDepth 100000
set_option maxHeartbeats 2000000
def evN (code : Int) : Option Nat:=if code < 1∨25 < code then none else ([9,9,9,9,9,8,8,2,2,6,6,1,7,2,3,2,2,8,9,6,4,3,6,5,2] : List Nat)[(code - 1).toNat]?
def reN (code : Int) : Option Nat:=if code = 9 then some 7 else if code = 10 then some 1 else if code = 11 then some 1 else if code = 12 then some 0 else if code = 15 then some 3 else if code = 16 then some 0 else if code = 25 then some 2 else if code = 35 then some 2 else if code = 38 then some 2 else if code = 39 then some 1 else if code = 43 then some 1 else if code = 48 then some 6 else if code = 51 then some 1 else none
def evOneX (n : Nat) (e : List T) : Bool:=
 match e with
 | [.v (.string a),.v (.string b),.v (.string c)]=>evN n == some (fmOf (Lib.fields b.data.toList)).fx.length
 | _=>false
def evChkX (cs : List T) : Bool:=(List.range 25).all fun k=>evOneX (k + 1) ((cs.drop ((k + 1) * 3)).take 3)
theorem ev_okX : evChkX evCs = true:=by kernel_rfl
def rqOneX (n : Nat) (e : List T) : Bool:=
 match e with
 | [.v (.string a),.v (.string b),.v (.string c)]=>reN n == (if c.data.toList == [] then none else some (fmOf (Lib.fields c.data.toList)).fx.length)
 | _=>false
def rqChkX (cs : List T) (a n : Nat) : Bool:=(List.range n).all fun k=>rqOneX (a + k) ((cs.drop ((a + k) * 3)).take 3)
theorem rqA_okX : rqChkX rqA 1 29 = true:=by kernel_rfl
theorem rqB_okX : rqChkX rqB 30 29 = true:=by kernel_rfl
abbrev FormT (f : FuncId) (code : Int) (r : Option Nat) : Prop:=∃ m : Fm,CallP Tryz.prog f [I64 code] (.tup [fmT m,BL r.isSome])∧∀ k,r = some k→m.fx.length = k
theorem eventE (code : Int) : FormT 42 code (evN code):=by
 by_cases h : code < 1∨25 < code
 ·rw [show evN code = none from if_pos h]
  exact ⟨fm0,eventN code h,fun k hk=>by cases hk⟩
 ·obtain ⟨n,rfl⟩:=Int.eq_ofNat_of_zero_le (show 0≤code by omega)
  obtain ⟨a,b,c,he,heq,hb,-⟩:=ev_at n (by omega) (by omega)
  have hk:=List.all_eq_true.1 ev_okX (n - 1) (List.mem_range.2 (by omega))
  rw [show n - 1 + 1 = n from by omega,he] at hk
  have hk2 : evN (n : Int) = some (fmOf (Lib.fields b)).fx.length:=by simpa [evOneX] using hk
  have hev:=event_p n (by omega) (by omega)
  rw [he] at hev
  have hfo:=form_p b hb
  rw [hk2]
  refine ⟨fmOf (Lib.fields b),?_,fun k hk=>by injection hk⟩
  have hpu:=zp cI (fmOf (Lib.fields b)).fx
  show CallP _ _ _ (.tup [fmT (fmOf (Lib.fields b)),BL true])
  refine CallP.intro2 z5 z5 ?_;refine CallT.intro zc Tryz.func42 rfl (by kernel_rfl) (Nat.le_of_ble_eq_true rfl) ?_;refine zf zc [] rfl ?_;refine yc rfl rfl ?_;refine za rfl ?_;refine zb ?_;refine zf zc [] rfl ?_;refine za rfl ?_;refine zi rfl rfl rfl (hev) ?_;refine yc rfl rfl ?_;refine zk rfl rfl rfl rfl rfl yh rfl ?_;refine zb ?_;refine zn ?_;refine zf zc [] rfl ?_;first | refine za rfl ?_ | refine zd rfl rfl zj ?_ | refine ze rfl rfl rfl zj ?_
  refine za rfl ?_;refine ze6 [strT a,strT b,strT c] [strT [],strT [],strT []] rfl rfl heq ?_;refine zb ?_;refine y8 rfl ?_;refine zo ?_;refine zf zc [] rfl ?_;refine za rfl ?_;first | refine za rfl ?_ | refine zd rfl rfl zj ?_ | refine ze rfl rfl rfl zj ?_
  refine zi rfl rfl rfl (hfo) ?_;refine zk rfl rfl rfl rfl rfl yh rfl ?_;refine za rfl ?_;refine zb ?_;refine zq ?_;exact ⟨trivial,_,rfl,Cv.tup (CvL.cons (Cv.agg (CvL.eq rfl (u1 _))) (CvL.cons (Cv.pure rfl) CvL.nil))⟩
theorem rq_atX (cs : List T) (a m : Nat) (hc : rqChkX cs a m = true) (n : Nat) (h1 : a≤n) (h2 : n < a + m) (x b c : List UInt8) (he : (cs.drop (n * 3)).take 3 = [strT x,strT b,strT c]) : reN n = if c = [] then none else some (fmOf (Lib.fields c)).fx.length:=by
 have hk:=List.all_eq_true.1 hc (n - a) (List.mem_range.2 (by omega))
 rw [show a + (n - a) = n from by omega,he] at hk
 simpa [rqOneX] using hk
theorem zfg (n : Nat) (h1 : 1≤n) (h2 : n≤58) : ∃ x b c : List UInt8,CallP Tryz.prog 71 [I64 n] (.agg [strT x,strT b,strT c])∧(c≠[]→lineB c = true)∧reN n = if c = [] then none else some (fmOf (Lib.fields c)).fx.length:=by
 by_cases hs : n≤29
 ·obtain ⟨x,b,c,he,hk⟩:=rq_at rqA 1 29 rqA_ok n h1 (by omega)
  refine ⟨x,b,c,?_,fun hc=>?_,rq_atX rqA 1 29 rqA_okX n h1 (by omega) x b c he⟩
  ·have hA:=early_p
   have hl:=rqA_len
   refine CallP.intro2 z5 z5 ?_;refine CallT.intro zc Tryz.func71 rfl (by kernel_rfl) (Nat.le_of_ble_eq_true rfl) ?_;refine zf zc [] rfl ?_;refine yc rfl rfl ?_;refine zb ?_;refine zn ?_;refine yf ?_;refine zf zc [] rfl ?_;iterate 3 refine za rfl ?_
   refine' zu (d:=9) [_,_,_] rfl ?_ rfl ?_
   rotate_left
   ·refine zt rfl rfl (fun hb1_2=>?_) (fun hb1_2=>?_)
    ·have ghb1_2:=hb1_2
     try simp only [zh,Bool.not_true,Bool.not_false] at ghb1_2
     refine za rfl ?_;refine zg rfl rfl hb1_2 ?_;refine za rfl ?_;refine zr rfl (fun _=>rfl) ?_;exact zb ⟨rfl,rfl⟩
    ·refine zl rfl rfl hb1_2 ?_;exact zr rfl (fun h=>absurd (h.symm.trans hb1_2) (by decide)) (zb ⟨rfl,rfl⟩)
   refine za rfl ?_;refine zb ?_;refine zm rfl (fun hc0=>?_) (fun hc0=>?_)
   ·exact absurd hc0 (by simp;omega)
   ·(try simp only [zh] at hc0)
    refine zf zc [] rfl ?_;iterate 3 refine za rfl ?_
    refine zb ?_;refine zm rfl (fun hc1=>?_) (fun hc1=>?_)
    ·(try simp only [zh] at hc1)
     refine zf zc [] rfl ?_;refine zi rfl rfl rfl (hA) ?_;refine za rfl ?_;refine ze5 rfl rfl rfl rfl rfl rfl z8 (by show n * 3 + 3≤_;omega) ?_;rw [show (rqA.drop (n * _)).take _ = [strT x,strT b,strT c] from he]
     refine zk rfl rfl rfl rfl rfl yh rfl ?_;refine zb ?_;refine zq ?_;exact ⟨trivial,_,rfl,Cv.eq (by first | rfl | (simp [*];done)) rfl⟩
    ·exact absurd hc1 (by simp;omega)
  ·rcases hk with ⟨k1,-⟩ | ⟨-,k2,-⟩
   ·exact absurd k1 hc
   ·exact k2
 ·obtain ⟨x,b,c,he,hk⟩:=rq_at rqB 30 29 rqB_ok n (by omega) (by omega)
  refine ⟨x,b,c,?_,fun hc=>?_,rq_atX rqB 30 29 rqB_okX n (by omega) (by omega) x b c he⟩
  ·have hB:=late_p
   have hl:=rqB_len
   refine CallP.intro2 z5 z5 ?_;refine CallT.intro zc Tryz.func71 rfl (by kernel_rfl) (Nat.le_of_ble_eq_true rfl) ?_;refine zf zc [] rfl ?_;refine yc rfl rfl ?_;refine zb ?_;refine zn ?_;refine yf ?_;refine zf zc [] rfl ?_;iterate 3 refine za rfl ?_
   refine' zu (d:=9) [_,_,_] rfl ?_ rfl ?_
   rotate_left
   ·refine zt rfl rfl (fun hb1_2=>?_) (fun hb1_2=>?_)
    ·have ghb1_2:=hb1_2
     try simp only [zh,Bool.not_true,Bool.not_false] at ghb1_2
     refine za rfl ?_;refine zg rfl rfl hb1_2 ?_;refine za rfl ?_;refine zr rfl (fun _=>rfl) ?_;exact zb ⟨rfl,rfl⟩
    ·refine zl rfl rfl hb1_2 ?_;exact zr rfl (fun h=>absurd (h.symm.trans hb1_2) (by decide)) (zb ⟨rfl,rfl⟩)
   refine za rfl ?_;refine zb ?_;refine zm rfl (fun hc0=>?_) (fun hc0=>?_)
   ·exact absurd hc0 (by simp;omega)
   ·(try simp only [zh] at hc0)
    refine zf zc [] rfl ?_;iterate 3 refine za rfl ?_
    refine zb ?_;refine zm rfl (fun hc1=>?_) (fun hc1=>?_)
    ·exact absurd hc1 (by simp;omega)
    ·(try simp only [zh] at hc1)
     refine zo ?_;refine zf zc [] rfl ?_;refine zi rfl rfl rfl (hB) ?_;refine za rfl ?_;refine ze5 rfl rfl rfl rfl rfl rfl z8 (by show n * 3 + 3≤_;omega) ?_;rw [show (rqB.drop (n * _)).take _ = [strT x,strT b,strT c] from he]
     refine zk rfl rfl rfl rfl rfl yh rfl ?_;refine zb ?_;refine zq ?_;exact ⟨trivial,_,rfl,Cv.eq (by first | rfl | (simp [*];done)) rfl⟩
  ·rcases hk with ⟨k1,-⟩ | ⟨-,k2,-⟩
   ·exact absurd k1 hc
   ·exact k2
theorem replyE (code : Int) : FormT 41 code (reN code):=by
 by_cases h : code < 1∨58 < code
 ·have hr : CallP Tryz.prog 71 [I64 code] (.agg [strT [],strT [],strT []]):=by
   refine CallP.intro2 z5 z5 ?_;refine CallT.intro zc Tryz.func71 rfl (by kernel_rfl) (Nat.le_of_ble_eq_true rfl) ?_;refine zf zc [] rfl ?_;refine yc rfl rfl ?_;refine zb ?_;refine zn ?_;refine yf ?_;refine zf zc [] rfl ?_;iterate 3 refine za rfl ?_
   refine' zu (d:=9) [_,_,_] rfl ?_ rfl ?_
   rotate_left
   ·refine zt rfl rfl (fun hb1_2=>?_) (fun hb1_2=>?_)
    ·have ghb1_2:=hb1_2
     try simp only [zh,Bool.not_true,Bool.not_false] at ghb1_2
     refine za rfl ?_;refine zg rfl rfl hb1_2 ?_;refine za rfl ?_;refine zr rfl (fun _=>rfl) ?_;exact zb ⟨rfl,rfl⟩
    ·refine zl rfl rfl hb1_2 ?_;exact zr rfl (fun h=>absurd (h.symm.trans hb1_2) (by decide)) (zb ⟨rfl,rfl⟩)
   refine za rfl ?_;refine zb ?_;refine zm rfl (fun hc0=>?_) (fun hc0=>?_)
   ·(try simp only [zh] at hc0)
    refine zf zc [] rfl ?_;refine za rfl ?_;refine zk rfl rfl rfl rfl rfl yh rfl ?_;refine zb ?_;refine zq ?_;exact ⟨trivial,_,rfl,Cv.eq (by first | rfl | (simp [*];done)) rfl⟩
   ·exact absurd hc0 (by simp;omega)
  rw [show reN code = none from by unfold reN;repeat rw [if_neg (by omega)]]
  exact ⟨fm0,replyX code [] [] [] hr (fun k=>absurd rfl k),fun k hk=>by cases hk⟩
 ·obtain ⟨n,rfl⟩:=Int.eq_ofNat_of_zero_le (show 0≤code by omega)
  obtain ⟨x,b,c,hr,hl,hk⟩:=zfg n (by omega) (by omega)
  rw [hk]
  by_cases hc : c = []
  ·have:=replyX n x b c hr hl
   rw [if_pos hc] at this ⊢
   subst hc
   exact ⟨fm0,this,fun k hk=>by cases hk⟩
  ·have:=replyX n x b c hr hl
   rw [if_neg hc] at this ⊢
   refine ⟨_,?_,fun k hk=>by injection hk⟩
   rw [show (c != []) = true from by simpa using hc] at this
   exact this
def fits (r : Option Nat) (n : Nat) : Bool:=match r with | some k=>decide (k≤n) | none=>false
def wholeB (o : Ot) : Bool:=if o.kind = 1 then fits (reN o.code) o.n.length else if o.kind = 2 then fits (evN o.code) o.n.length else false
theorem ri (o : Ot) : CallP Tryz.prog 24 [otT o] (BL (wholeB o)):=by
 have hot:=x4 o
 obtain ⟨m1,hre,hl1⟩:=replyE o.code
 obtain ⟨m2,hev,hl2⟩:=eventE o.code
 have hm1:=u1 m1
 have hm2:=u1 m2
 unfold wholeB
 refine CallP.intro2 z5 z5 ?_;refine CallT.intro zc Tryz.func24 rfl (by kernel_rfl) (Nat.le_of_ble_eq_true rfl) ?_;refine zf zc [1] rfl ?_;refine ya rfl rfl ?_;refine za rfl ?_;refine zb ?_;refine zn ?_;refine zf zc [] rfl ?_;refine za rfl ?_;first | refine za rfl ?_ | refine zd rfl rfl zj ?_ | refine ze rfl rfl rfl zj ?_
 refine zb ?_;refine yf ?_;refine zf zc [] rfl ?_;iterate 2 refine za rfl ?_
 refine zb ?_;refine zm rfl (fun hc0=>?_) (fun hc0=>?_)
 ·(try simp only [zh] at hc0);rw [if_pos hc0]
  refine zf zc [] rfl ?_;refine za rfl ?_;first | refine za rfl ?_ | refine zd rfl rfl zj ?_ | refine ze rfl rfl rfl zj ?_
  refine zi rfl rfl rfl (hre) ?_;iterate 3 refine za rfl ?_
  refine yc rfl rfl ?_;refine zk rfl rfl rfl rfl rfl yh rfl ?_;refine za rfl ?_;refine zb ?_;refine zf zc [] rfl ?_;iterate 2 refine za rfl ?_
  refine' zu (d:=26) [_,_,_,_,_,_,_,_] rfl ?_ rfl ?_
  rotate_left
  ·refine zt rfl rfl (fun hb4_1=>?_) (fun hb4_1=>?_)
   ·have ghb4_1:=hb4_1
    try simp only [zh,Bool.not_true,Bool.not_false] at ghb4_1
    refine za rfl ?_;refine zg rfl rfl hb4_1 ?_;first | refine za rfl ?_ | refine zd rfl rfl zj ?_ | refine ze rfl rfl rfl zj ?_
    refine zg rfl rfl hb4_1 ?_;refine za rfl ?_;refine zg rfl rfl hb4_1 ?_;refine za rfl ?_;refine zg rfl rfl hb4_1 ?_;first | refine za rfl ?_ | refine zd rfl rfl zj ?_ | refine ze rfl rfl rfl zj ?_
    refine zg rfl rfl hb4_1 ?_;refine za rfl ?_;refine zg rfl rfl hb4_1 ?_;refine za rfl ?_;refine z3 rfl (fun _=>rfl) ?_;exact zb ⟨rfl,rfl⟩
   ·refine zl rfl rfl hb4_1 ?_;iterate 5 refine zl rfl rfl hb4_1 ?_
    exact z3 rfl (fun h=>absurd (h.symm.trans hb4_1) (by decide)) (zb ⟨rfl,rfl⟩)
  refine za rfl ?_;refine zb ?_;refine zq ?_;exact ⟨trivial,_,rfl,Cv.eq (by cases hr : reN o.code with | none=>rfl | some k=>rw [← hl1 k hr];show T.v (.bool (true && decide ((m1.fx.length : Int)≤(o.n.length : Int)))) = BL (decide (m1.fx.length≤o.n.length));rw [Bool.true_and];congr 3;exact propext Int.ofNat_le) rfl⟩
 ·(try simp only [zh] at hc0);rw [if_neg hc0]
  refine zf zc [] rfl ?_;iterate 2 refine za rfl ?_
  refine zb ?_;refine zm rfl (fun hc1=>?_) (fun hc1=>?_)
  ·(try simp only [zh] at hc1);rw [if_pos hc1]
   refine zf zc [] rfl ?_;refine za rfl ?_;first | refine za rfl ?_ | refine zd rfl rfl zj ?_ | refine ze rfl rfl rfl zj ?_
   refine zi rfl rfl rfl (hev) ?_;iterate 3 refine za rfl ?_
   refine yc rfl rfl ?_;refine zk rfl rfl rfl rfl rfl yh rfl ?_;refine za rfl ?_;refine zb ?_;refine zf zc [] rfl ?_;iterate 2 refine za rfl ?_
   refine' zu (d:=44) [_,_,_,_,_,_,_,_] rfl ?_ rfl ?_
   rotate_left
   ·refine zt rfl rfl (fun hb7_1=>?_) (fun hb7_1=>?_)
    ·have ghb7_1:=hb7_1
     try simp only [zh,Bool.not_true,Bool.not_false] at ghb7_1
     refine za rfl ?_;refine zg rfl rfl hb7_1 ?_;first | refine za rfl ?_ | refine zd rfl rfl zj ?_ | refine ze rfl rfl rfl zj ?_
     refine zg rfl rfl hb7_1 ?_;refine za rfl ?_;refine zg rfl rfl hb7_1 ?_;refine za rfl ?_;refine zg rfl rfl hb7_1 ?_;first | refine za rfl ?_ | refine zd rfl rfl zj ?_ | refine ze rfl rfl rfl zj ?_
     refine zg rfl rfl hb7_1 ?_;refine za rfl ?_;refine zg rfl rfl hb7_1 ?_;refine za rfl ?_;refine z3 rfl (fun _=>rfl) ?_;exact zb ⟨rfl,rfl⟩
    ·refine zl rfl rfl hb7_1 ?_;iterate 5 refine zl rfl rfl hb7_1 ?_
     exact z3 rfl (fun h=>absurd (h.symm.trans hb7_1) (by decide)) (zb ⟨rfl,rfl⟩)
   refine za rfl ?_;refine zb ?_;refine zq ?_;exact ⟨trivial,_,rfl,Cv.eq (by cases hr : evN o.code with | none=>rfl | some k=>rw [← hl2 k hr];show T.v (.bool (true && decide ((m2.fx.length : Int)≤(o.n.length : Int)))) = BL (decide (m2.fx.length≤o.n.length));rw [Bool.true_and];congr 3;exact propext Int.ofNat_le) rfl⟩
  ·(try simp only [zh] at hc1);rw [if_neg hc1]
   refine zo ?_;refine zf zc [] rfl ?_;refine za rfl ?_;refine zb ?_;refine zq ?_;exact ⟨trivial,_,rfl,Cv.eq rfl rfl⟩
end

section
open Go.RowKit
set_option maxRecDepth 100000
set_option maxHeartbeats 2000000
abbrev eeK : List Value:=[.int .i64 10,.int .i64 1,.int .i64 3,.int .i64 5,.int .i64 23,.int .i64 24,.int .i64 22]
abbrev eeT : List T:=[.clo 50 [] [],.clo 51 [] [],.clo 52 [] [],.clo 53 [] [],.clo 54 [] [],.clo 55 [] [],.clo 56 [] []]
theorem zem : CallP Tryz.prog 28 [] (.mp eeK eeT):=by
 refine CallP.intro2 z5 z5 ?_;refine CallT.intro zc Tryz.func28 rfl (by kernel_rfl) (Nat.le_of_ble_eq_true rfl) ?_;refine zf zc [] rfl ?_;refine za rfl ?_;refine zb ?_;refine zf zc [] rfl ?_;refine zar ?_;refine xv zc rfl rfl rfl rfl rfl rfl rfl rfl (by first | rfl | assumption | decide) (by first | assumption | (simp;done)) ?_;refine xv zc rfl rfl rfl rfl rfl rfl rfl rfl (by first | rfl | assumption | decide) (by first | assumption | (simp;done)) ?_;refine xv zc rfl rfl rfl rfl rfl rfl rfl rfl (by first | rfl | assumption | decide) (by first | assumption | (simp;done)) ?_;refine xv zc rfl rfl rfl rfl rfl rfl rfl rfl (by first | rfl | assumption | decide) (by first | assumption | (simp;done)) ?_;refine xv zc rfl rfl rfl rfl rfl rfl rfl rfl (by first | rfl | assumption | decide) (by first | assumption | (simp;done)) ?_;refine xv zc rfl rfl rfl rfl rfl rfl rfl rfl (by first | rfl | assumption | decide) (by first | assumption | (simp;done)) ?_;refine xv zc rfl rfl rfl rfl rfl rfl rfl rfl (by first | rfl | assumption | decide) (by first | assumption | (simp;done)) ?_;iterate 2 refine za rfl ?_
 refine zb ?_;refine zq ?_;exact ⟨trivial,_,rfl,Cv.fom ⟨rfl,by simp⟩ (CvL.pure rfl)⟩
abbrev lookE (code : Int) : Option T:=mLookup tab 81 (.mp eeK eeT) (I64 code) true
theorem zj4 (code : Int) (h : code≠10∧code≠1∧code≠3∧code≠5∧code≠23∧code≠24∧code≠22) : lookE code = some (.tup [.v .nilFunc,BL false]):=by
 obtain ⟨h1,h2,h3,h4,h5,h6,h7⟩:=h
 have e : mFind (.int .i64) (.int .i64 code) eeK eeT = none:=by
  simp only [mFind,likeK,if_true,Option.some.injEq,beq_iff_eq]
  rw [if_neg (by omega),if_neg (by omega),if_neg (by omega),if_neg (by omega),if_neg (by omega),if_neg (by omega),if_neg (by omega)]
 rw [show lookE code = mLook2 tab 81 eeK eeT (.int .i64 code) true from rfl]
 unfold mLook2
 simp only [tab_81,tab_3,tab_79,e]
 rfl
abbrev StepT (e : Ed) (o : Ot) (p : Ed × List Rq) : Prop:=CallP Tryz.prog 10 [edT e,otT o] (.tup [edT p.1,rqT p.2])
theorem zje (e : Ed) (o : Ot) (h : e.made = false∨wholeB o = false) : StepT e o (e,[]):=by
 have hp:=yg e
 have hot:=x4 o
 have hwh:=ri o
 refine CallP.intro2 z5 z5 ?_;refine CallT.intro zc Tryz.func10 rfl (by kernel_rfl) (Nat.le_of_ble_eq_true rfl) ?_;refine zf zc [3] rfl ?_;refine yc rfl rfl ?_;refine ya rfl rfl ?_;refine yc rfl rfl ?_;refine za rfl ?_;refine zb ?_;refine zn ?_;refine zf zc [] rfl ?_;refine za rfl ?_;first | refine za rfl ?_ | refine zd rfl rfl zj ?_ | refine ze rfl rfl rfl zj ?_
 iterate 2 refine za rfl ?_
 refine' zu (d:=16) [_,_,_,_] rfl ?_ rfl ?_
 rotate_left
 ·refine zt rfl rfl (fun hb1_3=>?_) (fun hb1_3=>?_)
  ·have ghb1_3:=hb1_3
   try simp only [zh,Bool.not_true,Bool.not_false] at ghb1_3
   first | refine za rfl ?_ | refine zd rfl rfl zj ?_ | refine ze rfl rfl rfl zj ?_
   refine zg rfl rfl hb1_3 ?_;refine zi rfl rfl rfl (hwh) ?_;refine zg rfl rfl hb1_3 ?_;refine za rfl ?_;refine zr rfl (fun _=>rfl) ?_;exact zb ⟨rfl,rfl⟩
  ·refine zl rfl rfl hb1_3 ?_;refine zl rfl rfl hb1_3 ?_;exact zr rfl (fun h=>absurd (h.symm.trans hb1_3) (by decide)) (zb ⟨rfl,rfl⟩)
 refine zb ?_;refine zm rfl (fun hc0=>?_) (fun hc0=>?_)
 ·(try simp only [zh] at hc0)
  refine zf zc [] rfl ?_;first | refine za rfl ?_ | refine zd rfl rfl zj ?_ | refine ze rfl rfl rfl zj ?_
  refine zk rfl rfl rfl rfl rfl yh rfl ?_;refine za rfl ?_;refine zb ?_;refine zq ?_;exact ⟨trivial,_,rfl,Cv.tup (CvL.cons (Cv.agg (CvL.pure hp)) (CvL.cons (Cv.nil _ (.inl rfl)) CvL.nil))⟩
 ·(try simp only [zh] at hc0);rw [hc0.1,hc0.2] at h;simp at h
theorem step_a0 (e : Ed) (o : Ot) (hm : e.made = true) (hw : wholeB o = true) (hk : o.kind = 1) (h : o.code≠15∨e.asked = 0∨o.seq≠e.asked) : StepT e o (e,[]):=by
 have hp:=yg e
 have hot:=x4 o
 have hwh:=ri o
 refine CallP.intro2 z5 z5 ?_;refine CallT.intro zc Tryz.func10 rfl (by kernel_rfl) (Nat.le_of_ble_eq_true rfl) ?_;refine zf zc [3] rfl ?_;refine yc rfl rfl ?_;refine ya rfl rfl ?_;refine yc rfl rfl ?_;refine za rfl ?_;refine zb ?_;refine zn ?_;refine zf zc [] rfl ?_;refine za rfl ?_;first | refine za rfl ?_ | refine zd rfl rfl zj ?_ | refine ze rfl rfl rfl zj ?_
 iterate 2 refine za rfl ?_
 refine' zu (d:=16) [_,_,_,_] rfl ?_ rfl ?_
 rotate_left
 ·refine zt rfl rfl (fun hb1_3=>?_) (fun hb1_3=>?_)
  ·have ghb1_3:=hb1_3
   try simp only [zh,Bool.not_true,Bool.not_false] at ghb1_3
   first | refine za rfl ?_ | refine zd rfl rfl zj ?_ | refine ze rfl rfl rfl zj ?_
   refine zg rfl rfl hb1_3 ?_;refine zi rfl rfl rfl (hwh) ?_;refine zg rfl rfl hb1_3 ?_;refine za rfl ?_;refine zr rfl (fun _=>rfl) ?_;exact zb ⟨rfl,rfl⟩
  ·refine zl rfl rfl hb1_3 ?_;refine zl rfl rfl hb1_3 ?_;exact zr rfl (fun h=>absurd (h.symm.trans hb1_3) (by decide)) (zb ⟨rfl,rfl⟩)
 refine zb ?_;refine zm rfl (fun hc0=>?_) (fun hc0=>?_)
 ·(try simp only [zh] at hc0);rcases hc0 with k | k;(rw [hm] at k;cases k);(rw [hw] at k;cases k)
 ·(try simp only [zh] at hc0)
  refine zo ?_;refine zf zc [] rfl ?_;refine za rfl ?_;refine zb ?_;refine zn ?_;refine zf zc [] rfl ?_;refine za rfl ?_;first | refine za rfl ?_ | refine zd rfl rfl zj ?_ | refine ze rfl rfl rfl zj ?_
  refine za rfl ?_;refine zb ?_;refine zm rfl (fun hc1=>?_) (fun hc1=>?_)
  ·(try simp only [zh] at hc1)
   refine zn ?_;refine zf zc [] rfl ?_;refine za rfl ?_;first | refine za rfl ?_ | refine zd rfl rfl zj ?_ | refine ze rfl rfl rfl zj ?_
   iterate 2 refine za rfl ?_
   refine' zu (d:=28) [_,_,_,_] rfl ?_ rfl ?_
   rotate_left
   ·refine zt rfl rfl (fun hb5_3=>?_) (fun hb5_3=>?_)
    ·have ghb5_3:=hb5_3
     try simp only [zh,Bool.not_true,Bool.not_false] at ghb5_3
     refine za rfl ?_;refine zg rfl rfl hb5_3 ?_;first | refine za rfl ?_ | refine zd rfl rfl zj ?_ | refine ze rfl rfl rfl zj ?_
     refine zg rfl rfl hb5_3 ?_;refine za rfl ?_;refine zr rfl (fun _=>rfl) ?_;exact zb ⟨rfl,rfl⟩
    ·refine zl rfl rfl hb5_3 ?_;refine zl rfl rfl hb5_3 ?_;exact zr rfl (fun h=>absurd (h.symm.trans hb5_3) (by decide)) (zb ⟨rfl,rfl⟩)
   refine za rfl ?_;refine' zu (d:=35) [_,_,_,_,_,_] rfl ?_ rfl ?_
   rotate_left
   ·refine zt rfl rfl (fun hb5_8=>?_) (fun hb5_8=>?_)
    ·have ghb5_8:=hb5_8
     try simp only [zh,Bool.not_true,Bool.not_false] at ghb5_8
     refine za rfl ?_;refine zg rfl rfl hb5_8 ?_;first | refine za rfl ?_ | refine zd rfl rfl zj ?_ | refine ze rfl rfl rfl zj ?_
     refine zg rfl rfl hb5_8 ?_;refine za rfl ?_;refine zg rfl rfl hb5_8 ?_;first | refine za rfl ?_ | refine zd rfl rfl zj ?_ | refine ze rfl rfl rfl zj ?_
     refine zg rfl rfl hb5_8 ?_;refine za rfl ?_;refine zr rfl (fun _=>rfl) ?_;exact zb ⟨rfl,rfl⟩
    ·refine zl rfl rfl hb5_8 ?_;iterate 3 refine zl rfl rfl hb5_8 ?_
     exact zr rfl (fun h=>absurd (h.symm.trans hb5_8) (by decide)) (zb ⟨rfl,rfl⟩)
   refine zb ?_;refine zm rfl (fun hc2=>?_) (fun hc2=>?_)
   ·(try simp only [zh] at hc2)
    refine zf zc [] rfl ?_;first | refine za rfl ?_ | refine zd rfl rfl zj ?_ | refine ze rfl rfl rfl zj ?_
    refine zk rfl rfl rfl rfl rfl yh rfl ?_;refine za rfl ?_;refine zb ?_;refine zq ?_;exact ⟨trivial,_,rfl,Cv.tup (CvL.cons (Cv.agg (CvL.pure hp)) (CvL.cons (Cv.nil _ (.inl rfl)) CvL.nil))⟩
   ·(try simp only [zh] at hc2);omega
  ·(try simp only [zh] at hc1);exact absurd hk hc1
theorem zdq {code : Int} {k : Nat} (h : evN code = some k) : 1≤k∧1≤code∧code≤25:=by
 unfold evN at h
 split at h
 ·cases h
 ·rename_i hc
  refine ⟨?_,by omega,by omega⟩
  have hm:=List.mem_of_getElem? h
  revert hm
  generalize k = j
  intro hm
  simp at hm
  omega
theorem u9 {o : Ot} (hw : wholeB o = true) (hk : o.kind≠1) : o.kind = 2∧∃ k,evN o.code = some k∧k≤o.n.length:=by
 unfold wholeB at hw
 rw [if_neg hk] at hw
 split at hw
 ·rename_i h2
  refine ⟨h2,?_⟩
  unfold fits at hw
  cases he : evN o.code with
  | none=>rw [he] at hw;cases hw
  | some k=>rw [he] at hw;exact ⟨k,rfl,by simpa using hw⟩
 ·cases hw
theorem step_w (e : Ed) (o : Ot) (hm : e.made = true) (hw : wholeB o = true) (hk : o.kind≠1) (h : o.n[0]!≠e.win) : StepT e o (e,[]):=by
 have hp:=yg e
 have hot:=x4 o
 have hwh:=ri o
 obtain ⟨hk2,k,he,hl⟩:=u9 hw hk
 have hpos:=zdq he
 refine CallP.intro2 z5 z5 ?_;refine CallT.intro zc Tryz.func10 rfl (by kernel_rfl) (Nat.le_of_ble_eq_true rfl) ?_;refine zf zc [3] rfl ?_;refine yc rfl rfl ?_;refine ya rfl rfl ?_;refine yc rfl rfl ?_;refine za rfl ?_;refine zb ?_;refine zn ?_;refine zf zc [] rfl ?_;refine za rfl ?_;first | refine za rfl ?_ | refine zd rfl rfl zj ?_ | refine ze rfl rfl rfl zj ?_
 iterate 2 refine za rfl ?_
 refine' zu (d:=16) [_,_,_,_] rfl ?_ rfl ?_
 rotate_left
 ·refine zt rfl rfl (fun hb1_3=>?_) (fun hb1_3=>?_)
  ·have ghb1_3:=hb1_3
   try simp only [zh,Bool.not_true,Bool.not_false] at ghb1_3
   first | refine za rfl ?_ | refine zd rfl rfl zj ?_ | refine ze rfl rfl rfl zj ?_
   refine zg rfl rfl hb1_3 ?_;refine zi rfl rfl rfl (hwh) ?_;refine zg rfl rfl hb1_3 ?_;refine za rfl ?_;refine zr rfl (fun _=>rfl) ?_;exact zb ⟨rfl,rfl⟩
  ·refine zl rfl rfl hb1_3 ?_;refine zl rfl rfl hb1_3 ?_;exact zr rfl (fun h=>absurd (h.symm.trans hb1_3) (by decide)) (zb ⟨rfl,rfl⟩)
 refine zb ?_;refine zm rfl (fun hc0=>?_) (fun hc0=>?_)
 ·(try simp only [zh] at hc0);rcases hc0 with k | k;(rw [hm] at k;cases k);(rw [hw] at k;cases k)
 ·(try simp only [zh] at hc0)
  refine zo ?_;refine zf zc [] rfl ?_;refine za rfl ?_;refine zb ?_;refine zn ?_;refine zf zc [] rfl ?_;refine za rfl ?_;first | refine za rfl ?_ | refine zd rfl rfl zj ?_ | refine ze rfl rfl rfl zj ?_
  refine za rfl ?_;refine zb ?_;refine zm rfl (fun hc1=>?_) (fun hc1=>?_)
  ·(try simp only [zh] at hc1);exact absurd hc1 hk
  ·(try simp only [zh] at hc1)
   refine zn ?_;refine yv zc [] [_,_,_,_,_,_,_] rfl yj yj ?_;refine za rfl ?_;first | refine za rfl ?_ | refine zd rfl rfl zj ?_ | refine ze rfl rfl rfl zj ?_
   refine z9 (m:=0) rfl rfl rfl rfl rfl rfl z8 ?_;refine zd rfl rfl (z6 cI (m:=0) (getE z8) (by decide) rfl) ?_;refine za rfl ?_;first | refine za rfl ?_ | refine zd rfl rfl zj ?_ | refine ze rfl rfl rfl zj ?_
   refine za rfl ?_;iterate 2 refine zb ?_
   refine zm rfl (fun hc3=>?_) (fun hc3=>?_)
   ·(try simp only [zh] at hc3)
    refine zf zc [] rfl ?_;first | refine za rfl ?_ | refine zd rfl rfl zj ?_ | refine ze rfl rfl rfl zj ?_
    refine zk rfl rfl rfl rfl rfl yh rfl ?_;refine za rfl ?_;refine zb ?_;refine zq ?_;exact ⟨trivial,_,rfl,Cv.tup (CvL.cons (Cv.agg (CvL.pure hp)) (CvL.cons (Cv.nil _ (.inl rfl)) CvL.nil))⟩
   ·(try simp only [zh] at hc3);exact absurd hc3 h
theorem step_n (e : Ed) (o : Ot) (hm : e.made = true) (hw : wholeB o = true) (hk : o.kind≠1) (h : o.n[0]! = e.win) (hlk : lookE o.code = some (.tup [.v .nilFunc,BL false])) : StepT e o (e,[]):=by
 have hp:=yg e
 have hot:=x4 o
 have hwh:=ri o
 obtain ⟨hk2,k,he,hl⟩:=u9 hw hk
 have hpos:=zdq he
 refine CallP.intro2 z5 z5 ?_;refine CallT.intro zc Tryz.func10 rfl (by kernel_rfl) (Nat.le_of_ble_eq_true rfl) ?_;refine zf zc [3] rfl ?_;refine yc rfl rfl ?_;refine ya rfl rfl ?_;refine yc rfl rfl ?_;refine za rfl ?_;refine zb ?_;refine zn ?_;refine zf zc [] rfl ?_;refine za rfl ?_;first | refine za rfl ?_ | refine zd rfl rfl zj ?_ | refine ze rfl rfl rfl zj ?_
 iterate 2 refine za rfl ?_
 refine' zu (d:=16) [_,_,_,_] rfl ?_ rfl ?_
 rotate_left
 ·refine zt rfl rfl (fun hb1_3=>?_) (fun hb1_3=>?_)
  ·have ghb1_3:=hb1_3
   try simp only [zh,Bool.not_true,Bool.not_false] at ghb1_3
   first | refine za rfl ?_ | refine zd rfl rfl zj ?_ | refine ze rfl rfl rfl zj ?_
   refine zg rfl rfl hb1_3 ?_;refine zi rfl rfl rfl (hwh) ?_;refine zg rfl rfl hb1_3 ?_;refine za rfl ?_;refine zr rfl (fun _=>rfl) ?_;exact zb ⟨rfl,rfl⟩
  ·refine zl rfl rfl hb1_3 ?_;refine zl rfl rfl hb1_3 ?_;exact zr rfl (fun h=>absurd (h.symm.trans hb1_3) (by decide)) (zb ⟨rfl,rfl⟩)
 refine zb ?_;refine zm rfl (fun hc0=>?_) (fun hc0=>?_)
 ·(try simp only [zh] at hc0);rcases hc0 with k | k;(rw [hm] at k;cases k);(rw [hw] at k;cases k)
 ·(try simp only [zh] at hc0)
  refine zo ?_;refine zf zc [] rfl ?_;refine za rfl ?_;refine zb ?_;refine zn ?_;refine zf zc [] rfl ?_;refine za rfl ?_;first | refine za rfl ?_ | refine zd rfl rfl zj ?_ | refine ze rfl rfl rfl zj ?_
  refine za rfl ?_;refine zb ?_;refine zm rfl (fun hc1=>?_) (fun hc1=>?_)
  ·(try simp only [zh] at hc1);exact absurd hc1 hk
  ·(try simp only [zh] at hc1)
   refine zn ?_;refine yv zc [] [_,_,_,_,_,_,_] rfl yj yj ?_;refine za rfl ?_;first | refine za rfl ?_ | refine zd rfl rfl zj ?_ | refine ze rfl rfl rfl zj ?_
   refine z9 (m:=0) rfl rfl rfl rfl rfl rfl z8 ?_;refine zd rfl rfl (z6 cI (m:=0) (getE z8) (by decide) rfl) ?_;refine za rfl ?_;first | refine za rfl ?_ | refine zd rfl rfl zj ?_ | refine ze rfl rfl rfl zj ?_
   refine za rfl ?_;iterate 2 refine zb ?_
   refine zm rfl (fun hc3=>?_) (fun hc3=>?_)
   ·(try simp only [zh] at hc3);exact absurd h hc3
   ·(try simp only [zh] at hc3)
    refine zo ?_;refine yv zc [] [_,_,_,_,_,_,_,_,_] rfl yj yj ?_;refine zi rfl rfl rfl (zem) ?_;refine za rfl ?_;first | refine za rfl ?_ | refine zd rfl rfl zj ?_ | refine ze rfl rfl rfl zj ?_
    refine za (t:=.tup [.v .nilFunc,BL false]) (by show (match lookE o.code with | some r=>some (r,(none : Option (Nat × List T))) | none=>none) = _;rw [hlk]) ?_;iterate 5 refine za rfl ?_
    iterate 2 refine zb ?_
    refine zn ?_;refine zf zc [] rfl ?_;iterate 2 refine za rfl ?_
    refine zb ?_;refine xi rfl ?_;refine zf zc [] rfl ?_;first | refine za rfl ?_ | refine zd rfl rfl zj ?_ | refine ze rfl rfl rfl zj ?_
    refine zk rfl rfl rfl rfl rfl yh rfl ?_;refine za rfl ?_;refine zb ?_;refine zq ?_;exact ⟨trivial,_,rfl,Cv.tup (CvL.cons (Cv.agg (CvL.pure hp)) (CvL.cons (Cv.nil _ (.inl rfl)) CvL.nil))⟩
def doneE (p : Ed × List Rq) : Ed × List Rq:=({ p.1 with cnt:=p.1.cnt + p.2.length },p.2)
theorem step_e (e : Ed) (o : Ot) (hm : e.made = true) (hw : wholeB o = true) (hk : o.kind≠1) (h : o.n[0]! = e.win) (f : FuncId) (hlk : lookE o.code = some (.tup [.clo f [] [],BL true])) (p : Ed × List Rq)
  (hact : EvT f e o.n p) (hc : 0≤p.1.cnt∧p.1.cnt≤1000000000) (hpl : p.2.length≤100000) : StepT e o (doneE p):=by
 have hp:=yg e
 have hp1:=yg p.1
 have hp2:=yg (doneE p).1
 have hot:=x4 o
 have hwh:=ri o
 obtain ⟨hk2,k,he,hl⟩:=u9 hw hk
 have hpos:=zdq he
 unfold doneE at *
 refine CallP.intro2 z5 z5 ?_;refine CallT.intro zc Tryz.func10 rfl (by kernel_rfl) (Nat.le_of_ble_eq_true rfl) ?_;refine zf zc [3] rfl ?_;refine yc rfl rfl ?_;refine ya rfl rfl ?_;refine yc rfl rfl ?_;refine za rfl ?_;refine zb ?_;refine zn ?_;refine zf zc [] rfl ?_;refine za rfl ?_;first | refine za rfl ?_ | refine zd rfl rfl zj ?_ | refine ze rfl rfl rfl zj ?_
 iterate 2 refine za rfl ?_
 refine' zu (d:=16) [_,_,_,_] rfl ?_ rfl ?_
 rotate_left
 ·refine zt rfl rfl (fun hb1_3=>?_) (fun hb1_3=>?_)
  ·have ghb1_3:=hb1_3
   try simp only [zh,Bool.not_true,Bool.not_false] at ghb1_3
   first | refine za rfl ?_ | refine zd rfl rfl zj ?_ | refine ze rfl rfl rfl zj ?_
   refine zg rfl rfl hb1_3 ?_;refine zi rfl rfl rfl (hwh) ?_;refine zg rfl rfl hb1_3 ?_;refine za rfl ?_;refine zr rfl (fun _=>rfl) ?_;exact zb ⟨rfl,rfl⟩
  ·refine zl rfl rfl hb1_3 ?_;refine zl rfl rfl hb1_3 ?_;exact zr rfl (fun h=>absurd (h.symm.trans hb1_3) (by decide)) (zb ⟨rfl,rfl⟩)
 refine zb ?_;refine zm rfl (fun hc0=>?_) (fun hc0=>?_)
 ·(try simp only [zh] at hc0);rcases hc0 with k | k;(rw [hm] at k;cases k);(rw [hw] at k;cases k)
 ·(try simp only [zh] at hc0)
  refine zo ?_;refine zf zc [] rfl ?_;refine za rfl ?_;refine zb ?_;refine zn ?_;refine zf zc [] rfl ?_;refine za rfl ?_;first | refine za rfl ?_ | refine zd rfl rfl zj ?_ | refine ze rfl rfl rfl zj ?_
  refine za rfl ?_;refine zb ?_;refine zm rfl (fun hc1=>?_) (fun hc1=>?_)
  ·(try simp only [zh] at hc1);exact absurd hc1 hk
  ·(try simp only [zh] at hc1)
   refine zn ?_;refine yv zc [] [_,_,_,_,_,_,_] rfl yj yj ?_;refine za rfl ?_;first | refine za rfl ?_ | refine zd rfl rfl zj ?_ | refine ze rfl rfl rfl zj ?_
   refine z9 (m:=0) rfl rfl rfl rfl rfl rfl z8 ?_;refine zd rfl rfl (z6 cI (m:=0) (getE z8) (by decide) rfl) ?_;refine za rfl ?_;first | refine za rfl ?_ | refine zd rfl rfl zj ?_ | refine ze rfl rfl rfl zj ?_
   refine za rfl ?_;iterate 2 refine zb ?_
   refine zm rfl (fun hc3=>?_) (fun hc3=>?_)
   ·(try simp only [zh] at hc3);exact absurd h hc3
   ·(try simp only [zh] at hc3)
    refine zo ?_;refine yv zc [] [_,_,_,_,_,_,_,_,_] rfl yj yj ?_;refine zi rfl rfl rfl (zem) ?_;refine za rfl ?_;first | refine za rfl ?_ | refine zd rfl rfl zj ?_ | refine ze rfl rfl rfl zj ?_
    refine za (t:=.tup [.clo f [] [],BL true]) (by show (match lookE o.code with | some r=>some (r,(none : Option (Nat × List T))) | none=>none) = _;rw [hlk]) ?_;iterate 5 refine za rfl ?_
    iterate 2 refine zb ?_
    refine zn ?_;refine zf zc [] rfl ?_;iterate 2 refine za rfl ?_
    refine zb ?_;refine y8 rfl ?_;refine zo ?_;refine zw zc [] rfl ?_;iterate 2 refine za rfl ?_
    first | refine za rfl ?_ | refine zd rfl rfl zj ?_ | refine ze rfl rfl rfl zj ?_
    refine y7 rfl rfl (CallT.frame hact [0] rfl xj xj ?_);rintro _ _ ⟨rfl,rfl⟩;refine frK xk (r8 (CvL.pure hp1) (r8 (CvL.pure (zp _ _)) rg)) ?_;refine za rfl ?_;refine zb ?_;refine zf zc [] rfl ?_;refine za rfl ?_;first | refine za rfl ?_ | refine zd rfl rfl zj ?_ | refine ze rfl rfl rfl zj ?_
    iterate 2 refine za rfl ?_
    first | refine zy rfl rfl (by omega) ?_ | refine za rfl ?_
    refine za rfl ?_;refine zk rfl rfl rfl rfl rfl yh rfl ?_;refine zb ?_;refine zf zc [] rfl ?_;first | refine za rfl ?_ | refine zd rfl rfl zj ?_ | refine ze rfl rfl rfl zj ?_
    refine za rfl ?_;refine zk rfl rfl rfl rfl rfl yh rfl ?_;refine za rfl ?_;refine zb ?_;refine zq ?_;exact ⟨trivial,_,rfl,Cv.tup (CvL.cons (Cv.agg (CvL.eq rfl hp2)) (CvL.cons (Cv.fslc0 ⟨rfl,by simp⟩ (CvL.pure (zp _ _))) CvL.nil))⟩
theorem step_a1 (e : Ed) (o : Ot) (hW : e.W) (hm : e.made = true) (hw : wholeB o = true) (hk : o.kind = 1) (h : o.code = 15∧e.asked≠0∧o.seq = e.asked) (hl : o.l.length≤100000) (hc : 0≤e.cnt∧e.cnt≤1000000000) : StepT e o (doneE (e.anew (e.pasteE o.l) [])):=by
 have hp:=yg e
 have hot:=x4 o
 have hwh:=ri o
 have hW2 : (e.pasteE o.l).W:=⟨hW.s,by unfold Ed.pasteE;dsimp only;split;exact hW.o;exact hW.o.put _,hW.t⟩
 have hr:=sm e (e.pasteE o.l) hW hW2 rfl [] (by simp) _ _ (step1_t e hW o hl) (CvL.cons (Cv.ptr rfl) (CvL.cons (Cv.iptr (CvL.pure hot)) CvL.nil))
 have hlen:=(e.pasteE o.l).seen.redN_len e.look [] e.rows
 have hR:=hW.rows
 have hcn : (e.pasteE o.l).seen.cnt = e.cnt:=rfl
 unfold Ed.anew
 generalize hG : (e.pasteE o.l).seen = e3 at *
 have hp1:=yg e3
 have hp2:=yg (doneE (e3,e3.redN e.look [] e.rows)).1
 unfold doneE at *
 refine CallP.intro2 z5 z5 ?_;refine CallT.intro zc Tryz.func10 rfl (by kernel_rfl) (Nat.le_of_ble_eq_true rfl) ?_;refine zf zc [3] rfl ?_;refine yc rfl rfl ?_;refine ya rfl rfl ?_;refine yc rfl rfl ?_;refine za rfl ?_;refine zb ?_;refine zn ?_;refine zf zc [] rfl ?_;refine za rfl ?_;first | refine za rfl ?_ | refine zd rfl rfl zj ?_ | refine ze rfl rfl rfl zj ?_
 iterate 2 refine za rfl ?_
 refine' zu (d:=16) [_,_,_,_] rfl ?_ rfl ?_
 rotate_left
 ·refine zt rfl rfl (fun hb1_3=>?_) (fun hb1_3=>?_)
  ·have ghb1_3:=hb1_3
   try simp only [zh,Bool.not_true,Bool.not_false] at ghb1_3
   first | refine za rfl ?_ | refine zd rfl rfl zj ?_ | refine ze rfl rfl rfl zj ?_
   refine zg rfl rfl hb1_3 ?_;refine zi rfl rfl rfl (hwh) ?_;refine zg rfl rfl hb1_3 ?_;refine za rfl ?_;refine zr rfl (fun _=>rfl) ?_;exact zb ⟨rfl,rfl⟩
  ·refine zl rfl rfl hb1_3 ?_;refine zl rfl rfl hb1_3 ?_;exact zr rfl (fun h=>absurd (h.symm.trans hb1_3) (by decide)) (zb ⟨rfl,rfl⟩)
 refine zb ?_;refine zm rfl (fun hc0=>?_) (fun hc0=>?_)
 ·(try simp only [zh] at hc0);rcases hc0 with k | k;(rw [hm] at k;cases k);(rw [hw] at k;cases k)
 ·(try simp only [zh] at hc0)
  refine zo ?_;refine zf zc [] rfl ?_;refine za rfl ?_;refine zb ?_;refine zn ?_;refine zf zc [] rfl ?_;refine za rfl ?_;first | refine za rfl ?_ | refine zd rfl rfl zj ?_ | refine ze rfl rfl rfl zj ?_
  refine za rfl ?_;refine zb ?_;refine zm rfl (fun hc1=>?_) (fun hc1=>?_)
  ·(try simp only [zh] at hc1)
   refine zn ?_;refine zf zc [] rfl ?_;refine za rfl ?_;first | refine za rfl ?_ | refine zd rfl rfl zj ?_ | refine ze rfl rfl rfl zj ?_
   iterate 2 refine za rfl ?_
   refine' zu (d:=28) [_,_,_,_] rfl ?_ rfl ?_
   rotate_left
   ·refine zt rfl rfl (fun hb5_3=>?_) (fun hb5_3=>?_)
    ·have ghb5_3:=hb5_3
     try simp only [zh,Bool.not_true,Bool.not_false] at ghb5_3
     refine za rfl ?_;refine zg rfl rfl hb5_3 ?_;first | refine za rfl ?_ | refine zd rfl rfl zj ?_ | refine ze rfl rfl rfl zj ?_
     refine zg rfl rfl hb5_3 ?_;refine za rfl ?_;refine zr rfl (fun _=>rfl) ?_;exact zb ⟨rfl,rfl⟩
    ·refine zl rfl rfl hb5_3 ?_;refine zl rfl rfl hb5_3 ?_;exact zr rfl (fun h=>absurd (h.symm.trans hb5_3) (by decide)) (zb ⟨rfl,rfl⟩)
   refine za rfl ?_;refine' zu (d:=35) [_,_,_,_,_,_] rfl ?_ rfl ?_
   rotate_left
   ·refine zt rfl rfl (fun hb5_8=>?_) (fun hb5_8=>?_)
    ·have ghb5_8:=hb5_8
     try simp only [zh,Bool.not_true,Bool.not_false] at ghb5_8
     refine za rfl ?_;refine zg rfl rfl hb5_8 ?_;first | refine za rfl ?_ | refine zd rfl rfl zj ?_ | refine ze rfl rfl rfl zj ?_
     refine zg rfl rfl hb5_8 ?_;refine za rfl ?_;refine zg rfl rfl hb5_8 ?_;first | refine za rfl ?_ | refine zd rfl rfl zj ?_ | refine ze rfl rfl rfl zj ?_
     refine zg rfl rfl hb5_8 ?_;refine za rfl ?_;refine zr rfl (fun _=>rfl) ?_;exact zb ⟨rfl,rfl⟩
    ·refine zl rfl rfl hb5_8 ?_;iterate 3 refine zl rfl rfl hb5_8 ?_
     exact zr rfl (fun h=>absurd (h.symm.trans hb5_8) (by decide)) (zb ⟨rfl,rfl⟩)
   refine zb ?_;refine zm rfl (fun hc2=>?_) (fun hc2=>?_)
   ·(try simp only [zh] at hc2);omega
   ·(try simp only [zh] at hc2)
    refine zo ?_;refine zw zc [] rfl ?_;refine za rfl ?_;refine y7 rfl rfl (CallT.frame (hr) [0] rfl xj xj ?_)
    rintro _ _ ⟨rfl,rfl⟩;refine frK xk xk ?_;refine za rfl ?_;refine zb ?_;refine zf zc [] rfl ?_;refine za rfl ?_;first | refine za rfl ?_ | refine zd rfl rfl zj ?_ | refine ze rfl rfl rfl zj ?_
    iterate 2 refine za rfl ?_
    refine zy (a:=e3.cnt) (b:=((e3.redN e.look [] e.rows).length : Nat)) rfl rfl (by simp only [List.length_nil] at hlen;omega) ?_;refine za rfl ?_;refine zk rfl rfl rfl rfl rfl yh rfl ?_;refine zb ?_;refine zf zc [] rfl ?_;first | refine za rfl ?_ | refine zd rfl rfl zj ?_ | refine ze rfl rfl rfl zj ?_
    refine za rfl ?_;refine zk rfl rfl rfl rfl rfl yh rfl ?_;refine za rfl ?_;refine zb ?_;refine zq ?_;exact ⟨trivial,_,rfl,Cv.tup (CvL.cons (Cv.agg (CvL.eq rfl hp2)) (CvL.cons (Cv.fslc0 ⟨rfl,by simp⟩ (CvL.pure (zp _ _))) CvL.nil))⟩
  ·(try simp only [zh] at hc1);exact absurd hk hc1
end

section
open Go.RowKit
set_option maxRecDepth 100000
set_option maxHeartbeats 2000000
def Ed.evs (e : Ed) (code : Int) (n : List Int) : Option (Ed × List Rq):=
 if code = 10 then some (e,e.expL n e.rows)
 else if code = 1 then some (e.anew (e.wc (e.c.key n[2]! (n[3]! % 256))) (e.keyR n[2]! (n[3]! % 256) n[8]!))
 else if code = 3 then some (e.anew (e.wc { e.c with cur:=e.pt n,anc:=e.pt n }) [])
 else if code = 5 then some (e.movedN n)
 else if code = 23 then some (e,e.givR n)
 else if code = 24 then some (e.notiN n)
 else if code = 22 then some (e.clearN n,[])
 else none
def Ed.step (e : Ed) (o : Ot) : Ed × List Rq:=
 if e.made = false∨wholeB o = false then (e,[])
 else if o.kind = 1 then (if o.code≠15∨e.asked = 0∨o.seq≠e.asked then (e,[]) else doneE (e.anew (e.pasteE o.l) []))
 else if o.n[0]!≠e.win then (e,[])
 else match e.evs o.code o.n with | none=>(e,[]) | some p=>doneE p
theorem qp (e e2 : Ed) (l : List Rq) (hw : e.W) : (e.anew e2 l).2.length≤l.length + 105:=by
 have:=e2.seen.redN_len e.look l e.rows
 have hr:=hw.rows
 unfold Ed.anew
 dsimp only
 omega
theorem evs_ok {e : Ed} {code : Int} {n : List Int} {p : Ed × List Rq} (hw : e.W) (h : e.evs code n = some p) : p.1.W∧p.1.cnt = e.cnt∧p.2.length≤200:=by
 have hr:=hw.rows
 unfold Ed.evs at h
 split at h
 ·injection h with h;subst h
  have:=e.expL_len n e.rows
  exact ⟨hw,rfl,by dsimp only;omega⟩
 split at h
 ·injection h with h;subst h
  have h1:=zbd e n[2]! (n[3]! % 256) n[8]!
  have h2:=qp e (e.wc (e.c.key n[2]! (n[3]! % 256))) (e.keyR n[2]! (n[3]! % 256) n[8]!) hw
  exact ⟨(hw.put_c (hw.o.key _ _)).seen,rfl,by omega⟩
 split at h
 ·injection h with h;subst h
  have h2:=qp e (e.wc { e.c with cur:=e.pt n,anc:=e.pt n }) [] hw
  simp only [List.length_nil] at h2
  exact ⟨(hw.put_c (c:={ e.c with cur:=e.pt n,anc:=e.pt n }) ⟨hw.o.bf,⟨zaz e n,zaz e n⟩,hw.o.cop⟩).seen,rfl,Nat.le_trans h2 (by omega)⟩
 split at h
 ·injection h with h;subst h
  unfold Ed.movedN
  split
  ·exact ⟨hw,rfl,by simp⟩
  ·have h2:=qp e (e.wc { e.c with cur:=e.pt n }) [] hw
   simp only [List.length_nil] at h2
   exact ⟨(hw.put_c (c:={ e.c with cur:=e.pt n }) ⟨hw.o.bf,⟨zaz e n,hw.o.cur.2⟩,hw.o.cop⟩).seen,rfl,Nat.le_trans h2 (by omega)⟩
 split at h
 ·injection h with h;subst h
  exact ⟨hw,rfl,by unfold Ed.givR;dsimp only;split <;> simp⟩
 split at h
 ·injection h with h;subst h
  unfold Ed.notiN
  split
  ·exact ⟨hw,rfl,by simp⟩
  ·exact ⟨⟨hw.s,hw.o,hw.t⟩,rfl,by simp⟩
 split at h
 ·injection h with h;subst h
  refine ⟨?_,?_,by simp⟩
  ·show (e.clearN n).W
   unfold Ed.clearN
   split
   ·exact hw.put_c ⟨hw.o.bf,hw.o.cur,by simp⟩
   ·exact hw
  ·show (e.clearN n).cnt = _
   unfold Ed.clearN
   split <;> rfl
 ·cases h
theorem zea {e : Ed} (hW : e.W) (row : List Int) : (e.pasteE row).W:=⟨hW.s,by unfold Ed.pasteE;dsimp only;split;exact hW.o;exact hW.o.put _,hW.t⟩
theorem rm {e : Ed} (hw : e.W) (o : Ot) (hc : 0≤e.cnt) : (e.step o).1.W∧0≤(e.step o).1.cnt∧(e.step o).1.cnt≤e.cnt + 200∧(e.step o).2.length≤200:=by
 have hsame : e.W∧0≤e.cnt∧e.cnt≤e.cnt + 200∧([] : List Rq).length≤200:=⟨hw,hc,by omega,by simp⟩
 unfold Ed.step
 split
 ·exact hsame
 split
 ·split
  ·exact hsame
  ·have h2:=qp e (e.pasteE o.l) [] hw
   have hW:=(zea hw o.l).seen
   simp only [List.length_nil] at h2
   refine ⟨⟨hW.s,hW.o,hW.t⟩,?_,?_,by show (e.anew (e.pasteE o.l) []).2.length≤200;omega⟩
   ·show 0≤e.cnt + _;omega
   ·show e.cnt + ((e.anew (e.pasteE o.l) []).2.length : Int)≤e.cnt + 200;omega
 split
 ·exact hsame
 cases h : e.evs o.code o.n with
 | none=>exact hsame
 | some p=>
  obtain ⟨h1,h2,h3⟩:=evs_ok hw h
  refine ⟨⟨h1.s,h1.o,h1.t⟩,?_,?_,h3⟩
  ·show 0≤p.1.cnt + _;omega
  ·show p.1.cnt + (p.2.length : Int)≤e.cnt + 200;omega
theorem zh4 {code : Int} {k : Nat} (h : evN code = some k) : (code = 10→k = 6)∧(code = 1→k = 9)∧(code = 3→k = 9)∧(code = 5→k = 9)∧(code = 23→k = 6)∧(code = 24→k = 5)∧(code = 22→k = 3):=by
 refine ⟨?_,?_,?_,?_,?_,?_,?_⟩ <;> intro hc <;> subst hc <;> injection h with h <;> omega
theorem zbx (e : Ed) (o : Ot) (hW : e.W) (hc : 0≤e.cnt∧e.cnt≤900000000) (hn : nOk o.n) (hl : o.l.length≤100000) : StepT e o (e.step o):=by
 unfold Ed.step
 by_cases h0 : e.made = false∨wholeB o = false
 ·rw [if_pos h0];exact zje e o h0
 rw [if_neg h0]
 have hm : e.made = true:=by cases h : e.made with | true=>rfl | false=>exact absurd (.inl h) h0
 have hwh : wholeB o = true:=by cases h : wholeB o with | true=>rfl | false=>exact absurd (.inr h) h0
 by_cases hk : o.kind = 1
 ·rw [if_pos hk]
  by_cases ha : o.code≠15∨e.asked = 0∨o.seq≠e.asked
  ·rw [if_pos ha];exact step_a0 e o hm hwh hk ha
  ·rw [if_neg ha]
   exact step_a1 e o hW hm hwh hk (by omega) hl (by omega)
 rw [if_neg hk]
 by_cases hwi : o.n[0]!≠e.win
 ·rw [if_pos hwi];exact step_w e o hm hwh hk hwi
 rw [if_neg hwi]
 have hwi2 : o.n[0]! = e.win:=by simpa using hwi
 obtain ⟨hk2,k,he,hlen⟩:=u9 hwh hk
 obtain ⟨a1,a2,a3,a4,a5,a6,a7⟩:=zh4 he
 have hev : ∀ f p,lookE o.code = some (.tup [.clo f [] [],BL true])→EvT f e o.n p→e.evs o.code o.n = some p→StepT e o (match e.evs o.code o.n with | none=>(e,[]) | some p=>doneE p):=fun f p h1 h2 h3=>by
  obtain ⟨g1,g2,g3⟩:=evs_ok hW h3
  rw [h3]
  exact step_e e o hm hwh hk hwi2 f h1 p h2 (by omega) (by omega)
 by_cases c1 : o.code = 10
 ·exact hev _ _ (by rw [c1];rfl) (zfr e hW o.n hn (by have:=a1 c1;omega)) (by unfold Ed.evs;rw [if_pos c1])
 by_cases c2 : o.code = 1
 ·exact hev _ _ (by rw [c2];rfl) (zg2 e hW o.n hn (by have:=a2 c2;omega)) (by unfold Ed.evs;rw [if_neg c1,if_pos c2])
 by_cases c3 : o.code = 3
 ·exact hev _ _ (by rw [c3];rfl) (zik e hW o.n hn (by have:=a3 c3;omega)) (by unfold Ed.evs;rw [if_neg c1,if_neg c2,if_pos c3])
 by_cases c4 : o.code = 5
 ·exact hev _ _ (by rw [c4];rfl) (moved_t e hW o.n hn (by have:=a4 c4;omega)) (by unfold Ed.evs;rw [if_neg c1,if_neg c2,if_neg c3,if_pos c4])
 by_cases c5 : o.code = 23
 ·exact hev _ _ (by rw [c5];rfl) (given_t e hW o.n (by have:=a5 c5;omega)) (by unfold Ed.evs;rw [if_neg c1,if_neg c2,if_neg c3,if_neg c4,if_pos c5])
 by_cases c6 : o.code = 24
 ·exact hev _ _ (by rw [c6];rfl) (zfi e (by omega) o.n (by have:=a6 c6;omega)) (by unfold Ed.evs;rw [if_neg c1,if_neg c2,if_neg c3,if_neg c4,if_neg c5,if_pos c6])
 by_cases c7 : o.code = 22
 ·exact hev _ _ (by rw [c7];rfl) (zil e hW o.n (by have:=a7 c7;omega)) (by unfold Ed.evs;rw [if_neg c1,if_neg c2,if_neg c3,if_neg c4,if_neg c5,if_neg c6,if_pos c7])
 rw [show e.evs o.code o.n = none from by unfold Ed.evs;rw [if_neg c1,if_neg c2,if_neg c3,if_neg c4,if_neg c5,if_neg c6,if_neg c7]]
 exact step_n e o hm hwh hk hwi2 (zj4 o.code ⟨c1,c2,c3,c4,c5,c6,c7⟩)
end

section
open Go.RowKit
set_option maxRecDepth 100000
set_option maxHeartbeats 2000000
/- a new editor -/
def newEd (b w h : Int) (s : List UInt8) : Ed:=⟨⟨0,0,⟨[],[],s⟩,[]⟩,true,b + 1,b + 2,b + 3,w,h,0,0,6,0⟩
def newR (b w h : Int) : List Rq:=
 [⟨23,[b + 3],[116,105,110,121],[]⟩,⟨19,[b + 2],[],[]⟩,⟨20,[b + 2,28,0,0,1,0,b + 3],[],[]⟩,⟨1,[b + 1,1,0,0,w,h,0,0,0],[],[]⟩,⟨7,[b + 1,32,0,0,0,0,0,277],[],[]⟩,⟨3,[b + 1],[],[]⟩]
theorem zhe {b w h : Int} {s : List UInt8} (h1 : 4≤w∧w≤128∧6≤h∧h≤128) (hs : s.length≤4096) : (newEd b w h s).W:=
 ⟨h1,⟨⟨hs,hs,by simp [newEd]⟩,⟨Nat.zero_le _,Nat.zero_le _⟩,Nat.zero_le _⟩,by simp [newEd]⟩
theorem ze1 (c : Nat) (h1 : 1≤c) (h2 : c≤8) : CallP Tryz.prog 22 [I64 c] (.tup [.v (.int .u32 (c * 1048576 : Nat)),BL true]):=by
 have hi : CallP Tryz.prog 39 [I64 c] (BL true):=by
  refine CallP.intro2 z5 z5 ?_;refine CallT.intro zc Tryz.func39 rfl (by kernel_rfl) (Nat.le_of_ble_eq_true rfl) ?_;refine zf zc [] rfl ?_;refine za rfl ?_;refine zb ?_;refine zf zc [] rfl ?_;iterate 3 refine za rfl ?_
  refine' zu (d:=8) [_,_,_] rfl ?_ rfl ?_
  rotate_left
  ·refine zt rfl rfl (fun hb1_2=>?_) (fun hb1_2=>?_)
   ·have ghb1_2:=hb1_2
    try simp only [zh,Bool.not_true,Bool.not_false] at ghb1_2
    refine za rfl ?_;refine zg rfl rfl hb1_2 ?_;refine za rfl ?_;refine z3 rfl (fun _=>rfl) ?_;exact zb ⟨rfl,rfl⟩
   ·refine zl rfl rfl hb1_2 ?_;exact z3 rfl (fun h=>absurd (h.symm.trans hb1_2) (by decide)) (zb ⟨rfl,rfl⟩)
  refine za rfl ?_;refine zb ?_;refine zq ?_;exact ⟨trivial,_,rfl,Cv.eq (by show T.v (.bool (decide (1≤(c : Int)) && decide ((c : Int)≤8))) = _;rw [decide_eq_true (by omega),decide_eq_true (by omega)];rfl) rfl⟩
 refine CallP.intro2 z5 z5 ?_;refine CallT.intro zc Tryz.func22 rfl (by kernel_rfl) (Nat.le_of_ble_eq_true rfl) ?_;refine zf zc [] rfl ?_;iterate 2 refine za rfl ?_
 refine zb ?_;refine zn ?_;refine zf zc [] rfl ?_;refine za rfl ?_;refine zi rfl rfl rfl (hi) ?_;refine za rfl ?_;refine zb ?_;refine y8 rfl ?_;refine zo ?_;refine zf zc [] rfl ?_;refine za rfl ?_;refine za (t:=.v (.int .u32 (c : Int))) (by show some (T.v (.int .u32 (IntKind.u32.wrap (c : Int))),(none : Option (Nat × List T))) = _;rw [show IntKind.u32.wrap (c : Int) = (c : Int) from by simp [IntKind.wrap,IntKind.bits,IntKind.signed];omega]) ?_;refine za (t:=.v (.int .u32 (c * 1048576 : Nat))) (by show some (T.v (.int .u32 (IntKind.u32.wrap ((c : Int) * 1048576))),(none : Option (Nat × List T))) = _;rw [show IntKind.u32.wrap ((c : Int) * 1048576) = ((c * 1048576 : Nat) : Int) from by simp [IntKind.wrap,IntKind.bits,IntKind.signed];omega]) ?_;iterate 2 refine za rfl ?_
 refine zb ?_;refine zq ?_;exact ⟨trivial,_,rfl,Cv.eq rfl rfl⟩
abbrev zEd : List T:=[I64 0,I64 0,BL false,I64 0,I64 0,I64 0,I64 0,I64 0,NIL,NIL,strT [],I64 0,I64 0,strT [],I64 0,I64 0]
def newC (b w h : Int) : List T:=
 [I64 23,cIf [b + 3],strT [116,105,110,121],cIf [],I64 19,cIf [b + 2],strT [],cIf [],I64 20,cIf [b + 2,28,0,0,1,0,b + 3],strT [],cIf [],I64 1,cIf [b + 1,1,0,0,w,h,0,0,0],strT [],cIf [],I64 7,cIf [b + 1,32,0,0,0,0,0,277],strT [],cIf [],I64 3,cIf [b + 1],strT [],cIf []]
theorem zde (b w h : Int) : rqT (newR b w h) = .islc (newC b w h) 6 none:=rfl
theorem ph (b w h : Int) : T.pureL (newC b w h) = true:=rfl
def newO (b w h : Int) : List T:=
 [I64 23,.islc [I64 (b + 3)] 1 (some 1),strT [116,105,110,121],NIL,I64 19,.islc [I64 (b + 2)] 1 (some 1),strT [],NIL,I64 20,.islc [I64 (b + 2),I64 28,I64 0,I64 0,I64 1,I64 0,I64 (b + 3)] 7 (some 7),strT [],NIL,I64 1,.islc [I64 (b + 1),I64 1,I64 0,I64 0,I64 w,I64 h,I64 0,I64 0,I64 0] 9 (some 9),strT [],NIL,I64 7,.islc [I64 (b + 1),I64 32,I64 0,I64 0,I64 0,I64 0,I64 0,I64 277] 8 (some 8),strT [],NIL,I64 3,.islc [I64 (b + 1)] 1 (some 1),strT [],NIL]
theorem zhd (b w h : Int) : T.pureL (newO b w h) = true:=rfl
theorem ednew0_p (c b : Nat) (hB : c * 1048576 = b) (w h : Int) (s : List UInt8) (h1 : 1≤c) (h2 : c≤8) (hw : 4≤w∧w≤128∧6≤h∧h≤128) (hs : s.length≤4096) (hr : rightB s = true) : CallP Tryz.prog 9 [I64 c,I64 w,I64 h,strT s] (.tup [edT (newEd b w h s),(.islc (newO b w h) 6 (some 6)),I64 0]):=by
 have hbn:=bnew_p s hs hr
 have hba:=ze1 c h1 h2
 rw [hB] at hba
 have hb8 : b≤8388608:=by omega
 clear hB
 have hp:=yg (newEd b w h s)
 have hpb:=xl ⟨[],[],s⟩
 have hpr:=zhd b w h
 refine CallP.intro2 z5 z5 ?_;refine CallT.intro zc Tryz.func9 rfl (by kernel_rfl) (Nat.le_of_ble_eq_true rfl) ?_;refine zf zc [] rfl ?_;refine yc rfl rfl ?_;iterate 2 refine za rfl ?_
 refine zb ?_;refine zf zc [] rfl ?_;refine za rfl ?_;refine zi rfl rfl rfl (hba) ?_;iterate 5 refine za rfl ?_
 refine zb ?_;refine zn ?_;refine zf zc [] rfl ?_;iterate 2 refine za rfl ?_
 refine zb ?_;refine y8 rfl ?_;refine zo ?_;refine zn ?_;refine zf zc [] rfl ?_;iterate 3 refine za rfl ?_
 refine' zu (d:=31) [_,_,_] rfl ?_ rfl ?_
 rotate_left
 ·refine zt rfl rfl (fun hb4_2=>?_) (fun hb4_2=>?_)
  ·have ghb4_2:=hb4_2
   try simp only [zh,Bool.not_true,Bool.not_false] at ghb4_2
   refine za rfl ?_;refine zg rfl rfl hb4_2 ?_;refine za rfl ?_;refine zr rfl (fun _=>rfl) ?_;exact zb ⟨rfl,rfl⟩
  ·refine zl rfl rfl hb4_2 ?_;exact zr rfl (fun h=>absurd (h.symm.trans hb4_2) (by decide)) (zb ⟨rfl,rfl⟩)
 refine za rfl ?_;refine' zu (d:=35) [_,_,_] rfl ?_ rfl ?_
 rotate_left
 ·refine zt rfl rfl (fun hb4_6=>?_) (fun hb4_6=>?_)
  ·have ghb4_6:=hb4_6
   try simp only [zh,Bool.not_true,Bool.not_false] at ghb4_6
   refine za rfl ?_;refine zg rfl rfl hb4_6 ?_;refine za rfl ?_;refine zr rfl (fun _=>rfl) ?_;exact zb ⟨rfl,rfl⟩
  ·refine zl rfl rfl hb4_6 ?_;exact zr rfl (fun h=>absurd (h.symm.trans hb4_6) (by decide)) (zb ⟨rfl,rfl⟩)
 refine za rfl ?_;refine' zu (d:=39) [_,_,_] rfl ?_ rfl ?_
 rotate_left
 ·refine zt rfl rfl (fun hb4_10=>?_) (fun hb4_10=>?_)
  ·have ghb4_10:=hb4_10
   try simp only [zh,Bool.not_true,Bool.not_false] at ghb4_10
   refine za rfl ?_;refine zg rfl rfl hb4_10 ?_;refine za rfl ?_;refine zr rfl (fun _=>rfl) ?_;exact zb ⟨rfl,rfl⟩
  ·refine zl rfl rfl hb4_10 ?_;exact zr rfl (fun h=>absurd (h.symm.trans hb4_10) (by decide)) (zb ⟨rfl,rfl⟩)
 refine zb ?_;refine zm rfl (fun hc1=>?_) (fun hc1=>?_)
 ·(try simp only [zh] at hc1);omega
 ·(try simp only [zh] at hc1)
  refine zo ?_;refine zn ?_;refine zf zc [] rfl ?_;refine za rfl ?_;refine za (t:=I64 (s.length : Nat)) rfl ?_;refine za rfl ?_;refine zb ?_;refine zm rfl (fun hc2=>?_) (fun hc2=>?_)
  ·(try simp only [zh] at hc2);omega
  ·(try simp only [zh] at hc2)
   refine zo ?_;refine zf zc [] rfl ?_;refine za rfl ?_;refine zi rfl rfl rfl (hbn) ?_;iterate 3 refine za rfl ?_
   refine yc rfl rfl ?_;refine zk rfl rfl rfl rfl rfl yh rfl ?_;refine za rfl ?_;refine zb ?_;refine zn ?_;refine zf zc [] rfl ?_;iterate 2 refine za rfl ?_
   refine zb ?_;refine y8 rfl ?_;refine zo ?_;refine zf zc [] rfl ?_;refine za rfl ?_;refine za (t:=I64 (b : Int)) (by show some (T.v (.int .i64 (IntKind.i64.wrap (b : Int))),(none : Option (Nat × List T))) = _;rw [wq z8]) ?_;refine za rfl ?_;refine zb ?_;refine zf zc [] rfl ?_;refine za rfl ?_;first | refine zy rfl rfl (by omega) ?_ | refine za rfl ?_
   refine za rfl ?_;first | refine zy rfl rfl (by omega) ?_ | refine za rfl ?_
   refine za rfl ?_;first | refine zy rfl rfl (by omega) ?_ | refine za rfl ?_
   iterate 2 refine za rfl ?_
   first | refine za rfl ?_ | refine zd rfl rfl zj ?_ | refine ze rfl rfl rfl zj ?_
   refine za rfl ?_;refine yc rfl rfl ?_;refine zk rfl rfl rfl rfl rfl yh rfl ?_;refine zb ?_;refine xr ([(8,.ptr 0 0),(16,.ptr 1 0)]) ([.c zEd,.c [I64 0,I64 0,BL true,I64 ((b : Int) + 1),I64 ((b : Int) + 2),I64 ((b : Int) + 3),I64 w,I64 h,.islc [] 0 none,.islc [] 0 none,strT s,I64 0,I64 0,strT [],I64 0,I64 0]]) [1,2] rfl (by refine ⟨[some 0,some 2],rfl,yo,yn,?_,?_⟩ <;> (repeat' first | exact trivial | exact ym | exact yq | exact yp rfl | refine yb ?_ ?_ | refine z4 rfl ?_ ?_ | refine zx ?_ ?_ | refine yk rfl ?_ | fail) <;> first | exact xd | (exact CvL.pure rfl)) ?_
   refine zf zc [68,72,78,84,88,92,94] rfl ?_;refine za rfl ?_;first | refine za rfl ?_ | refine zd rfl rfl zj ?_ | refine ze rfl rfl rfl zj ?_
   refine ya rfl rfl ?_;iterate 2 refine za rfl ?_
   first | refine za rfl ?_ | refine zd rfl rfl zj ?_ | refine ze rfl rfl rfl zj ?_
   refine ya rfl rfl ?_;iterate 2 refine za rfl ?_
   first | refine za rfl ?_ | refine zd rfl rfl zj ?_ | refine ze rfl rfl rfl zj ?_
   refine za rfl ?_;first | refine za rfl ?_ | refine zd rfl rfl zj ?_ | refine ze rfl rfl rfl zj ?_
   refine ya rfl rfl ?_;iterate 2 refine za rfl ?_
   first | refine za rfl ?_ | refine zd rfl rfl zj ?_ | refine ze rfl rfl rfl zj ?_
   iterate 2 refine za rfl ?_
   refine ya rfl rfl ?_;iterate 2 refine za rfl ?_
   first | refine za rfl ?_ | refine zd rfl rfl zj ?_ | refine ze rfl rfl rfl zj ?_
   refine ya rfl rfl ?_;iterate 2 refine za rfl ?_
   first | refine za rfl ?_ | refine zd rfl rfl zj ?_ | refine ze rfl rfl rfl zj ?_
   refine ya rfl rfl ?_;refine za rfl ?_;refine ya rfl rfl ?_;refine za rfl ?_;refine zb ?_;refine zf zc [] rfl ?_;iterate 3 refine za rfl ?_
   refine zk rfl rfl rfl rfl rfl yh rfl ?_;refine zb ?_;refine zf zc [] rfl ?_;first | refine za rfl ?_ | refine zd rfl rfl zj ?_ | refine ze rfl rfl rfl zj ?_
   refine za rfl ?_;refine zk rfl rfl rfl rfl rfl yh rfl ?_;iterate 2 refine za rfl ?_
   refine zb ?_;refine zq ?_;exact ⟨trivial,_,rfl,Cv.tup (CvL.cons (Cv.agg (CvL.eq rfl hp)) (CvL.cons (Cv.eq (by kernel_rfl) (by kernel_rfl)) (CvL.cons (Cv.pure rfl) CvL.nil)))⟩
theorem CallP.weak [Dr] {P : Program} {f : FuncId} {args : List T} {r r' : T} (h : CallP P f args r) (ha : T.pureL args = true) (hr : r'.pure = true) (hc : ∀ v,Cv v r r') : CallP P f args r':=
 CallP.intro2 ha hr ((h.callT []).mono fun t H' ⟨h1,h2⟩=>by subst h1;exact hc _)
theorem zib (c b : Nat) (hB : c * 1048576 = b) (w h : Int) (s : List UInt8) (h1 : 1≤c) (h2 : c≤8) (hw : 4≤w∧w≤128∧6≤h∧h≤128) (hs : s.length≤4096) (hr : rightB s = true) : CallP Tryz.prog 9 [I64 c,I64 w,I64 h,strT s] (.tup [edT (newEd b w h s),rqT (newR b w h),I64 0]):=by
 have hp:=yg (newEd b w h s)
 have hpr:=ph b w h
 rw [zde]
 refine (ednew0_p c b hB w h s h1 h2 hw hs hr).weak rfl (by show (T.pureL (edC (newEd b w h s)) && (T.pureL (newC b w h) && (true && true))) = true;rw [hp,hpr];rfl) fun v=>Cv.tup (CvL.cons (Cv.agg (CvL.pure hp)) (CvL.cons (Cv.islc ?_ (.inr rfl)) (CvL.cons (Cv.pure rfl) CvL.nil)))
 unfold newO newC
 exact xq
end

section
open Go.RowKit
def visH (fl : Bool) (F : Hp) : Hp:=if fl then F else List.replicate F.length .d
theorem zjc (fl : Bool) (F : Hp) : (visH fl F).length = F.length:=by unfold visH;cases fl <;> simp
theorem zcx : ∀ (n b : Nat),blkH (List.replicate n .d) b = .d
 | 0,_=>rfl
 | n + 1,0=>rfl
 | n + 1,b + 1=>zcx n b
def wOkG : List Wr→Hp→Prop
 | [],_=>True
 | (b,o,xs) :: W,F=>match lookH F b with
  | some cs=>o + xs.length≤cs.length∧xs.all cellB = true∧wOkG W (setH F b (.c (putL cs o xs)))
  | none=>False
theorem zaq {b o : Nat} {xs : List T} : ∀ (W V : List Wr) (F : Hp),wOkG (W ++ (b,o,xs) :: V) F→∃ cs,lookH (appW W F) b = some cs∧o + xs.length≤cs.length∧xs.all cellB = true∧appW (W ++ [(b,o,xs)]) F = setH (appW W F) b (.c (putL cs o xs))
 | [],V,F,h=>by
  simp only [List.nil_append,wOkG] at h
  split at h
  ·rename_i cs hc
   exact ⟨cs,hc,h.1,h.2.1,by simp only [List.nil_append,appW,hc]⟩
  ·exact h.elim
 | (b',o',xs') :: W,V,F,h=>by
  simp only [List.cons_append,wOkG] at h
  split at h
  ·rename_i cs hc
   obtain ⟨cs2,k1,k2,k3,k4⟩:=zaq W V _ h.2.2
   refine ⟨cs2,?_,k2,k3,?_⟩
   ·simp only [appW,hc];exact k1
   ·simp only [List.cons_append,appW,hc];exact k4
  ·exact h.elim
inductive RunT [Dr] (P : Program) (tab : Tab) (im : List Nat) (ops : Array Oper) : List Oper→Env→Hp→List Stp→List Bool→List (Option Wr)→Env→Hp→Prop
 | nil (E : Env) (F : Hp) : RunT P tab im ops [] E F [] [] [] E F
 | one {o : Oper} {l : List Oper} {E : Env} {F : Hp} {s : Stp} {f : Bool} {r : List Stp} {fs : List Bool} {ws : List (Option Wr)} {E' : Env} {F' : Hp} (h : StpOk P tab im ops o E (visH f F) s)
   (k : RunT P tab im ops l (E.put o.dst s.t) (F ++ newsOf s.nb) r fs ws E' F') : RunT P tab im ops (o :: l) E F (s :: r) (f :: fs) (none :: ws) E' F'
 | sto {o : Oper} {l : List Oper} {E : Env} {F : Hp} {t : Nat} {a x : Operand} {b q : Nat} {tx : T} {i : TyI} {r : List Stp} {fs : List Bool} {ws : List (Option Wr)} {E' : Env} {F' : Hp} (hg : o.guard = none) (hd : o.dst = none) (ho : o.op = .store t a x) (hT : tab t = some i) (ha : E.opd a = some (.ptr b q)) (hx : E.opd x = some tx)
   (hl : (flat tx).length = i.sz) (k : RunT P tab im ops l E F r fs ws E' F') : RunT P tab im ops (o :: l) E F (⟨.v undef,none⟩ :: r) (false :: fs) (some (b,q,flat tx) :: ws) E' F'
theorem runT_at [Dr] {P : Program} {tab : Tab} {im : List Nat} {ops : Array Oper} {l : List Oper} {E : Env} {F : Hp} {r : List Stp} {fs : List Bool} {ws : List (Option Wr)} {E' : Env} {F' : Hp} (h : RunT P tab im ops l E F r fs ws E' F') :
  r.length = l.length∧fs.length = l.length∧ws.length = l.length∧E' = envAt l r E l.length∧F' = hpAt r F l.length∧
   (∀ k o s f w,l[k]? = some o→r[k]? = some s→fs[k]? = some f→ws[k]? = some w→StpS P tab im ops o (envAt l r E k) (visH f (hpAt r F k)) s w):=by
 induction h with
 | nil E F=>exact ⟨rfl,rfl,rfl,rfl,rfl,fun k o s f w h=>by simp at h⟩
 | @one o l E F s f r fs ws E' F' h k ih=>
  obtain ⟨h1,h2,h3,h4,h5,h6⟩:=ih
  refine ⟨by simp [h1],by simp [h2],by simp [h3],h4,h5,fun j o' s' f' w ho hs' hh hw=>?_⟩
  cases j with
  | zero=>simp at ho hs' hh hw;subst ho hs' hh hw;exact h
  | succ j=>exact h6 j o' s' f' w (by simpa using ho) (by simpa using hs') (by simpa using hh) (by simpa using hw)
 | @sto o l E F t a x b q tx i r fs ws E' F' hg hd ho hT ha hx hl k ih=>
  obtain ⟨h1,h2,h3,h4,h5,h6⟩:=ih
  refine ⟨by simp [h1],by simp [h2],by simp [h3],?_,?_,fun j o' s' f' w ho' hs' hh hw=>?_⟩
  ·rw [h4];show _ = envAt l r (E.put o.dst _) l.length;rw [hd];rfl
  ·rw [h5];show _ = hpAt r (F ++ newsOf none) l.length;simp [newsOf]
  ·cases j with
   | zero=>simp at ho' hs' hh hw;subst ho' hs' hh hw;exact ⟨rfl,hg,hd,t,a,x,tx,i,ho,hT,ha,hx,rfl,hl⟩
   | succ j=>
    have:=h6 j o' s' f' w (by simpa using ho') (by simpa using hs') (by simpa using hh) (by simpa using hw)
    have e : envAt (o :: l) (⟨.v undef,none⟩ :: r) E (j + 1) = envAt l r E j:=by show envAt l r (E.put o.dst _) j = _;rw [hd];rfl
    have e2 : hpAt (⟨.v undef,none⟩ :: r) F (j + 1) = hpAt r F j:=by show hpAt r (F ++ newsOf none) j = _;simp [newsOf]
    rw [e,e2];exact this
def lateB (l : List Oper) (fs : List Bool) : Bool:=(List.range l.length).all fun k'=>!stB l[k']? || (List.range fs.length).all fun k=>!(fs.getD k false) || ((masks l []).getD k' 0).testBit k
section
variable {z : Bool} {P : Program} {tab : Tab} {n m kb lb : Nat} {l : List Oper} {E : Env} {H : Hp} {r : List Stp} {fs : List Bool} {ws : List (Option Wr)} {X0 : Nat→Prop} {M0 : Mp} {im : List Nat}
structure RunG [Dr] (P : Program) (tab : Tab) (im : List Nat) (l : List Oper) (m : Nat) (E : Env) (H : Hp) (r : List Stp) (fs : List Bool) (ws : List (Option Wr)) : Prop where
 rl : r.length = (l.take m).length
 hl : fs.length = (l.take m).length
 wl : ws.length = (l.take m).length
 st : ∀ k o s f w,(l.take m)[k]? = some o→r[k]? = some s→fs[k]? = some f→ws[k]? = some w→StpS P tab im l.toArray o (envAt (l.take m) r E k) (visH f (hpAt r H k)) s w
 ok : wOkG (ws.filterMap id) (hpAt r H r.length)
 late : lateB l fs = true
theorem JdS.lookT [Dr] {L : Nat→Prop} {a : Act} {M : Mp} {j : Nat} (hO : OrdB l m) (hF : RunG P tab im l m E H r fs ws) (h : JdS n kb (l.take m) r ws E H X0 j L a M) (hc : Closed l L) {k : Nat} (hk : ¬ L k) {f : Bool} (hkk : fs[k]? = some f) : LookAt M (lookH (visH f (hpAt r H k))):=by
 have hkl : k < (l.take m).length:=by rw [← hF.hl];exact (List.getElem?_eq_some_iff.1 hkk).1
 intro b B O cells hb hcc
 cases f with
 | false=>rw [y9] at hcc;unfold visH at hcc;rw [if_neg (by decide),zcx] at hcc;cases hcc
 | true=>
  have hcc' : lookH (hpAt r H k) b = some cells:=hcc
  refine Sim.look h.sim b B O cells hb ?_;have hd:=h.sim.D_of hb
  rw [y9] at hcc'
  rw [vp]
  unfold lookG
  rw [if_pos hd,ud _ _ fun w hw e=>?_]
  ·have hlt : b < (hpAt r H k).length:=xa (by rw [hcc'];simp)
   have hkeep:=(wi (r:=r) (H:=H) k r.length (by have:=hF.rl;omega) (Nat.le_refl _)).2 b hlt
   rw [hkeep];exact hcc'
  ·obtain ⟨i,hi⟩:=List.getElem?_of_mem hw
   have hij : i < j:=by
    have:=(List.getElem?_eq_some_iff.1 hi).1
    rw [List.length_take] at this;omega
   rw [List.getElem?_take,if_pos hij] at hi
   have hlt : i < cntW ws ws.length:=by unfold cntW;rw [List.take_length];exact (List.getElem?_eq_some_iff.1 hi).1
   obtain ⟨k',w',q1,q2,q3⟩:=th hlt
   have hL : L k':=(h.cnt k' w' q2).2 (by omega)
   have hk'l : k' < (l.take m).length:=by rw [← hF.wl];exact q1
   have hol : l[k']? = some (l.take m)[k']:=by have:=List.getElem?_eq_getElem hk'l;rw [List.getElem?_take] at this;split at this;exact this;cases this
   have hst:=hF.st k' _ _ _ _ (List.getElem?_eq_getElem hk'l) (List.getElem?_eq_getElem (by rw [hF.rl];exact hk'l)) (List.getElem?_eq_getElem (by rw [hF.hl];exact hk'l)) q2
   obtain ⟨b',q',xs'⟩:=w'
   obtain ⟨-,-,-,t',x',y',tx',i',hoc',-⟩:=hst
   have hlate:=hF.late
   unfold lateB at hlate
   rw [List.all_eq_true] at hlate
   have h1:=hlate k' (List.mem_range.2 (List.getElem?_eq_some_iff.1 hol).1)
   have hsb : stB l[k']? = true:=by rw [hol];generalize (l.take m)[k'] = ok at hoc';simp [stB,hoc']
   rw [hsb] at h1
   simp only [Bool.not_true,Bool.false_or] at h1
   rw [List.all_eq_true] at h1
   have h2:=h1 k (List.mem_range.2 (List.getElem?_eq_some_iff.1 hkk).1)
   have hfk : fs.getD k false = true:=by simp [List.getD,hkk]
   rw [hfk] at h2
   simp only [Bool.not_true,Bool.false_or] at h2
   exact hk (vr hO.back hc k' hL k h2)
theorem JdS.stepT [Dr] (hT : TabOk P tab) (hO : OrdB l m) (hch : chainB l m = true) (hF : RunG P tab im l m E H r fs ws)
  {L : Nat→Prop} {a : Act} {M : Mp} {j : Nat} (h : JdS n kb (l.take m) r ws E H X0 j L a M) (hc : Closed l L) {k : Nat} {o : Oper} (ho : (l.take m)[k]? = some o) (hk : ¬ L k) (hpre : ∀ e∈o.after,Region.binds .any e = true→L e.on) (hd : ∀ d,o.dst = some d→d < n)
  {r0 : Option Nat} {Q : Exit→Act→World→Prop} {K : Act→World→Prop} (hK : ∀ a' M' j',Evo X0 M M'→JdS n kb (l.take m) r ws E H X0 j' (fun i=>L i∨i = k) a' M'→K a' M'.w) : wpOpIn (FW r0) 0 P l.toArray Q k K a M.w:=by
 have hr:=hF.rl
 have hkl : k < (l.take m).length:=(List.getElem?_eq_some_iff.1 ho).1
 have hol : l[k]? = some o:=by rw [List.getElem?_take] at ho;split at ho;exact ho;cases ho
 have hkm : k < m:=by rw [List.length_take] at hkl;omega
 have hs' : r[k]? = some r[k]:=List.getElem?_eq_getElem (by omega)
 obtain ⟨f',hh'⟩ : ∃ x,fs[k]? = some x:=⟨_,List.getElem?_eq_getElem (by rw [hF.hl];omega)⟩
 obtain ⟨w,hw'⟩ : ∃ x,ws[k]? = some x:=⟨_,List.getElem?_eq_getElem (by rw [hF.wl];omega)⟩
 have hstp:=hF.st k o _ _ _ ho hs' hh' hw'
 generalize r[k] = s at hs' hstp
 have hlook:=h.lookT hO hF hc hk hh'
 have hrd:=fun (d : Nat) (t : T)=>h.read hO hr hc ho hk hpre (d:=d) (t:=t)
 have hop : ∀ x∈o.op.operands.toList,∀ t,(envAt (l.take m) r E k).opd x = some t→Rep M t (a.eval x):=by
  intro x hx t ht
  cases x with
  | tmp d=>
   obtain ⟨u,h1,h2⟩:=hrd d t (by simp only [readsOf,Oper.looksAt,List.mem_append,List.mem_filterMap];exact .inl ⟨.tmp d,hx,rfl⟩) ht
   have : a.eval (.tmp d) = u:=by show a.tmps.getD d undef = u;simp [h1]
   rw [this];exact h2
  | const v=>simp only [Env.opd] at ht;injection ht with ht;subst ht;exact qy v
  | func f=>simp only [Env.opd] at ht;injection ht with ht;subst ht;exact ⟨[],[],rfl,rfl,rfl⟩
  | global g=>simp only [Env.opd] at ht;injection ht with ht;subst ht;exact rfl
 unfold wpOpIn
 simp only [List.getElem?_toArray,hol]
 cases w with
 | some w=>
  obtain ⟨b,q,xs⟩:=w
  obtain ⟨rfl,hg,hdn,t,x,y,tx,i,hoc,hti,hx,hy,rfl,hxl⟩:=hstp
  have hw : Region.wanted o (yielded l.toArray a.tmps) = true:=by simp [Region.wanted,hg]
  rw [hw,if_pos rfl]
  have hix:=zij hw'
  have hij : cntW ws k = j:=by
   have h1 : ¬ cntW ws k < j:=fun hh=>hk ((h.cnt k _ hw').2 hh)
   refine Nat.le_antisymm (Nat.le_of_not_lt fun hh=>?_) (by omega)
   obtain ⟨k',w',q1,q2,q3⟩:=th hh
   have hk'l : k' < (l.take m).length:=by rw [← hF.wl];exact (List.getElem?_eq_some_iff.1 q2).1
   have ho' : (l.take m)[k']? = some (l.take m)[k']:=List.getElem?_eq_getElem hk'l
   have hst':=hF.st k' _ _ _ _ ho' (List.getElem?_eq_getElem (by omega)) (List.getElem?_eq_getElem (by rw [hF.hl];omega)) q2
   obtain ⟨b',q',xs'⟩:=w'
   obtain ⟨-,-,-,t',x',y',tx',i',hoc',-⟩:=hst'
   have hol' : l[k']? = some (l.take m)[k']:=by have:=ho';rw [List.getElem?_take] at this;split at this;exact this;cases this
   have hL:=wa hO.back hc hol hpre (zeu hch hkm q1 hol hol' hoc hoc')
   have:=(h.cnt k' _ q2).1 hL
   omega
  rw [hij] at hix
  have hsp : ws.filterMap id = (ws.filterMap id).take j ++ (b,q,flat tx) :: (ws.filterMap id).drop (j + 1):=by
   have h1:=(List.getElem?_eq_some_iff.1 hix)
   rw [← h1.2,← List.drop_eq_getElem_cons h1.1,List.take_append_drop]
  have hok:=hF.ok
  rw [hsp] at hok
  obtain ⟨cs,k1,k2,k3,k4⟩:=zaq _ _ _ hok
  have htk : (ws.filterMap id).take (j + 1) = (ws.filterMap id).take j ++ [(b,q,flat tx)]:=by rw [List.take_add_one,hix];rfl
  have hrx:=hop x (by rw [hoc];simp [Op.operands]) _ hx
  have hry:=hop y (by rw [hoc];simp [Op.operands]) _ hy
  have hbb : b < H.length∨made r H L b:=by obtain ⟨B,O,hb,-⟩:=hrx;exact h.sim.D_of hb
  have hbk : lookG r H (appW ((ws.filterMap id).take j) (hpAt r H r.length)) L b = .c cs:=by unfold lookG;rw [if_pos hbb];exact y9.1 k1
  obtain ⟨M',e1,e2,e3⟩:=Sim.stored (P:=P) hT h.sim hti hbk hrx hry hxl k2 k3
  have hnd : ∀ c,o.op≠.defer c:=by rw [hoc];simp
  refine xx hnd ?_;obtain ⟨dst,op,ty,pos,after,guard⟩:=o
  simp only at hoc hdn
  subst hoc hdn
  have hrr : (execOp a.eval ⟨none,.store t x y,ty,pos,after,guard⟩).run P M.w = .ok .skip M'.w:=by simp [execOp,e1]
  rw [hrr]
  refine hK _ _ (j + 1) e2 (h.next hO ho hs' hk hd e2 (e3.congr (fun c=>?_) (fun c=>by rw [xf hs' rfl])) (u:=undef) rfl (fun k2' w2 hw2=>?_) (fun w2 hw2=>?_))
  ·rw [xz hs' rfl,htk,k4]
   unfold lookG updL
   by_cases hcb : c = b
   ·subst hcb;rw [if_pos hbb,if_pos rfl,x6 _ _ _ _ (xn k1),if_pos rfl]
   ·rw [if_neg hcb]
    dsimp only
    by_cases hcd : c < H.length∨made r H L c
    ·rw [if_pos hcd,if_pos hcd,x6 _ _ _ _ (xn k1),if_neg hcb]
    ·rw [if_neg hcd,if_neg hcd]
  ·rw [h.cnt k2' w2 hw2]
   constructor
   ·rintro (q1 | rfl) <;> omega
   ·intro hh
    by_cases h2 : cntW ws k2' < j
    ·exact .inl h2
    ·refine .inr ?_;rcases Nat.lt_trichotomy k2' k with q1 | q1 | q1
     ·have:=s4 q1 hw2;omega
     ·exact q1
     ·have:=s4 q1 hw';omega
  ·rw [htk] at hw2
   rcases List.mem_append.1 hw2 with q1 | q1
   ·exact (h.mkd w2 q1).imp id tv
   ·rw [List.mem_singleton] at q1;subst q1;exact hbb.imp id tv
 | none=>
  have hcn : ∀ k' w,ws[k']? = some (some w)→((L k'∨k' = k)↔cntW ws k' < j):=fun k' w hwk=>by
   rw [← h.cnt k' w hwk]
   exact ⟨fun hh=>hh.resolve_right (fun e=>by subst e;rw [hw'] at hwk;injection hwk with hwk;cases hwk),Or.inl⟩
  have hmk : ∀ w∈(ws.filterMap id).take j,w.1 < H.length∨made r H (fun i=>L i∨i = k) w.1:=fun w hw=>(h.mkd w hw).imp id tv
  have hgd : ∀ g want d b,o.guard = some (g,want)→(l.toArray[g]?).bind (·.dst) = some d→(envAt (l.take m) r E k).get d = some (.v (.bool b))→yielded l.toArray a.tmps g = some b:=by
   intro g want d b hg hgd hb
   have hgd' : (l[g]?.bind fun x=>x.dst) = some d:=by simpa using hgd
   obtain ⟨u,h1,h2⟩:=hrd d _ (by simp [readsOf,Oper.looksAt,hg];exact .inr hgd') hb
   obtain rfl:=h2
   simp [yielded,hgd',h1]
  rcases hstp with ⟨h1,h2,g,want,d,x,hg,hgdst,hb,hne⟩ | ⟨hg,hst⟩
  ·have hw : Region.wanted o (yielded l.toArray a.tmps) = false:=by
    have hgd' : (l[g]?.bind fun x=>x.dst) = some d:=by simpa using hgdst
    obtain ⟨u,q1,q2⟩:=hrd d _ (by simp [readsOf,Oper.looksAt,hg];exact .inr hgd') hb
    obtain rfl:=q2
    have hy : yielded l.toArray a.tmps g = match u with | .bool b=>some b | _=>none:=by simp only [yielded,List.getElem?_toArray,hgd',Option.bind_some,q1];cases u <;> rfl
    simp only [Region.wanted,hg,hy]
    cases u <;> first | rfl | skip
    rename_i b
    cases b <;> cases want <;> first | rfl | exact absurd rfl hne
   rw [hw]
   refine ⟨fun _ _=>trivial,hK _ M j (Evo.refl _ _) (h.next hO ho hs' hk hd (Evo.refl _ _) (h.sim.congr (fun b=>xz hs' h2 b) fun b=>by rw [xf hs' h2]) (by rw [h1];rfl) hcn hmk)⟩
  ·have hw : Region.wanted o (yielded l.toArray a.tmps) = true:=by
    rcases hg with hg | ⟨g,want,d,hg,hgdst,hb⟩
    ·simp [Region.wanted,hg]
    ·have hy:=hgd g want d want hg hgdst hb
     simp [Region.wanted,hg,hy]
   rw [hw,if_pos rfl]
   have hnd : ∀ c,o.op≠.defer c:=by
    rcases hst with ⟨t,nb,hm,-⟩ | ⟨f,args,ats,g,fs,cs,ts,hoc,-⟩
    ·exact zaf hm
    ·rw [hoc];simp
   refine xx hnd ?_;rcases hst with ⟨t,nb,hm,hst⟩ | ⟨f,args,ats,g,fs,cs,ts,hoc,hf,hts,hcall,hnb⟩
   ·have hmk':=zag (M:=M) (ρ':=a.eval) hT hlook hop hm
    rcases hst with ⟨hst,hnb⟩ | ⟨⟨e,cs⟩,rfl,hst,hnb⟩
    case inr=>
     obtain ⟨u,w',q1,q2,q3,q4⟩:=pn h.sim hmk' (pf hm)
     rw [q1]
     exact hK _ _ j q2 (h.next hO ho hs' hk hd q2 ((h.sim.world q2 q3).congr (fun b=>xz hs' hnb b) fun b=>by rw [xf hs' hnb]) (by rw [hst];exact q4) hcn hmk)
    subst hst
    cases nb with
    | none=>
     obtain ⟨u,h1,h2⟩:=hmk'
     rw [h1]
     exact hK _ M j (Evo.refl _ _) (h.next hO ho hs' hk hd (Evo.refl _ _) (h.sim.congr (fun b=>xz hs' hnb b) fun b=>by rw [xf hs' hnb]) h2 hcn hmk)
    | some p=>
     obtain ⟨e,cs⟩:=p
     simp only [Option.map_some] at hnb
     rw [zjc] at hmk'
     obtain ⟨u,ar,h1,h2,h3⟩:=hmk'
     rw [h1]
     have hid : ¬ (hpAt r H k).length < H.length:=by have:=(wb (r:=r) (H:=H) (k:=k) (by omega)).1;omega
     have hnd' : ¬ made r H L (hpAt r H k).length:=by
      rintro ⟨j',s',q1,q2,q3,q4⟩;exact hk (zhc q1 q2 hs' (by rw [hnb];simp) q4 ▸ q3)
     have hnd : ¬ ((hpAt r H k).length < H.length∨made r H L (hpAt r H k).length):=fun hh=>hh.elim hid hnd'
     obtain ⟨Ev,S,hsh⟩:=h.sim.new (nx:=(hpAt r H k).length) hnd (w:={ M.w with heap:=M.w.heap.push (.cells ar e) }) rfl rfl ⟨rfl,fun _=>Nat.le_refl _⟩ rfl (fun j _ hj=>by simp at hj) h2
     have hmade : ∀ b,made r H (fun j=>L j∨j = k) b↔made r H L b∨b = (hpAt r H k).length:=fun b=>by
      constructor
      ·rintro ⟨j,s',q1,q2,q3 | q3,q4⟩
       ·exact .inl ⟨j,s',q1,q2,q3,q4⟩
       ·subst q3;exact .inr q4.symm
      ·rintro (⟨j,s',q1,q2,q3,q4⟩ | q)
       ·exact ⟨j,s',q1,q2,.inl q3,q4⟩
       ·exact ⟨k,s,hs',by rw [hnb];simp,.inr rfl,q.symm⟩
     refine hK _ (newM M _ _) j Ev (h.next hO ho hs' hk hd Ev (S.congr (fun b=>?_) (fun b=>?_)) (h3 _ (if_pos rfl) hsh) hcn hmk)
     ·unfold lookG
      by_cases hb : b = (hpAt r H k).length
      ·subst hb
       rw [if_pos (.inr ((hmade _).2 (.inr rfl))),if_pos rfl,ud _ _ fun w hw e=>?_]
       ·exact (qc hs' hnb).2
       ·have:=h.mkd w hw
        rw [e] at this
        exact hnd this
      ·rw [if_neg hb]
       by_cases hbD : b < H.length∨made r H L b
       ·rw [if_pos hbD,if_pos (hbD.imp id fun hh=>(hmade b).2 (.inl hh))]
       ·rw [if_neg hbD,if_neg fun hh=>hbD (hh.imp id fun q=>((hmade b).1 q).resolve_right hb)]
     ·rw [hmade,or_assoc]
   ·obtain ⟨dst,op,ty,pos,after,guard⟩:=o
    simp only at hoc hop hd
    subst hoc
    obtain ⟨us,vs,e1,r1,r2⟩:=hop f (by simp [Op.operands,Call.operands]) _ hf
    have r3:=w3 (M:=M) (ρ':=a.eval) _ _ (fun x hx t ht=>hop x (by simp [Op.operands,Call.operands];exact .inr (by simpa using hx)) t ht) hts
    have hrr : (execOp a.eval ⟨dst,.call ⟨.value f,args,ats⟩,ty,pos,after,guard⟩).run P M.w = .ok (.enter g (us ++ args.toList.map a.eval ++ vs).toArray) M.w:=by
     simp only [execOp,resolve,Sem.run_bind,e1,Deferred.ofValue,Sem.run_pure,Result.andThen_ok,invoke]
     rw [wp _ _ _ hcall.2.2.1,← ve]
     simp
    rw [hrr]
    refine ⟨fun hh=>(by cases hh),callsIn_wide.2 ((hcall.run X0 M _ h.sim.bnd h.sim.glo (RepL.append (RepL.append r1 r3) r2)).mono ?_)⟩
    rintro e w' ⟨u,rfl,k1,k2,k3⟩;exact hK _ _ j k1 (h.next hO ho hs' hk hd k1 ((h.sim.world k1 k3).congr (fun b=>xz hs' hnb b) fun b=>by rw [xf hs' hnb]) k2 hcn hmk)
theorem JdS.finT [Dr] {L : Nat→Prop} {a : Act} {M : Mp} {j : Nat} (hO : OrdB l m) (hF : RunG P tab im l m E H r fs ws) (h : JdS n kb (l.take m) r ws E H X0 j L a M) (hL : ∀ k,k < (l.take m).length→L k) : St n kb (envAt (l.take m) r E (l.take m).length) (appW (ws.filterMap id) (hpAt r H (l.take m).length)) X0 a M:=by
 have hr:=hF.rl
 have hdis : ∀ (i j : Nat) (oi oj : Oper),(l.take m)[i]? = some oi→(l.take m)[j]? = some oj→i≠j→∀ d,oi.dst = some d→oj.dst≠some d:=fun i j oi oj hi hj hij d hdi=>(hO.pair j oj i oi hj hi hij d hdi).1
 have hmd : ∀ b,made r H L b↔¬ b < H.length∧b < (hpAt r H r.length).length:=fun b=>by
  constructor
  ·rintro ⟨k,s,q1,q2,-,q4⟩;have hk:=(List.getElem?_eq_some_iff.1 q1).1
   obtain ⟨cs,hcs⟩:=Option.ne_none_iff_exists'.1 q2
   have h1:=(qc (H:=H) q1 hcs).1
   have h2:=(wi (r:=r) (H:=H) (k + 1) r.length hk (Nat.le_refl _)).1
   have h3:=(wb (r:=r) (H:=H) (k:=k) (by omega)).1
   omega
  ·rintro ⟨h1,h2⟩;obtain ⟨j,s,q1,q2,q3,q4⟩:=za5 (Nat.le_refl _) h2 h1
   exact ⟨j,s,q2,q3,hL j (by omega),q4⟩
 have htk : (ws.filterMap id).take j = ws.filterMap id:=by
  refine List.take_of_length_le (Nat.le_of_not_lt fun hh=>?_)
  have e : (ws.filterMap id).length = cntW ws ws.length:=by unfold cntW;rw [List.take_length]
  rw [e] at hh
  obtain ⟨k',w,q1,q2,q3⟩:=th hh
  have:=(h.cnt k' w q2).1 (hL k' (by rw [← hF.wl];exact q1))
  omega
 refine ⟨fun d t ht=>?_,h.sz,h.df,h.ge,h.sim.congr (fun b=>?_) (fun b=>?_)⟩
 ·obtain ⟨g1,g2⟩:=t7 (E:=E) (d:=d) hr (Nat.le_refl _) hdis
  by_cases hw : ∃ j oj,j < (l.take m).length∧(l.take m)[j]? = some oj∧oj.dst = some d
  ·obtain ⟨j,oj,hj,hoj,hdj⟩:=hw
   have hs : r[j]? = some r[j]:=List.getElem?_eq_getElem (by omega)
   rw [g1 j oj _ hj hoj hs hdj] at ht
   injection ht with ht;subst ht
   exact h.slot j oj _ d hoj hs (hL j hj) hdj
  ·rw [g2 fun j oj hj hoj hdj=>hw ⟨j,oj,hj,hoj,hdj⟩] at ht
   exact h.old d t ht fun j oj hoj _ hdj=>hw ⟨j,oj,(List.getElem?_eq_some_iff.1 hoj).1,hoj,hdj⟩
 ·rw [← hr,htk]
  unfold lookG
  by_cases hb : b < H.length∨made r H L b
  ·rw [if_pos hb]
  ·rw [if_neg hb]
   refine Classical.byContradiction fun hne=>hb ?_;have hlt:=xa hne
   rw [s6] at hlt
   by_cases hbH : b < H.length
   ·exact .inl hbH
   ·exact .inr ((hmd b).2 ⟨hbH,hlt⟩)
 ·rw [← hr,s6,hmd]
  have:=(wb (r:=r) (H:=H) (k:=r.length) (Nat.le_refl _)).1
  omega
theorem zid [Dr] (hT : TabOk P tab) (hO : OrdB l m) (hch : chainB l m = true) (hd : dstB n l = true) (hF : RunG P tab im l m E H r fs ws)
  {r0 : Option Nat} {Q : Exit→Act→World→Prop} (hQ : ∀ a M,Evo X0 M0 M→St n kb (envAt (l.take m) r E (l.take m).length) (appW (ws.filterMap id) (hpAt r H (l.take m).length)) X0 a M→wpListIn (FW r0) 0 P l.toArray Q (l.drop m) a M.w) :
  ∀ (fuel : Nat) (listed : Array Bool) (a : Act) (M : Mp) (j : Nat),leftB l listed≤fuel→listed.size = l.length→Closed l (lsd listed)→(∀ k,m≤k→¬ lsd listed k)→Evo X0 M0 M→JdS n kb (l.take m) r ws E H X0 j (lsd listed) a M→wpAnyIn (FW r0) 0 P .any l.toArray Q fuel listed a M.w:=by
 have hml : (l.take m).length = m:=by rw [List.length_take];have:=hO.le;omega
 intro fuel
 have fin : ∀ (fuel : Nat) (listed : Array Bool) (a : Act) (M : Mp) (j : Nat),leftB l listed≤fuel→listed.size = l.length→(∀ k,m≤k→¬ lsd listed k)→(∀ k,k < m→lsd listed k)→Evo X0 M0 M→JdS n kb (l.take m) r ws E H X0 j (lsd listed) a M→wpAnyIn (FW r0) 0 P .any l.toArray Q fuel listed a M.w:=by
  intro fuel listed a M j hf hsz hno hall hE hJ
  refine qk hO fuel listed m a M.w ?_ hsz (Nat.le_refl _) hO.le (fun k=>⟨fun h=>?_,hall k⟩) (hQ a M hE (hJ.finT hO hF fun k hk=>hall k (by omega)))
  ·have h1 : leftB l listed = l.length - m:=by
    unfold leftB
    have e : List.range l.length = List.range m ++ (List.range (l.length - m)).map (m + ·):=by
     rw [← List.range_add,show m + (l.length - m) = l.length from by have:=hO.le;omega]
    rw [e,List.countP_append]
    have e1 : (List.range m).countP (fun k=>!listed.getD k false) = 0:=by
     rw [List.countP_eq_zero]
     intro k hk
     have:=hall k (List.mem_range.1 hk)
     unfold lsd at this
     simpa using this
    have e2 : ((List.range (l.length - m)).map (m + ·)).countP (fun k=>!listed.getD k false) = l.length - m:=by
     rw [List.countP_eq_length.2]
     ·simp
     ·intro k hk
      rw [List.mem_map] at hk
      obtain ⟨q,-,rfl⟩:=hk
      have:=hno (m + q) (by omega)
      unfold lsd at this
      simpa using this
    omega
   omega
  ·exact Nat.lt_of_not_le fun hk=>hno k hk h
 induction fuel with
 | zero=>
  intro listed a M j hf hsz hc hno hE hJ
  by_cases hall : ∀ k,k < m→lsd listed k
  ·exact fin 0 listed a M j hf hsz hno hall hE hJ
  ·exfalso
   have h0 : leftB l listed = 0:=by omega
   unfold leftB at h0
   rw [List.countP_eq_zero] at h0
   apply hall
   intro k hk
   have:=h0 k (List.mem_range.2 (by have:=hO.le;omega))
   unfold lsd
   simpa using this
 | succ fuel ih=>
  intro listed a M j hf hsz hc hno hE hJ
  by_cases hall : ∀ k,k < m→lsd listed k
  ·exact fin _ listed a M j hf hsz hno hall hE hJ
  ·have hnext : ∃ i o,i < m∧l[i]? = some o∧¬ lsd listed i∧∀ e∈o.after,Region.binds .any e = true→lsd listed e.on:=by
    have hex : ∃ k,k < m∧¬ lsd listed k:=by
     apply Classical.byContradiction
     intro h
     exact hall fun k hk=>Classical.byContradiction fun hn=>h ⟨k,hk,hn⟩
    obtain ⟨i,⟨h1,h2⟩,hmin⟩:=ww hex
    have hile : i < l.length:=by have:=hO.le;omega
    have ho : l[i]? = some l[i]:=List.getElem?_eq_getElem hile
    refine ⟨i,_,h1,ho,h2,fun e he hb=>?_⟩
    have hlt:=uq l 0 i _ hO.back ho e he hb
    exact Classical.byContradiction fun hn=>by have:=hmin e.on ⟨by omega,hn⟩;omega
   refine ⟨fun hr0=>?_,fun i hi=>?_⟩
   ·obtain ⟨i,o,h1,h2,h3,h4⟩:=hnext
    have:=so hsz h2 h3 h4
    rw [hr0] at this;cases this
   ·obtain ⟨o,ho,hn,hp⟩:=wz hsz hi
    have hil:=(List.getElem?_eq_some_iff.1 ho).1
    have him : i < m:=by
     refine Nat.lt_of_not_le fun hmi=>?_
     apply hall
     intro k hk
     exact wa hO.back hc ho hp (hO.full i hmi hil k (by omega))
    have hop : (l.take m)[i]? = some o:=by rw [List.getElem?_take,if_pos him];exact ho
    have hdo : ∀ d,o.dst = some d→d < n:=fun d hdd=>by
     unfold dstB at hd
     rw [List.all_eq_true] at hd
     have:=hd o (List.mem_of_getElem? ho)
     rw [hdd] at this;simpa using this
    refine JdS.stepT hT hO hch hF hJ hc hop hn hp hdo fun a' M' j' hE' hJ'=>?_
    have hiff : ∀ k,lsd (listed.setIfInBounds i true) k↔lsd listed k∨k = i:=t5 (by omega)
    have hfun : lsd (listed.setIfInBounds i true) = fun k=>lsd listed k∨k = i:=funext fun k=>propext (hiff k)
    refine ih _ a' M' j' ?_ (by simpa using hsz) (fun k ok hok hk e he hb=>?_) (fun k hk h=>?_) (hE.trans hE') (by rw [hfun];exact hJ')
    ·have:=sx hsz hil hn;omega
    ·rw [hiff] at hk ⊢
     rcases hk with hk | rfl
     ·exact .inl (hc k ok hok hk e he hb)
     ·rw [ho] at hok;injection hok with hok;subst hok;exact .inl (hp e he hb)
    ·rcases (hiff k).1 h with h | h
     ·exact hno k hk h
     ·omega
theorem VC.drawT [Dr] {id : Nat} {QT : Exit → Env → Hp → Prop} (hT : TabOk P tab) (im : List Nat) (m : Nat) (hm : P.follows .mixedOrders = true) (hB : drawB n m l = true) (hch : chainB l m = true)
    (h : ∃ r fs ws E' F', RunT P tab im l.toArray (l.take m) E H r fs ws E' F' ∧ lateB l fs = true ∧ wOkG (ws.filterMap (·)) F' ∧ vcSeq P tab im (l.map (·.dst)) (l.drop m) E' (appW (ws.filterMap (·)) F') (QT .normal)) : VC z P n lb (.region id l.toArray true) QT E H := by
  intro X0 M a r0 kb hz hs
  obtain ⟨hO, hd⟩ := zeb hB
  obtain ⟨r, fs, ws, E', F', hrun, hlate, hok, hk⟩ := h
  obtain ⟨h1, h2, h3, h4, h5, h6⟩ := runT_at hrun
  have hF : RunG P tab im l m E H r fs ws := ⟨h1, h2, h3, h6, by rw [h1, ← h5]; exact hok, hlate⟩
  refine wpIn_region_any hm ?_
  let M1 : Mp := ⟨M.β, M.X, { M.w with drawn := M.w.drawn + 1 }⟩
  have hE1 : Evo X0 M M1 := ⟨fun _ _ h => h, fun _ _ h => h, fun _ _ _ => rfl, fun _ _ h => h, rfl, ⟨rfl, fun _ => Nat.le_succ _⟩, rfl, Nat.le_refl _⟩
  have hs1 : St n kb E H X0 a M1 := ⟨fun d t ht => by obtain ⟨u, q1, q2⟩ := hs.tm d t ht; exact ⟨u, q1, Rep.stays hE1.stays _ _ q2⟩, hs.sz, hs.df.evo hE1, hs.ge, hs.sim.world hE1 fun _ _ => rfl⟩
  have hno : ∀ k, ¬ lsd (Array.replicate l.toArray.size false) k := fun k hk => by
    unfold lsd at hk
    by_cases hlt : k < l.length
    · simp [hlt] at hk
    · simp [hlt] at hk
  have hmd : ∀ b, ¬ made r H (lsd (Array.replicate l.toArray.size false)) b := fun b ⟨k, s, _, _, hk, _⟩ => hno k hk
  have := zid (r0 := r0) (X0 := X0) (M0 := M) (Q := Lift n kb lb X0 M QT) hT hO hch hd hF (fun a' M' hE' hs' => by
    rw [← h4, ← h5] at hs'
    refine ug (im := im) hT _ ?_ hs' (fun E2 H2 a2 M2 k1 k2 k3 => ⟨E2, H2, M2, k1, rfl, (hE'.trans k2).toK lb, k3⟩) hk
    unfold dstB at hd ⊢
    rw [List.all_eq_true] at hd ⊢
    exact fun o ho => hd o (List.mem_of_mem_drop ho)) l.toArray.size (Array.replicate l.toArray.size false) a M1 0 (Nat.le_trans List.countP_le_length (by simp)) (by simp) (fun k o _ hk => absurd hk (hno k)) (fun k _ => hno k) hE1
    ⟨hs1.sim.congr (fun b => by
        unfold lookG
        rw [List.take_zero]
        by_cases hb : b < H.length
        · rw [if_pos (.inl hb)]; exact (wb (Nat.le_refl _)).2 b hb
        · rw [if_neg fun hh => hh.elim hb (hmd b)]
          exact Classical.byContradiction fun hne => hb (xa fun e => hne (by rw [e]))) (fun b => ⟨fun h => h.elim (fun h => h) fun h => absurd h (hmd b), .inl⟩),
     fun k o s d _ _ hk => absurd hk (hno k), fun d t ht _ => hs1.tm d t ht, hs1.sz, hs1.df, hs1.ge, fun k w _ => ⟨fun hk => absurd hk (hno k), fun hh => by omega⟩, fun w hw => by rw [List.take_zero] at hw; cases hw⟩
  exact this
end
def VT [Dr] (P : Program) (tab : Tab) (im : List Nat) (ops : Array Oper) (l : List Oper) (E : Env) (F : Hp) (W : List Wr) (fl : List Bool) (K : Env→Hp→List Bool→Prop) : Prop:=
 ∀ E2,Sub E E2→∃ r fs ws E' F',RunT P tab im ops l E2 F r fs ws E' F'∧wOkG (W ++ ws.filterMap (·)) F'∧∃ E1,Sub E1 E'∧K E1 (appW (W ++ ws.filterMap (·)) F') (fl ++ fs)
section
variable {z : Bool} {P : Program} {tab : Tab} {n lb : Nat} {im : List Nat} {ops : Array Oper} {l : List Oper} {E : Env} {F : Hp} {W : List Wr} {fl : List Bool} {K : Env→Hp→List Bool→Prop}
theorem pz [Dr] (hw : wOkG W F) (h : K E (appW W F) fl) : VT P tab im ops [] E F W fl K:=fun E2 he=>
 ⟨[],[],[],E2,F,.nil _ _,by simpa using hw,E,he,by simpa using h⟩
theorem zc2 [Dr] {t : Nat} {a x : Operand} {ty : TypeId} {pos : String} {after : Array Edge} {b q : Nat} {tx : T} {i : TyI} (hT : tab t = some i) (ha : E.opd a = some (.ptr b q)) (hx : E.opd x = some tx) (hl : (flat tx).length = i.sz) (k : VT P tab im ops l E F (W ++ [(b,q,flat tx)]) (fl ++ [false]) K) : VT P tab im ops (⟨none,.store t a x,ty,pos,after,none⟩ :: l) E F W fl K:=fun E2 he=>by
 obtain ⟨r,fs,ws,E',F',h1,h2,E1,h3,h4⟩:=k _ he
 refine ⟨⟨.v undef,none⟩ :: r,false :: fs,some (b,q,flat tx) :: ws,E',F',.sto rfl rfl rfl hT (he.opd ha) (he.opd hx) hl h1,?_,E1,h3,?_⟩
 ·simpa using h2
 ·simpa using h4
theorem zjl [Dr] {f : Bool} {l1 l2 : List Oper} {E1 : Env} {H1 : Hp} {H0 : Hp} {r1 : List Stp} (h : Run P tab im ops l1 E H0 r1 E1 H1) (hno : H1 = H0) (hf : H0 = visH f F) : ∀ {r : List Stp} {fs : List Bool} {ws : List (Option Wr)} {E' : Env} {F' : Hp},RunT P tab im ops l2 E1 F r fs ws E' F'→
  ∃ r' fs' ws',RunT P tab im ops (l1 ++ l2) E F r' fs' ws' E' F'∧ws'.filterMap (·) = ws.filterMap (·)∧fs' = List.replicate l1.length f ++ fs:=by
 induction h with
 | nil E H=>intro r fs ws E' F' k;exact ⟨r,fs,ws,k,rfl,rfl⟩
 | @cons o l E H s r1 E1 H1 h k ih=>
  intro r fs ws E' F' k2
  obtain ⟨x,hx⟩:=zgr k
  have e : newsOf s.nb = []:=by
   rw [hno,List.append_assoc] at hx
   have:=List.append_cancel_left (show H ++ [] = H ++ (newsOf s.nb ++ x) by rw [List.append_nil];exact hx)
   exact (List.append_eq_nil_iff.1 this.symm).1
  rw [e,List.append_nil] at k ih
  obtain ⟨r',fs',ws',g1,g2,g3⟩:=ih hno hf k2
  refine ⟨s :: r',f :: fs',none :: ws',.one (hf ▸ h) (by rw [e,List.append_nil];exact g1),by simpa using g2,by rw [g3];rfl⟩
theorem uy [Dr] {l1 l2 : List Oper} (f : Bool) (hl : l = l1 ++ l2) (h : VX true P tab im (ops.toList.map (·.dst)) l1 E (visH f F) fun E1 H1=>H1 = visH f F∧VT P tab im ops l2 E1 F W (fl ++ List.replicate l1.length f) K) : VT P tab im ops l E F W fl K:=fun E2 he=>by
 subst hl
 obtain ⟨r1,E1,H1,hr,E3,he3,hh,hv⟩:=vo (ops:=ops) _ _ _ (h E2 he)
 obtain ⟨r,fs,ws,E',F',k1,k2,E4,k3,k4⟩:=hv _ he3
 obtain ⟨r',fs',ws',g1,g2,g3⟩:=zjl (f:=f) hr hh rfl k1
 exact ⟨r',fs',ws',E',F',g1,by rw [g2];exact k2,E4,k3,by rw [g2,g3,← List.append_assoc];exact k4⟩
end
section
variable {z : Bool} {P : Program} {tab : Tab} {n lb : Nat} {E : Env} {H : Hp} {QT : Exit→Env→Hp→Prop}
theorem VC.drwTN [Dr] {id : Nat} {l l2 : List Oper} (hT : TabOk P tab) (im : List Nat) (l1 : List Oper) (fl : List Bool) (hl : l = l1 ++ l2) (hm : P.follows .mixedOrders = true) (hB : drawB n l1.length l = true) (hch : chainB l l1.length = true) (hlt : lateB l fl = true) (h : VT P tab im l.toArray l1 E H [] [] fun E H f=>f = fl∧VX false P tab im (l.map (·.dst)) l2 E H (QT .normal)) : VC z P n lb (.region id l.toArray true) QT E H:=by
 have e1 : l.take l1.length = l1:=by rw [hl,List.take_left]
 have e2 : l.drop l1.length = l2:=by rw [hl,List.drop_left]
 obtain ⟨r,fs,ws,E',F',h1,h2,E1,h3,h5,h4⟩:=h E (Sub.refl E)
 have h5' : fs = fl:=by simpa using h5
 refine zc3 (VC.drawT hT im l1.length hm hB hch ⟨r,fs,ws,E',F',by rw [e1];exact h1,by rw [h5'];exact hlt,by simpa using h2,?_⟩)
 rw [e2]
 have:=h4 E' h3
 simpa using this
theorem sa [Dr] {id : Nat} {l l2 : List Oper} {c : Code} (hT : TabOk P tab) (im : List Nat) (l1 : List Oper) (fl : List Bool) (hl : l = l1 ++ l2) (hm : P.follows .mixedOrders = true) (hB : drawB n l1.length l = true) (hch : chainB l l1.length = true) (hlt : lateB l fl = true) (h : VT P tab im l.toArray l1 E H [] [] fun E H f=>f = fl∧VX false P tab im (l.map (·.dst)) l2 E H fun E H=>VC z P n lb c QT E H) : VC z P n lb (.seq (.region id l.toArray true) c) QT E H:=zn (VC.drwTN hT im l1 fl hl hm hB hch hlt h)
end
end

section
open Go.RowKit
set_option maxRecDepth 100000
set_option maxHeartbeats 2000000
def keyO (code mods : Int) : Ot:=⟨2,1,0,[1048577,0,code,mods,0,0,0,0,5],[],[]⟩
theorem zdm (code mods : Int) : CallP Tryz.prog 11 [I64 code,I64 mods] (otT (keyO code mods)):=by
 refine CallP.intro2 z5 z5 ?_;refine CallT.intro zc Tryz.func11 rfl (by kernel_rfl) (Nat.le_of_ble_eq_true rfl) ?_;refine zf zc [] rfl ?_;refine yc rfl rfl ?_;refine zb ?_;refine zf zc [] rfl ?_;iterate 2 refine za rfl ?_
 refine yc rfl rfl ?_;refine za rfl ?_;refine zk rfl rfl rfl rfl rfl yh rfl ?_;refine zb ?_;refine zq ?_;exact ⟨trivial,_,rfl,Cv.agg xq⟩
theorem zf9 (e : Ed) : CallP Tryz.prog 12 [edT e] (strT e.c.bf.text):=by
 have hp:=yg e
 have hte:=ziq e.c.bf
 refine CallP.intro2 z5 z5 ?_;refine CallT.intro zc Tryz.func12 rfl (by kernel_rfl) (Nat.le_of_ble_eq_true rfl) ?_;refine zf zc [1] rfl ?_;refine ya rfl rfl ?_;refine za rfl ?_;refine zb ?_;refine zf zc [] rfl ?_;refine za rfl ?_;first | refine za rfl ?_ | refine zd rfl rfl zj ?_ | refine ze rfl rfl rfl zj ?_
 refine zi rfl rfl rfl (hte) ?_;refine za rfl ?_;refine zb ?_;refine zq ?_;exact ⟨trivial,_,rfl,Cv.eq rfl rfl⟩
theorem curs_p (e : Ed) : CallP Tryz.prog 13 [edT e] (I64 (e.c.cur : Nat)):=by
 have hp:=yg e
 refine CallP.intro2 z5 z5 ?_;refine CallT.intro zc Tryz.func13 rfl (by kernel_rfl) (Nat.le_of_ble_eq_true rfl) ?_;refine zf zc [1] rfl ?_;refine ya rfl rfl ?_;refine za rfl ?_;refine zb ?_;refine zf zc [] rfl ?_;iterate 2 refine za rfl ?_
 first | refine za rfl ?_ | refine zd rfl rfl zj ?_ | refine ze rfl rfl rfl zj ?_
 refine za rfl ?_;refine zb ?_;refine zq ?_;exact ⟨trivial,_,rfl,Cv.eq rfl rfl⟩
theorem zjz (e : Ed) : CallP Tryz.prog 21 [edT e] (.tup [I64 (e.c.lo : Nat),I64 (e.c.hi : Nat)]):=by
 have hp:=yg e
 have hsp:=zd3 e.c
 refine CallP.intro2 z5 z5 ?_;refine CallT.intro zc Tryz.func21 rfl (by kernel_rfl) (Nat.le_of_ble_eq_true rfl) ?_;refine zf zc [1] rfl ?_;refine ya rfl rfl ?_;iterate 2 refine za rfl ?_
 refine zb ?_;refine zf zc [] rfl ?_;refine za rfl ?_;first | refine za rfl ?_ | refine zd rfl rfl zj ?_ | refine ze rfl rfl rfl zj ?_
 refine zi rfl rfl rfl (hsp) ?_;iterate 4 refine za rfl ?_
 refine zb ?_;refine zq ?_;exact ⟨trivial,_,rfl,Cv.eq rfl rfl⟩
theorem zb0 (s : List UInt8) (hs : s.length≤100000) : CallP Tryz.prog 8 [strT s] (BL (rightB s)):=by
 refine CallP.intro2 z5 z5 ?_;refine CallT.intro zc Tryz.func8 rfl (by kernel_rfl) (Nat.le_of_ble_eq_true rfl) ?_;refine zf zc [] rfl ?_;refine za rfl ?_;refine zb ?_;refine zn ?_;refine zf zc [] rfl ?_;refine za rfl ?_;refine zb ?_;refine yf ?_;refine yy (σ:=Nat) (fun j=>s.length - j) (fun j=>j≤s.length∧rightB (s.take j) = true) (fun j=>[(3,I64 (j : Nat))]) (fun j=>[]) [0] rfl (0) ?_ ?_ ?_
 ·refine ⟨[],rfl,yo,yn,?_,?_⟩ <;> (repeat' first | exact trivial | exact ym | exact yq | exact yp rfl | refine yb ?_ ?_ | refine z4 rfl ?_ ?_ | refine zx ?_ ?_ | refine yk rfl ?_ | fail) <;> first | exact xd | (exact CvL.pure rfl)
 ·exact ⟨Nat.zero_le _,rfl⟩
 rintro j hj;refine zn ?_;refine zf zc [] rfl ?_;iterate 2 refine za rfl ?_
 refine za (t:=I64 (s.length : Nat)) rfl ?_;refine za rfl ?_;refine zb ?_;refine zm rfl (fun hc0=>?_) (fun hc0=>?_)
 ·(try simp only [zh] at hc0);obtain ⟨hj1,hj2⟩:=hj;have hat : s[j]? = some (s[j]?.getD 0):=(by rw [List.getElem?_eq_getElem (by omega)];rfl);have hnx : rightB (s.take (j + 1)) = (okB (s[j]?.getD 0)):=(by unfold rightB at *;rw [List.take_add_one,List.all_append,hj2,hat];simp)
  refine zo ?_;refine zn ?_;refine yf ?_;refine zf zc [] rfl ?_;iterate 2 refine za rfl ?_
  refine xw rfl rfl rfl rfl rfl hat ?_;iterate 2 refine za rfl ?_
  refine' zu (d:=25) [_,_,_,_,_,_,_,_,_,_,_] rfl ?_ rfl ?_
  rotate_left
  ·refine zt rfl rfl (fun hb4_4=>?_) (fun hb4_4=>?_)
   ·have ghb4_4:=hb4_4
    try simp only [zh,Bool.not_true,Bool.not_false] at ghb4_4
    refine za rfl ?_;refine zg rfl rfl hb4_4 ?_;refine za rfl ?_;refine zg rfl rfl hb4_4 ?_;refine xw rfl rfl rfl rfl rfl hat ?_;refine zg rfl rfl hb4_4 ?_;refine za rfl ?_;refine zg rfl rfl hb4_4 ?_;refine za rfl ?_;refine' zu (d:=24) [_,_,_,_,_] rfl ?_ rfl ?_
    rotate_left
    ·refine zt rfl rfl (fun hb4_9=>?_) (fun hb4_9=>?_)
     ·have ghb4_9:=hb4_9
      try simp only [zh,Bool.not_true,Bool.not_false] at ghb4_9
      refine za rfl ?_;refine zg rfl rfl hb4_9 ?_;refine za rfl ?_;refine zg rfl rfl hb4_9 ?_;refine xw rfl rfl rfl rfl rfl hat ?_;refine zg rfl rfl hb4_9 ?_;refine za rfl ?_;refine zg rfl rfl hb4_4 ?_;refine zr rfl (fun _=>rfl) ?_;exact zb ⟨rfl,rfl⟩
     ·refine zl rfl rfl hb4_9 ?_;iterate 2 refine zl rfl rfl hb4_9 ?_
      refine zg rfl rfl hb4_4 ?_;exact zr rfl (fun h=>absurd (h.symm.trans hb4_9) (by decide)) (zb ⟨rfl,rfl⟩)
    refine z3 rfl (fun _=>rfl) ?_;exact zb ⟨rfl,rfl⟩
   ·refine zl rfl rfl hb4_4 ?_;iterate 3 refine zl rfl rfl hb4_4 ?_
    iterate 4 refine re rfl rfl ?_
    refine zl rfl rfl hb4_4 ?_;exact z3 rfl (fun h=>absurd (h.symm.trans hb4_4) (by decide)) (zb ⟨rfl,rfl⟩)
  refine zb ?_;refine zm rfl (fun hc1=>?_) (fun hc1=>?_)
  ·(try simp only [zh] at hc1);have e1 : rightB s = false:=zad (i:=j) (by omega) (by unfold okB;simp;omega)
   refine zf zc [] rfl ?_;refine za rfl ?_;refine zb ?_;refine zq ?_;exact ⟨trivial,_,rfl,Cv.eq (by rw [e1];rfl) rfl⟩
  ·(try simp only [zh] at hc1);have e1 : rightB (s.take (j + 1)) = true:=(by rw [hnx];unfold okB;simp;omega)
   refine zo ?_;refine zw zc [] rfl ?_;refine za rfl ?_;first | refine zy rfl rfl (by omega) ?_ | refine za rfl ?_
   refine za rfl ?_;refine zb ?_;refine ⟨j + 1,by (try dsimp only);omega,?_,(by refine ⟨[],rfl,yo,yn,?_,?_⟩ <;> (repeat' first | exact trivial | exact ym | exact yq | exact yp rfl | refine yb ?_ ?_ | refine z4 rfl ?_ ?_ | refine zx ?_ ?_ | refine yk rfl ?_ | fail) <;> first | exact xd | (first | exact CvL.pure rfl | exact Cv.pure rfl))⟩
   exact ⟨by omega,e1⟩
 ·(try simp only [zh] at hc0);obtain ⟨hj1,hj2⟩:=hj;obtain rfl : j = s.length:=(by omega)
  refine yz ?_;refine zf zc [] rfl ?_;refine za rfl ?_;refine zb ?_;refine zq ?_;exact ⟨trivial,_,rfl,Cv.eq (by rw [List.take_length] at hj2;rw [hj2];rfl) rfl⟩
/- the example -/
def ex0 : Ed:=newEd 1048576 8 6 []
def ex1 : Ed:=(ex0.step (keyO 65 0)).1
def ex2 : Ed:=(ex1.step (keyO 66 0)).1
def exR : List Rq:=(ex1.step (keyO 66 0)).2
def exU : Ed:=(ex2.step (keyO 122 4)).1
theorem zbe (code mods : Int) (h1 : -4294967296≤code∧code≤4294967296) (h2 : -4294967296≤mods∧mods≤4294967296) : nOk (keyO code mods).n:=by
 intro v hv
 unfold keyO at hv
 simp only [List.mem_cons,List.mem_singleton,List.not_mem_nil,or_false] at hv
 rcases hv with h | h | h | h | h | h | h | h | h <;> omega
theorem ex_text : ex2.c.bf.text = [65,66]∧ex2.c.cur = 2∧exU.c.bf.text = [65]:=by refine ⟨?_,?_,?_⟩ <;> kernel_rfl
theorem ex_asks : exR = [⟨36,[1048577,1048578,0,5,1],[66,32],[]⟩,⟨30,[1048577,1048578],[],[4,5,4,1]⟩]:=by kernel_rfl
theorem zc0 : CallP Tryz.prog 7 [] (BL true):=by
 have w0 : ex0.W:=zhe (by omega) (by simp)
 have hnew:=zib 1 1048576 (by omega) 8 6 [] (by omega) (by omega) (by omega) (by simp) rfl
 obtain ⟨w1,c1,d1,-⟩ : ex1.W∧0≤ex1.cnt∧ex1.cnt≤ex0.cnt + 200∧_:=rm w0 (keyO 65 0) (by show (0 : Int)≤6;omega)
 obtain ⟨w2,c2,d2,-⟩ : ex2.W∧0≤ex2.cnt∧ex2.cnt≤ex1.cnt + 200∧_:=rm w1 (keyO 66 0) c1
 have hc0 : ex0.cnt = 6:=rfl
 have h1:=zbx ex0 (keyO 65 0) w0 (by omega) (zbe _ _ (by omega) (by omega)) (by simp [keyO])
 have h2:=zbx ex1 (keyO 66 0) w1 (by omega) (zbe _ _ (by omega) (by omega)) (by simp [keyO])
 have h3:=zbx ex2 (keyO 122 4) w2 (by omega) (zbe _ _ (by omega) (by omega)) (by simp [keyO])
 have k1:=zdm 65 0
 have k2:=zdm 66 0
 have k3:=zdm 122 4
 obtain ⟨t1,t2,t3⟩:=ex_text
 have t4:=ex_asks
 have hp0:=yg ex0
 change StepT ex0 _ (ex1,(ex0.step (keyO 65 0)).2) at h1
 change StepT ex1 _ (ex2,exR) at h2
 change StepT ex2 _ (exU,(ex2.step (keyO 122 4)).2) at h3
 change CallP _ _ _ (.tup [edT ex0,rqT (newR 1048576 8 6),I64 0]) at hnew
 rw [zde] at hnew
 have hnp:=ph 1048576 8 6
 rw [t4] at h2
 have hx2:=zf9 ex2
 have hxU:=zf9 exU
 have hcu:=curs_p ex2
 rw [t1] at hx2
 rw [t2] at hcu
 rw [t3] at hxU
 generalize (ex0.step (keyO 65 0)).2 = r1 at h1
 generalize (ex2.step (keyO 122 4)).2 = r3 at h3
 generalize newC 1048576 8 6 = nc at *
 have hr1:=zp cRq r1
 have hr3:=zp cRq r3
 have hp1:=yg ex1
 have hp2:=yg ex2
 have hpU:=yg exU
 clear w0 w1 w2 c1 c2 d1 d2 hc0 t1 t2 t3 t4
 generalize ex0 = e0 at *
 generalize ex1 = e1 at *
 generalize ex2 = e2 at *
 generalize exU = eU at *
 refine CallP.intro2 z5 z5 ?_;refine CallT.intro zc Tryz.func7 rfl (by kernel_rfl) (Nat.le_of_ble_eq_true rfl) ?_;refine zf zc [] rfl ?_;refine za rfl ?_;refine zb ?_;refine zf zc [] rfl ?_;refine zi rfl rfl rfl (hnew) ?_;iterate 4 refine za rfl ?_
 refine yc rfl rfl ?_;refine zk rfl rfl rfl rfl rfl yh rfl ?_;iterate 2 refine za rfl ?_
 refine zb ?_;refine xr ([(1,.ptr 0 0)]) ([.c (edC e0)]) [2,3] rfl (by refine ⟨[some 0],rfl,yo,yn,?_,?_⟩ <;> (repeat' first | exact trivial | exact ym | exact yq | exact yp rfl | refine yb ?_ ?_ | refine z4 rfl ?_ ?_ | refine zx ?_ ?_ | refine yk rfl ?_ | fail) <;> first | exact xd | (first | exact CvL.eq rfl (yg _) | exact Cv.pure (by simp only [T.pure,hnp]) | exact Cv.pure rfl)) ?_
 refine sa zc [] [_,_,_,_,_,_,_] [true,true,true,true,true,false,false] rfl yj yj yj yj ?_;refine uy true (l1:=[_,_,_,_,_]) rfl ?_;first | refine za rfl ?_ | refine zd rfl rfl zj ?_ | refine ze rfl rfl rfl zj ?_
 refine zi rfl rfl rfl (k1) ?_;refine zi rfl rfl rfl (h1) ?_;iterate 2 refine za rfl ?_
 refine zb ⟨rfl,?_⟩
 refine uy false (l1:=[_]) rfl ?_;refine za rfl ?_;refine zb ⟨rfl,?_⟩
 refine zc2 rfl rfl rfl rfl ?_;refine pz (⟨Nat.le_of_ble_eq_true rfl,rfl,trivial⟩) ⟨rfl,?_⟩
 refine zb ?_;refine xr ([(1,.ptr 0 0)]) ([.c (edC e1)]) [2,3] rfl (by refine ⟨[some 0],rfl,yo,yn,?_,?_⟩ <;> (repeat' first | exact trivial | exact ym | exact yq | exact yp rfl | refine yb ?_ ?_ | refine z4 rfl ?_ ?_ | refine zx ?_ ?_ | refine yk rfl ?_ | fail) <;> first | exact xd | (first | exact CvL.eq rfl (yg _) | exact Cv.pure (by simp only [T.pure,hnp]) | exact Cv.pure rfl)) ?_
 refine sa zc [] [_,_,_,_,_,_,_] [true,true,true,true,true,false,false] rfl yj yj yj yj ?_;refine uy true (l1:=[_,_,_,_,_]) rfl ?_;first | refine za rfl ?_ | refine zd rfl rfl zj ?_ | refine ze rfl rfl rfl zj ?_
 refine zi rfl rfl rfl (k2) ?_;refine zi rfl rfl rfl (h2) ?_;iterate 2 refine za rfl ?_
 refine zb ⟨rfl,?_⟩
 refine uy false (l1:=[_]) rfl ?_;refine za rfl ?_;refine zb ⟨rfl,?_⟩
 refine zc2 rfl rfl rfl rfl ?_;refine pz (⟨Nat.le_of_ble_eq_true rfl,rfl,trivial⟩) ⟨rfl,?_⟩
 refine za rfl ?_;refine zb ?_;refine xr ([(1,.ptr 0 0)]) ([.c (edC e2)]) [2,3,4] rfl (by refine ⟨[some 0],rfl,yo,yn,?_,?_⟩ <;> (repeat' first | exact trivial | exact ym | exact yq | exact yp rfl | refine yb ?_ ?_ | refine z4 rfl ?_ ?_ | refine zx ?_ ?_ | refine yk rfl ?_ | fail) <;> first | exact xd | (first | exact CvL.eq rfl (yg _) | exact Cv.pure (by simp only [T.pure,hnp]) | exact Cv.pure rfl)) ?_
 refine sb zc [] [_,_,_,_,_,_,_,_] (_) rfl yj yj yj (vb _) ?_;refine u5 (l1:=[_,_,_,_,_,_]) rfl ?_;first | refine za rfl ?_ | refine zd rfl rfl zj ?_ | refine ze rfl rfl rfl zj ?_
 refine zi rfl rfl rfl (k3) ?_;refine zi rfl rfl rfl (h3) ?_;iterate 3 refine za rfl ?_
 refine zb ?_;refine zas rfl ?_;refine rf rfl rfl rfl rfl ?_;refine qi (⟨rfl,Nat.le_of_ble_eq_true rfl,rfl,trivial⟩) ?_;refine za rfl ?_;refine zb ?_;refine xr ([(1,.ptr 0 0),(5,.ptr 1 0)]) ([.c (edC e2),.c (edC eU)]) [2,3,4] rfl (by refine ⟨[some 0,some 1],rfl,yo,yn,?_,?_⟩ <;> (repeat' first | exact trivial | exact ym | exact yq | exact yp rfl | refine yb ?_ ?_ | refine z4 rfl ?_ ?_ | refine zx ?_ ?_ | refine yk rfl ?_ | fail) <;> first | exact xd | (first | exact CvL.eq rfl (yg _) | exact Cv.pure (by simp only [T.pure,hnp]) | exact Cv.pure rfl)) ?_
 refine zf zc [] rfl ?_;iterate 3 refine za rfl ?_
 refine' zu (d:=36) [_,_,_,_] rfl ?_ rfl ?_
 rotate_left
 ·refine zt rfl rfl (fun hb5_2=>?_) (fun hb5_2=>?_)
  ·have ghb5_2:=hb5_2
   try simp only [zh,Bool.not_true,Bool.not_false] at ghb5_2
   refine za rfl ?_;refine zg rfl rfl hb5_2 ?_;refine za rfl ?_;refine zg rfl rfl hb5_2 ?_;refine za rfl ?_;refine z3 rfl (fun _=>rfl) ?_;exact zb ⟨rfl,rfl⟩
  ·refine zl rfl rfl hb5_2 ?_;refine zl rfl rfl hb5_2 ?_;exact z3 rfl (fun h=>absurd (h.symm.trans hb5_2) (by decide)) (zb ⟨rfl,rfl⟩)
 refine za rfl ?_;refine' zu (d:=41) [_,_,_,_] rfl ?_ rfl ?_
 rotate_left
 ·refine zt rfl rfl (fun hb5_7=>?_) (fun hb5_7=>?_)
  ·have ghb5_7:=hb5_7
   try simp only [zh,Bool.not_true,Bool.not_false] at ghb5_7
   first | refine za rfl ?_ | refine zd rfl rfl zj ?_ | refine ze rfl rfl rfl zj ?_
   refine zg rfl rfl hb5_7 ?_;refine zi rfl rfl rfl (hx2) ?_;refine zg rfl rfl hb5_7 ?_;refine za rfl ?_;refine z3 rfl (fun _=>rfl) ?_;exact zb ⟨rfl,rfl⟩
  ·refine zl rfl rfl hb5_7 ?_;refine zl rfl rfl hb5_7 ?_;exact z3 rfl (fun h=>absurd (h.symm.trans hb5_7) (by decide)) (zb ⟨rfl,rfl⟩)
 refine za rfl ?_;refine' zu (d:=46) [_,_,_,_] rfl ?_ rfl ?_
 rotate_left
 ·refine zt rfl rfl (fun hb5_12=>?_) (fun hb5_12=>?_)
  ·have ghb5_12:=hb5_12
   try simp only [zh,Bool.not_true,Bool.not_false] at ghb5_12
   first | refine za rfl ?_ | refine zd rfl rfl zj ?_ | refine ze rfl rfl rfl zj ?_
   refine zg rfl rfl hb5_12 ?_;refine zi rfl rfl rfl (hcu) ?_;refine zg rfl rfl hb5_12 ?_;refine za rfl ?_;refine z3 rfl (fun _=>rfl) ?_;exact zb ⟨rfl,rfl⟩
  ·refine zl rfl rfl hb5_12 ?_;refine zl rfl rfl hb5_12 ?_;exact z3 rfl (fun h=>absurd (h.symm.trans hb5_12) (by decide)) (zb ⟨rfl,rfl⟩)
 refine za rfl ?_;refine' zu (d:=51) [_,_,_,_] rfl ?_ rfl ?_
 rotate_left
 ·refine zt rfl rfl (fun hb5_17=>?_) (fun hb5_17=>?_)
  ·have ghb5_17:=hb5_17
   try simp only [zh,Bool.not_true,Bool.not_false] at ghb5_17
   refine za rfl ?_;refine zg rfl rfl hb5_17 ?_;refine za rfl ?_;refine zg rfl rfl hb5_17 ?_;refine za rfl ?_;refine z3 rfl (fun _=>rfl) ?_;exact zb ⟨rfl,rfl⟩
  ·refine zl rfl rfl hb5_17 ?_;refine zl rfl rfl hb5_17 ?_;exact z3 rfl (fun h=>absurd (h.symm.trans hb5_17) (by decide)) (zb ⟨rfl,rfl⟩)
 refine za rfl ?_;refine' zu (d:=58) [_,_,_,_,_,_] rfl ?_ rfl ?_
 rotate_left
 ·refine zt rfl rfl (fun hb5_22=>?_) (fun hb5_22=>?_)
  ·have ghb5_22:=hb5_22
   try simp only [zh,Bool.not_true,Bool.not_false] at ghb5_22
   refine za rfl ?_;refine zg rfl rfl hb5_22 ?_;first | refine z9 (m:=0) rfl rfl rfl rfl rfl rfl (by omega) ?_ | refine uu (m:=0) rfl rfl rfl rfl rfl rfl rfl (by omega) ?_ | refine za rfl ?_
   refine zg rfl rfl hb5_22 ?_;refine za rfl ?_;refine zg rfl rfl hb5_22 ?_;first | refine za rfl ?_ | refine zd rfl rfl zj ?_ | refine ze rfl rfl rfl zj ?_
   refine zg rfl rfl hb5_22 ?_;refine za rfl ?_;refine z3 rfl (fun _=>rfl) ?_;exact zb ⟨rfl,rfl⟩
  ·refine zl rfl rfl hb5_22 ?_;iterate 3 refine zl rfl rfl hb5_22 ?_
   exact z3 rfl (fun h=>absurd (h.symm.trans hb5_22) (by decide)) (zb ⟨rfl,rfl⟩)
 refine za rfl ?_;refine' zu (d:=66) [_,_,_,_,_,_,_] rfl ?_ rfl ?_
 rotate_left
 ·refine zt rfl rfl (fun hb5_29=>?_) (fun hb5_29=>?_)
  ·have ghb5_29:=hb5_29
   try simp only [zh,Bool.not_true,Bool.not_false] at ghb5_29
   refine za rfl ?_;refine zg rfl rfl hb5_29 ?_;first | refine z9 rfl rfl rfl rfl rfl rfl (by omega) ?_ | refine ut rfl rfl rfl rfl rfl rfl rfl (by omega) ?_ | refine ut rfl rfl rfl rfl rfl rfl au_z (by omega) ?_ | refine uu rfl rfl rfl rfl rfl rfl rfl (by omega) ?_ | refine z9 rfl rfl rfl rfl rfl au_z (by omega) ?_ | refine uu rfl rfl rfl rfl rfl rfl au_z (by omega) ?_ | refine za rfl ?_
   refine zg rfl rfl hb5_29 ?_;refine za rfl ?_;refine zg rfl rfl hb5_29 ?_;first | refine za rfl ?_ | refine zd rfl rfl zj ?_ | refine ze rfl rfl rfl zj ?_
   refine zg rfl rfl hb5_29 ?_;refine za rfl ?_;refine zg rfl rfl hb5_29 ?_;refine za rfl ?_;refine z3 rfl (fun _=>rfl) ?_;exact zb ⟨rfl,rfl⟩
  ·refine zl rfl rfl hb5_29 ?_;iterate 4 refine zl rfl rfl hb5_29 ?_
   exact z3 rfl (fun h=>absurd (h.symm.trans hb5_29) (by decide)) (zb ⟨rfl,rfl⟩)
 refine za rfl ?_;refine' zu (d:=75) [_,_,_,_,_,_,_,_] rfl ?_ rfl ?_
 rotate_left
 ·refine zt rfl rfl (fun hb5_37=>?_) (fun hb5_37=>?_)
  ·have ghb5_37:=hb5_37
   try simp only [zh,Bool.not_true,Bool.not_false] at ghb5_37
   refine za rfl ?_;refine zg rfl rfl hb5_37 ?_;first | refine z9 rfl rfl rfl rfl rfl rfl (by omega) ?_ | refine ut rfl rfl rfl rfl rfl rfl rfl (by omega) ?_ | refine ut rfl rfl rfl rfl rfl rfl au_z (by omega) ?_ | refine uu rfl rfl rfl rfl rfl rfl rfl (by omega) ?_ | refine z9 rfl rfl rfl rfl rfl au_z (by omega) ?_ | refine uu rfl rfl rfl rfl rfl rfl au_z (by omega) ?_ | refine za rfl ?_
   refine zg rfl rfl hb5_37 ?_;refine za rfl ?_;refine zg rfl rfl hb5_37 ?_;first | refine za rfl ?_ | refine zd rfl rfl zj ?_ | refine ze rfl rfl rfl zj ?_
   refine zg rfl rfl hb5_37 ?_;first | refine z9 (m:=0) rfl rfl rfl rfl rfl rfl (by omega) ?_ | refine uu (m:=0) rfl rfl rfl rfl rfl rfl rfl (by omega) ?_ | refine za rfl ?_
   refine zg rfl rfl hb5_37 ?_;first | refine za rfl ?_ | refine zd rfl rfl zj ?_ | refine ze rfl rfl rfl zj ?_
   refine zg rfl rfl hb5_37 ?_;refine za rfl ?_;refine z3 rfl (fun _=>rfl) ?_;exact zb ⟨rfl,rfl⟩
  ·refine zl rfl rfl hb5_37 ?_;iterate 5 refine zl rfl rfl hb5_37 ?_
   exact z3 rfl (fun h=>absurd (h.symm.trans hb5_37) (by decide)) (zb ⟨rfl,rfl⟩)
 refine za rfl ?_;refine' zu (d:=80) [_,_,_,_] rfl ?_ rfl ?_
 rotate_left
 ·refine zt rfl rfl (fun hb5_46=>?_) (fun hb5_46=>?_)
  ·have ghb5_46:=hb5_46
   try simp only [zh,Bool.not_true,Bool.not_false] at ghb5_46
   first | refine za rfl ?_ | refine zd rfl rfl zj ?_ | refine ze rfl rfl rfl zj ?_
   refine zg rfl rfl hb5_46 ?_;refine zi rfl rfl rfl (hxU) ?_;refine zg rfl rfl hb5_46 ?_;refine za rfl ?_;refine z3 rfl (fun _=>rfl) ?_;exact zb ⟨rfl,rfl⟩
  ·refine zl rfl rfl hb5_46 ?_;refine zl rfl rfl hb5_46 ?_;exact z3 rfl (fun h=>absurd (h.symm.trans hb5_46) (by decide)) (zb ⟨rfl,rfl⟩)
 refine za rfl ?_;refine zb ?_;refine zq ?_;exact ⟨trivial,_,rfl,Cv.eq (by first | rfl | (simp [*];done)) rfl⟩
end

section
open Go.RowKit
set_option maxRecDepth 100000
set_option maxHeartbeats 2000000
structure KE (e : Ed) (i : Nat) (c : Ec) : Prop where
 w : e.W
 m : e.made = true
 n : e.win = 1048577
 k : 0≤e.cnt∧e.cnt≤6 + 200 * i
 c : e.c = c
theorem zd2 (e : Ed) (hm : e.made = true) (hn : e.win = 1048577) (code mods : Int) : (e.step (keyO code mods)).1.c = e.c.key code (mods % 256)∧(e.step (keyO code mods)).1.made = true∧(e.step (keyO code mods)).1.win = 1048577:=by
 have h1 : ¬ (e.made = false∨wholeB (keyO code mods) = false):=by
  rintro (h | h)
  ·rw [hm] at h;cases h
  ·cases h
 have h2 : ¬ (keyO code mods).kind = 1:=by show ¬ (2 : Int) = 1;omega
 have h3 : ¬ (keyO code mods).n[0]!≠e.win:=by rw [hn];show ¬ (1048577 : Int)≠1048577;simp
 unfold Ed.step
 rw [if_neg h1,if_neg h2,if_neg h3]
 exact ⟨rfl,hm,hn⟩
theorem KE.step {e : Ed} {i : Nat} {c : Ec} (h : KE e i c) (code mods : Int) {c2 : Ec} (hc : c.key code (mods % 256) = c2) : KE (e.step (keyO code mods)).1 (i + 1) c2:=by
 obtain ⟨h1,h2,h3⟩:=zd2 e h.m h.n code mods
 obtain ⟨g1,g2,g3,-⟩:=rm h.w (keyO code mods) h.k.1
 have:=h.k
 exact ⟨g1,h2,h3,⟨g2,by omega⟩,by rw [h1,h.c,hc]⟩
theorem KE.stepT {e : Ed} {i : Nat} {c : Ec} (h : KE e i c) (hi : i≤100000) (code mods : Int) (h1 : -4294967296≤code∧code≤4294967296) (h2 : -4294967296≤mods∧mods≤4294967296) :
  CallP Tryz.prog 10 [edT e,otT (keyO code mods)] (.tup [edT (e.step (keyO code mods)).1,rqT (e.step (keyO code mods)).2]):=
 zbx e (keyO code mods) h.w ⟨h.k.1,by have:=h.k;omega⟩ (zbe code mods h1 h2) (by simp [keyO])
theorem key_ty (c : Ec) (b : UInt8) (h : okB b = true) : c.key (if b.toNat = 10 then 13 else (b.toNat : Int)) 0 = c.put [b]:=by
 by_cases h1 : b.toNat = 10
 ·rw [if_pos h1]
  obtain rfl : b = 10:=UInt8.toNat.inj h1
  rfl
 ·rw [if_neg h1]
  have h2 : 32≤b.toNat∧b.toNat≤126:=by unfold okB at h;simp [h1] at h;omega
  have hl : letN (b.toNat : Int) 0 = some b:=by
   unfold letN
   rw [if_neg (by omega),if_neg (by omega)]
   congr 1
   apply UInt8.toNat.inj
   rw [UInt8.toNat_ofNat']
   omega
  unfold Ec.key
  rw [if_neg (by omega),if_neg (by omega),hl]
end

section
open Go.RowKit
theorem zf0 {ts : List T} (h : Sh.str.wt ts) : ∃ l : List UInt8,ts = [strT l]∧l.length≤maxLen:=by
 obtain ⟨s,rfl,hs⟩:=h
 refine ⟨s.data.toList,?_,by rw [← Lib.size_eq];exact hs⟩
 show [T.v (.string s)] = [T.v (.string ⟨s.data.toList.toArray⟩)]
 rw [byt_eta]
end

section
open Go.RowKit
set_option maxRecDepth 100000
set_option maxHeartbeats 2000000
def cOt : Cd Ot:=⟨6,fun o=>otC o,fun _=>rfl,fun o=>x4 o,fun _=>rfl,by decide⟩
instance : Inhabited Ot:=⟨⟨0,0,0,[],[],[]⟩⟩
abbrev otsT (l : List Ot) : T:=.islc (encL cOt l) l.length none
def okV (v : Int) : Bool:=decide (-4294967296≤v) && decide (v≤4294967296)
def okO (o : Ot) : Bool:=decide (o.n.length≤30) && decide (o.l.length≤200) && decide (o.b.length≤200) && o.n.all okV
def shortB (l : List Ot) : Bool:=(l.take 60).all okO && decide (l.length≤60)
theorem zaa {l : List Ot} (h : shortB l = true) : l.length≤60:=by unfold shortB at h;simp at h;exact h.2
theorem zgo {l : List Ot} (h : shortB l = true) {i : Nat} (hi : i < l.length) : nOk l[i]!.n∧l[i]!.l.length≤200:=by
 have hl:=zaa h
 unfold shortB at h
 rw [List.take_of_length_le hl,Bool.and_eq_true] at h
 have h1:=List.all_eq_true.1 h.1 l[i]! (List.mem_iff_getElem?.2 ⟨i,getE hi⟩)
 unfold okO at h1
 simp only [Bool.and_eq_true,decide_eq_true_eq] at h1
 refine ⟨fun v hv=>?_,h1.1.1.2⟩
 have h2:=List.all_eq_true.1 h1.2 v hv
 unfold okV at h2
 simp only [Bool.and_eq_true,decide_eq_true_eq] at h2
 exact h2
theorem zd4 {l : List Ot} {i : Nat} (hi : i < l.length) (h6 : i < 60) (h : okO l[i]! = false) : shortB l = false:=by
 cases hs : shortB l with
 | false=>rfl
 | true=>
  unfold shortB at hs
  rw [Bool.and_eq_true] at hs
  have hm : l[i]!∈l.take 60:=List.mem_iff_getElem?.2 ⟨i,by rw [List.getElem?_take,if_pos h6];exact getE hi⟩
  rw [List.all_eq_true.1 hs.1 _ hm] at h
  cases h
theorem allV_no {n : List Int} {k : Nat} (hk : k < n.length) (h : okV n[k]! = false) : n.all okV = false:=by
 cases hs : n.all okV with
 | false=>rfl
 | true=>rw [List.all_eq_true.1 hs _ (List.mem_iff_getElem?.2 ⟨k,getE hk⟩)] at h;cases h
theorem zgn (l : List Ot) : CallP Tryz.prog 15 [otsT l] (BL (shortB l)):=by
 have hp:=zp cOt l
 have hT : (l.take 0).all okO = true:=by simp
 refine CallP.intro2 z5 z5 ?_;refine CallT.intro zc Tryz.func15 rfl (by kernel_rfl) (Nat.le_of_ble_eq_true rfl) ?_;refine zf zc [] rfl ?_;refine za rfl ?_;refine zb ?_;refine zn ?_;refine zf zc [] rfl ?_;refine za rfl ?_;refine zb ?_;refine yf ?_;refine yy (σ:=Nat) (fun i=>l.length - i) (fun i=>i≤l.length∧i≤60∧(l.take i).all okO = true) (fun i=>[(3,I64 (i : Nat))]) (fun i=>[]) [0] rfl (0) ?_ ?_ ?_
 ·refine ⟨[],rfl,yo,yn,?_,?_⟩ <;> (repeat' first | exact trivial | exact ym | exact yq | exact yp rfl | refine yb ?_ ?_ | refine z4 rfl ?_ ?_ | refine zx ?_ ?_ | refine yk rfl ?_ | fail) <;> first | exact xd | (first | exact CvL.pure rfl | exact Cv.pure (by simp only [T.pure,hp]))
 ·exact ⟨Nat.zero_le _,Nat.zero_le _,hT⟩
 rintro i hi;refine zn ?_;refine zf zc [] rfl ?_;iterate 5 refine za rfl ?_
 refine' zu (d:=12) [_,_,_] rfl ?_ rfl ?_
 rotate_left
 ·refine zt rfl rfl (fun hb2_4=>?_) (fun hb2_4=>?_)
  ·have ghb2_4:=hb2_4
   try simp only [zh,Bool.not_true,Bool.not_false] at ghb2_4
   refine za rfl ?_;refine zg rfl rfl hb2_4 ?_;refine za rfl ?_;refine z3 rfl (fun _=>rfl) ?_;exact zb ⟨rfl,rfl⟩
  ·refine zl rfl rfl hb2_4 ?_;exact z3 rfl (fun h=>absurd (h.symm.trans hb2_4) (by decide)) (zb ⟨rfl,rfl⟩)
 refine zb ?_;refine zm rfl (fun hc0=>?_) (fun hc0=>?_)
 ·(try simp only [zh] at hc0);obtain ⟨hi1,hi2,hi3⟩:=hi;have hil : i < l.length:=(by omega);have hi60 : i < 60:=(by omega);have hpo:=x4 l[i]!;have hat:=getE hil;have hpn:=zp cI l[i]!.n;have hpl:=zp cI l[i]!.l
  have hnx : (l.take (i + 1)).all okO = okO l[i]!:=(by rw [List.take_add_one,List.all_append,hi3,hat];simp)
  refine zo ?_;refine zn ?_;refine yf ?_;refine zn ?_;refine zf zc [] rfl ?_;iterate 2 refine za rfl ?_
  refine z9 (m:=i) rfl rfl rfl rfl rfl rfl hil ?_;refine za rfl ?_;refine zd rfl rfl (wx cOt (m:=i) (off:=3) (a:=l[i]!) hat (by decide) (by decide) rfl) ?_;iterate 3 refine za rfl ?_
  refine' zu (d:=30) [_,_,_,_,_,_,_,_] rfl ?_ rfl ?_
  rotate_left
  ·refine zt rfl rfl (fun hb4_7=>?_) (fun hb4_7=>?_)
   ·have ghb4_7:=hb4_7
    try simp only [zh,Bool.not_true,Bool.not_false] at ghb4_7
    refine za rfl ?_;refine zg rfl rfl hb4_7 ?_;refine za rfl ?_;refine zg rfl rfl hb4_7 ?_;refine z9 (m:=i) rfl rfl rfl rfl rfl rfl hil ?_;refine zg rfl rfl hb4_7 ?_;refine za rfl ?_;refine zg rfl rfl hb4_7 ?_;refine zd rfl rfl (wx cOt (m:=i) (off:=5) (a:=l[i]!) hat (by decide) (by decide) rfl) ?_;refine zg rfl rfl hb4_7 ?_;refine za rfl ?_;refine zg rfl rfl hb4_7 ?_;refine za rfl ?_;refine zr rfl (fun _=>rfl) ?_;exact zb ⟨rfl,rfl⟩
   ·refine zl rfl rfl hb4_7 ?_;iterate 5 refine zl rfl rfl hb4_7 ?_
    exact zr rfl (fun h=>absurd (h.symm.trans hb4_7) (by decide)) (zb ⟨rfl,rfl⟩)
  refine za rfl ?_;refine' zu (d:=39) [_,_,_,_,_,_,_,_] rfl ?_ rfl ?_
  rotate_left
  ·refine zt rfl rfl (fun hb4_16=>?_) (fun hb4_16=>?_)
   ·have ghb4_16:=hb4_16
    try simp only [zh,Bool.not_true,Bool.not_false] at ghb4_16
    refine za rfl ?_;refine zg rfl rfl hb4_16 ?_;refine za rfl ?_;refine zg rfl rfl hb4_16 ?_;refine z9 (m:=i) rfl rfl rfl rfl rfl rfl hil ?_;refine zg rfl rfl hb4_16 ?_;refine za rfl ?_;refine zg rfl rfl hb4_16 ?_;refine zd rfl rfl (wx cOt (m:=i) (off:=4) (a:=l[i]!) hat (by decide) (by decide) rfl) ?_;refine zg rfl rfl hb4_16 ?_;refine za (t:=I64 (l[i]!.b.length : Nat)) rfl ?_;refine zg rfl rfl hb4_16 ?_;refine za rfl ?_;refine zr rfl (fun _=>rfl) ?_;exact zb ⟨rfl,rfl⟩
   ·refine zl rfl rfl hb4_16 ?_;iterate 5 refine zl rfl rfl hb4_16 ?_
    exact zr rfl (fun h=>absurd (h.symm.trans hb4_16) (by decide)) (zb ⟨rfl,rfl⟩)
  refine zb ?_;refine zm rfl (fun hc1=>?_) (fun hc1=>?_)
  ·(try simp only [zh] at hc1);have e1 : shortB l = false:=zd4 hil hi60 (by unfold okO;rw [Bool.and_eq_false_iff];left;rw [Bool.and_eq_false_iff,Bool.and_eq_false_iff];simp only [decide_eq_false_iff_not];omega)
   refine zf zc [] rfl ?_;refine za rfl ?_;refine zb ?_;refine zq ?_;exact ⟨trivial,_,rfl,Cv.eq (by rw [e1];rfl) rfl⟩
  ·(try simp only [zh] at hc1);skip
   refine zo ?_;refine zf zc [] rfl ?_;refine za rfl ?_;refine zb ?_;refine yf ?_;refine yy (σ:=Nat) (fun k=>l[i]!.n.length - k) (fun k=>k≤l[i]!.n.length∧(l[i]!.n.take k).all okV = true) (fun k=>[(4,I64 (k : Nat))]) (fun k=>[]) [0,3] rfl (0) ?_ ?_ ?_
   ·refine ⟨[],rfl,yo,yn,?_,?_⟩ <;> (repeat' first | exact trivial | exact ym | exact yq | exact yp rfl | refine yb ?_ ?_ | refine z4 rfl ?_ ?_ | refine zx ?_ ?_ | refine yk rfl ?_ | fail) <;> first | exact xd | (first | exact CvL.pure rfl | exact Cv.pure (by simp only [T.pure,hp]))
   ·exact ⟨Nat.zero_le _,by simp⟩
   rintro k hk;refine zn ?_;refine zf zc [] rfl ?_;iterate 3 refine za rfl ?_
   refine z9 (m:=i) rfl rfl rfl rfl rfl rfl hil ?_;refine za rfl ?_;refine zd rfl rfl (wx cOt (m:=i) (off:=3) (a:=l[i]!) hat (by decide) (by decide) rfl) ?_;iterate 2 refine za rfl ?_
   refine zb ?_;refine zm rfl (fun hc2=>?_) (fun hc2=>?_)
   ·(try simp only [zh] at hc2);obtain ⟨hk1,hk2⟩:=hk;have hkl : k < l[i]!.n.length:=(by omega);have hkn : (l[i]!.n.take (k + 1)).all okV = okV l[i]!.n[k]!:=(by rw [List.take_add_one,List.all_append,hk2,getE hkl];simp)
    refine zo ?_;refine zn ?_;refine yf ?_;refine zf zc [] rfl ?_;iterate 2 refine za rfl ?_
    refine z9 (m:=i) rfl rfl rfl rfl rfl rfl hil ?_;refine za rfl ?_;refine zd rfl rfl (wx cOt (m:=i) (off:=3) (a:=l[i]!) hat (by decide) (by decide) rfl) ?_;refine za rfl ?_;refine z9 (m:=k) rfl rfl rfl rfl rfl rfl hkl ?_;refine zd rfl rfl (z6 cI (m:=k) (getE hkl) (by decide) rfl) ?_;iterate 2 refine za rfl ?_
    refine' zu (d:=69) [_,_,_,_,_,_,_,_,_,_] rfl ?_ rfl ?_
    rotate_left
    ·refine zt rfl rfl (fun hb9_9=>?_) (fun hb9_9=>?_)
     ·have ghb9_9:=hb9_9
      try simp only [zh,Bool.not_true,Bool.not_false] at ghb9_9
      refine za rfl ?_;refine zg rfl rfl hb9_9 ?_;refine za rfl ?_;refine zg rfl rfl hb9_9 ?_;refine z9 (m:=i) rfl rfl rfl rfl rfl rfl hil ?_;refine zg rfl rfl hb9_9 ?_;refine za rfl ?_;refine zg rfl rfl hb9_9 ?_;refine zd rfl rfl (wx cOt (m:=i) (off:=3) (a:=l[i]!) hat (by decide) (by decide) rfl) ?_;refine zg rfl rfl hb9_9 ?_;refine za rfl ?_;refine zg rfl rfl hb9_9 ?_;refine z9 (m:=k) rfl rfl rfl rfl rfl rfl hkl ?_;refine zg rfl rfl hb9_9 ?_;refine zd rfl rfl (z6 cI (m:=k) (getE hkl) (by decide) rfl) ?_;refine zg rfl rfl hb9_9 ?_;refine za rfl ?_;refine zr rfl (fun _=>rfl) ?_;exact zb ⟨rfl,rfl⟩
     ·refine zl rfl rfl hb9_9 ?_;iterate 7 refine zl rfl rfl hb9_9 ?_
      exact zr rfl (fun h=>absurd (h.symm.trans hb9_9) (by decide)) (zb ⟨rfl,rfl⟩)
    refine zb ?_;refine zm rfl (fun hc3=>?_) (fun hc3=>?_)
    ·(try simp only [zh] at hc3);have e1 : shortB l = false:=zd4 hil hi60 (by unfold okO;rw [Bool.and_eq_false_iff];right;exact allV_no hkl (by generalize l[i]!.n[k]! = v at hc3 ⊢;unfold okV;simp;omega))
     refine zf zc [] rfl ?_;refine za rfl ?_;refine zb ?_;refine zq ?_;exact ⟨trivial,_,rfl,Cv.eq (by rw [e1];rfl) rfl⟩
    ·(try simp only [zh] at hc3);have e2 : (l[i]!.n.take (k + 1)).all okV = true:=(by rw [hkn];generalize l[i]!.n[k]! = v at hc3 ⊢;unfold okV;simp;omega)
     refine zo ?_;refine zw zc [] rfl ?_;refine za rfl ?_;first | refine zy rfl rfl (by omega) ?_ | refine za rfl ?_
     refine za rfl ?_;refine zb ?_;refine ⟨k + 1,by (try dsimp only);omega,?_,(by refine ⟨[],rfl,yo,yn,?_,?_⟩ <;> (repeat' first | exact trivial | exact ym | exact yq | exact yp rfl | refine yb ?_ ?_ | refine z4 rfl ?_ ?_ | refine zx ?_ ?_ | refine yk rfl ?_ | fail) <;> first | exact xd | (first | exact CvL.pure rfl | exact Cv.pure rfl | exact Cv.pure (by simp only [T.pure,hp])))⟩
     exact ⟨by omega,e2⟩
   ·(try simp only [zh] at hc2);obtain ⟨hk1,hk2⟩:=hk;obtain rfl : k = l[i]!.n.length:=(by omega);rw [List.take_length] at hk2;have e3 : (l.take (i + 1)).all okO = true:=(by rw [hnx];unfold okO;rw [hk2,decide_eq_true (by omega),decide_eq_true (by omega),decide_eq_true (by omega)];rfl)
    refine yz ?_;refine zw zc [] rfl ?_;refine za rfl ?_;first | refine zy rfl rfl (by omega) ?_ | refine za rfl ?_
    refine za rfl ?_;refine zb ?_;refine ⟨i + 1,by (try dsimp only);omega,?_,(by refine ⟨[],rfl,yo,yn,?_,?_⟩ <;> (repeat' first | exact trivial | exact ym | exact yq | exact yp rfl | refine yb ?_ ?_ | refine z4 rfl ?_ ?_ | refine zx ?_ ?_ | refine yk rfl ?_ | fail) <;> first | exact xd | (first | exact CvL.pure rfl | exact Cv.pure rfl | exact Cv.pure (by simp only [T.pure,hp])))⟩
    exact ⟨by omega,by omega,e3⟩
 ·(try simp only [zh] at hc0);obtain ⟨hi1,hi2,hi3⟩:=hi;have e4 : shortB l = decide (l.length≤60):=(by unfold shortB;by_cases h6 : l.length≤60;(rw [List.take_of_length_le h6];have hil : i = l.length:=(by omega);rw [hil,List.take_length] at hi3;rw [hi3,Bool.true_and]);(have hil : i = 60:=(by omega);rw [hil] at hi3;rw [hi3,Bool.true_and]))
  refine yz ?_;refine zf zc [] rfl ?_;iterate 4 refine za rfl ?_
  refine zb ?_;refine zq ?_;exact ⟨trivial,_,rfl,Cv.eq (by rw [e4];show T.v (.bool (decide ((l.length : Int)≤60))) = _;congr 3;exact propext (by omega)) rfl⟩
end

section
open Go.RowKit
set_option maxRecDepth 100000
set_option maxHeartbeats 1000000
def begN (s : List UInt8) (k : Nat) : Nat:=k - colN (s.take k)
def endN (s : List UInt8) (k : Nat) : Nat:=match nlN (s.drop k) with | some i=>k + i | none=>s.length
theorem zc6 {s : List UInt8} {k : Nat} (h : k < s.length) : s.take (k + 1) = s.take k ++ [s[k]!]:=by
 rw [List.take_add_one,getE h];rfl
theorem zcy (s : List UInt8) : begN s 0 = 0:=by unfold begN;omega
theorem zdv {s : List UInt8} {k : Nat} (h : k < s.length) (he : s[k]! = 10) : begN s (k + 1) = k + 1:=by
 unfold begN
 rw [zc6 h,zbk,if_pos he]
 omega
theorem zdu {s : List UInt8} {k : Nat} (h : k < s.length) (he : s[k]!≠10) : begN s (k + 1) = begN s k:=by
 unfold begN
 rw [zc6 h,zbk,if_neg he]
 have:=zds (s.take k)
 rw [List.length_take] at this
 omega
theorem r7 (s : List UInt8) (k : Nat) : begN s k≤k:=by unfold begN;omega
theorem zbn (s : List UInt8) {k : Nat} (h : k≤s.length) : k - begN s k = (spotN s k).2:=by
 have:=zds (s.take k)
 rw [List.length_take] at this
 unfold begN spotN
 dsimp only
 omega
theorem px (s : List UInt8) : ∀ (k j : Nat),k≤s.length→begN s k≤j→j < k→s[j]!≠10
 | 0,j,_,_,h=>by omega
 | k + 1,j,hk,h1,h2=>by
  by_cases he : s[k]! = 10
  ·rw [zdv (by omega) he] at h1;omega
  ·rw [zdu (by omega) he] at h1
   rcases Nat.lt_or_ge j k with hj | hj
   ·exact px s k j (by omega) h1 hj
   ·obtain rfl : j = k:=by omega
    exact he
theorem zjv {s : List UInt8} {i : Nat} (h1 : i < s.length) (h2 : s[i]! = 10) (h3 : ∀ j,j < i→s[j]!≠10) : nlN s = some i:=by
 unfold nlN
 rw [List.findIdx?_eq_some_iff_getElem]
 refine ⟨h1,?_,fun j hj=>?_⟩
 ·rw [getElem!_pos s i h1] at h2
  simpa using h2
 ·have:=h3 j hj
  rw [getElem!_pos s j (by omega)] at this
  simpa using this
theorem r5 {s : List UInt8} {k j : Nat} (h : k + j < s.length) : (s.drop k)[j]! = s[k + j]!:=by
 rw [getElem!_pos (s.drop k) j (by rw [List.length_drop];omega),getElem!_pos s (k + j) h,List.getElem_drop]
theorem zcn {s : List UInt8} {k : Nat} (h : k < s.length) (he : s[k]!≠10) : endN s k = endN s (k + 1):=by
 unfold endN
 have hd : s.drop k = s[k]! :: s.drop (k + 1):=by rw [List.drop_eq_getElem_cons h,getElem!_pos s k h]
 rw [hd]
 unfold nlN
 rw [List.findIdx?_cons,if_neg (by simpa using he)]
 cases List.findIdx? (fun b=>b == (10 : UInt8)) (s.drop (k + 1)) with
 | none=>rfl
 | some i=>simp only [Option.map_some];omega
theorem zia {s : List UInt8} {k : Nat} (h : k < s.length) (he : s[k]! = 10) : endN s k = k:=by
 unfold endN
 have hd : s.drop k = s[k]! :: s.drop (k + 1):=by rw [List.drop_eq_getElem_cons h,getElem!_pos s k h]
 rw [hd]
 unfold nlN
 rw [List.findIdx?_cons,if_pos (by simpa using he)]
 rfl
theorem endN_len (s : List UInt8) : endN s s.length = s.length:=by
 unfold endN
 rw [List.drop_length]
 rfl
theorem endN_ok (s : List UInt8) {k : Nat} (hk : k≤s.length) : k≤endN s k∧endN s k≤s.length:=by
 unfold endN
 cases h : nlN (s.drop k) with
 | none=>exact ⟨hk,Nat.le_refl _⟩
 | some i=>have:=zah h;rw [List.length_drop] at this;dsimp only;omega
theorem zh9 (s : List UInt8) {k : Nat} (hk : k≤s.length) : endN s k < s.length↔(nlN (s.drop k)).isSome = true:=by
 unfold endN
 cases h : nlN (s.drop k) with
 | none=>simp
 | some i=>have:=zah h;rw [List.length_drop] at this;simp;omega
theorem zei (s : List UInt8) (n : Nat) : lnTo s n = endN s (lnFrom s n):=rfl
theorem zcs {s : List UInt8} {k : Nat} (h : k < s.length) : (s.take (k + 1)).count 10 = (s.take k).count 10 + (if s[k]! = 10 then 1 else 0):=by
 rw [zc6 h,List.count_append,List.count_singleton]
 congr 1
 by_cases he : s[k]! = 10
 ·rw [if_pos he,if_pos (by rw [he];rfl)]
 ·rw [if_neg he,if_neg (fun h=>he (eq_of_beq h))]
theorem zbg (s : List UInt8) : ∀ k,k≤s.length→lnFrom s ((s.take k).count 10) = begN s k
 | 0,_=>by rw [zcy];rfl
 | k + 1,hk=>by
  have ih:=zbg s k (by omega)
  by_cases he : s[k]! = 10
  ·rw [zcs (by omega),if_pos he,zdv (by omega) he]
   have hb:=r7 s k
   have hn : nlN (s.drop (begN s k)) = some (k - begN s k):=by
    refine zjv (by rw [List.length_drop];omega) ?_ fun j hj=>?_
    ·rw [r5 (s:=s) (k:=begN s k) (j:=k - begN s k) (by omega),show begN s k + (k - begN s k) = k by omega];exact he
    ·rw [r5 (s:=s) (k:=begN s k) (j:=j) (by omega)];exact px s k _ (by omega) (by omega) (by omega)
   generalize (s.take k).count 10 = c at *
   have e1 : lnFrom s (c + 1) = lnFrom s c + (k - begN s k) + 1:=by
    rw [← ih] at hn
    show (match nlN (s.drop (lnFrom s c)) with | some i=>lnFrom s c + i + 1 | none=>_) = _
    rw [hn,ih]
   rw [e1,ih]
   omega
  ·rw [zcs (by omega),if_neg he,Nat.add_zero,zdu (by omega) he,ih]
theorem end_from (s : List UInt8) {k : Nat} (hk : k≤s.length) : endN s (begN s k) = endN s k:=by
 have h : ∀ j,begN s k≤j→j≤k→endN s (begN s k) = endN s j:=by
  intro j
  induction j with
  | zero=>intro h1 h2;rw [show begN s k = 0 by omega]
  | succ j ih=>
   intro h1 h2
   rcases Nat.lt_or_ge j (begN s k) with hj | hj
   ·rw [show begN s k = j + 1 by omega]
   ·rw [ih hj (by omega)]
    exact zcn (by omega) (px s k j hk hj (by omega))
 exact h k (r7 s k) (Nat.le_refl _)
theorem qo (s : List UInt8) : ∀ n,n≤s.count 10→(s.take (lnFrom s n)).count 10 = n
 | 0,_=>by simp [lnFrom]
 | n + 1,h=>by
  have ih:=qo s n (by omega)
  have hle:=wu s n
  cases hn : nlN (s.drop (lnFrom s n)) with
  | none=>
   exfalso
   have h1 : (s.drop (lnFrom s n)).count 10 = 0:=by
    rw [List.count_eq_zero]
    intro hm
    unfold nlN at hn
    rw [List.findIdx?_eq_none_iff] at hn
    have:=hn 10 hm
    simp at this
   have h2 : s.count 10 = (s.take (lnFrom s n)).count 10 + (s.drop (lnFrom s n)).count 10:=by rw [← List.count_append,List.take_append_drop]
   omega
  | some i=>
   have hi:=zah hn
   rw [List.length_drop] at hi
   obtain ⟨h1,h2,h3⟩:=List.findIdx?_eq_some_iff_getElem.1 (show List.findIdx? (fun b=>b == (10 : UInt8)) (s.drop (lnFrom s n)) = some i from hn)
   have e1 : lnFrom s (n + 1) = lnFrom s n + i + 1:=by
    show (match nlN (s.drop (lnFrom s n)) with | some i=>lnFrom s n + i + 1 | none=>_) = _
    rw [hn]
   have h4 : ∀ j,j≤i→(s.take (lnFrom s n + j)).count 10 = n:=by
    intro j
    induction j with
    | zero=>intro _;exact ih
    | succ j ihj=>
     intro hj
     have h5:=h3 j (by omega)
     rw [show lnFrom s n + (j + 1) = lnFrom s n + j + 1 by omega,zcs (by omega),ihj (by omega),if_neg,Nat.add_zero]
     rw [← r5 (s:=s) (k:=lnFrom s n) (j:=j) (by omega),getElem!_pos _ j (by rw [List.length_drop];omega)]
     simpa using h5
   rw [e1,zcs (by omega),h4 i (Nat.le_refl _),if_pos]
   rw [← r5 (s:=s) (k:=lnFrom s n) (j:=i) (by omega),getElem!_pos _ i (by rw [List.length_drop];omega)]
   simpa using h2
theorem zch (s : List UInt8) {n : Nat} (h : n≤s.count 10) : n < s.count 10↔endN s (lnFrom s n) < s.length:=by
 rw [zh9 s (wu s n)]
 have hc:=qo s n h
 have h2 : s.count 10 = (s.take (lnFrom s n)).count 10 + (s.drop (lnFrom s n)).count 10:=by rw [← List.count_append,List.take_append_drop]
 rw [hc] at h2
 have h3 : (nlN (s.drop (lnFrom s n))).isSome = true↔0 < (s.drop (lnFrom s n)).count 10:=by
  rw [List.count_pos_iff]
  unfold nlN
  constructor
  ·intro hs
   obtain ⟨i,hi⟩:=Option.isSome_iff_exists.1 hs
   obtain ⟨h4,h5,-⟩:=List.findIdx?_eq_some_iff_getElem.1 hi
   have h6 : (s.drop (lnFrom s n))[i] = 10:=by simpa using h5
   rw [← h6]
   exact List.getElem_mem h4
  ·intro hm
   cases hf : List.findIdx? (fun b=>b == (10 : UInt8)) (s.drop (lnFrom s n)) with
   | some i=>rfl
   | none=>
    rw [List.findIdx?_eq_none_iff] at hf
    have:=hf 10 hm
    simp at this
 rw [h3]
 omega
theorem zhx (s : List UInt8) {n : Nat} (h : n < s.count 10) : lnFrom s (n + 1) = endN s (lnFrom s n) + 1:=by
 have h1:=(zch s (Nat.le_of_lt h)).1 h
 rw [zh9 s (wu s n)] at h1
 obtain ⟨i,hi⟩:=Option.isSome_iff_exists.1 h1
 show (match nlN (s.drop (lnFrom s n)) with | some i=>lnFrom s n + i + 1 | none=>_) = _
 unfold endN
 rw [hi]
end

section
open Go.RowKit
set_option maxRecDepth 100000
set_option maxHeartbeats 1000000
theorem w5 (a b : Int) : CallP Tryz.prog 66 [I64 a,I64 b] (I64 (min a b)):=by
 refine CallP.intro2 z5 z5 ?_;refine CallT.intro zc Tryz.func66 rfl (by kernel_rfl) (Nat.le_of_ble_eq_true rfl) ?_;refine zf zc [] rfl ?_;refine za rfl ?_;refine zb ?_;refine zn ?_;refine zf zc [] rfl ?_;iterate 3 refine za rfl ?_
 refine zb ?_;refine zm rfl (fun hc0=>?_) (fun hc0=>?_)
 ·(try simp only [zh] at hc0);rw [show min a b = a by omega]
  refine zf zc [] rfl ?_;iterate 2 refine za rfl ?_
  refine zb ?_;refine zq ?_;exact ⟨trivial,_,rfl,Cv.eq rfl rfl⟩
 ·(try simp only [zh] at hc0);rw [show min a b = b by omega]
  refine zo ?_;refine zf zc [] rfl ?_;iterate 2 refine za rfl ?_
  refine zb ?_;refine zq ?_;exact ⟨trivial,_,rfl,Cv.eq rfl rfl⟩
theorem w4 (a b : Int) : CallP Tryz.prog 67 [I64 a,I64 b] (I64 (max a b)):=by
 refine CallP.intro2 z5 z5 ?_;refine CallT.intro zc Tryz.func67 rfl (by kernel_rfl) (Nat.le_of_ble_eq_true rfl) ?_;refine zf zc [] rfl ?_;refine za rfl ?_;refine zb ?_;refine zn ?_;refine zf zc [] rfl ?_;iterate 3 refine za rfl ?_
 refine zb ?_;refine zm rfl (fun hc0=>?_) (fun hc0=>?_)
 ·(try simp only [zh] at hc0);rw [show max a b = a by omega]
  refine zf zc [] rfl ?_;iterate 2 refine za rfl ?_
  refine zb ?_;refine zq ?_;exact ⟨trivial,_,rfl,Cv.eq rfl rfl⟩
 ·(try simp only [zh] at hc0);rw [show max a b = b by omega]
  refine zo ?_;refine zf zc [] rfl ?_;iterate 2 refine za rfl ?_
  refine zb ?_;refine zq ?_;exact ⟨trivial,_,rfl,Cv.eq rfl rfl⟩
theorem qh {s : List UInt8} {k : Nat} (h : k < s.length) : s[k]? = some s[k]!:=getE h
theorem ne10 {b : UInt8} (h : ¬ (b.toNat : Int) = 10) : b≠10:=fun e=>h (by rw [e];rfl)
theorem eq10 {b : UInt8} (h : (b.toNat : Int) = 10) : b = 10:=UInt8.toNat.inj (by show _ = 10;omega)
theorem zdt (s : List UInt8) (k : Nat) (hk : k≤s.length) (hl : s.length≤100000) : CallP Tryz.prog 70 [strT s,I64 k] (I64 (begN s k : Nat)):=by
 refine CallP.intro2 z5 z5 ?_;refine CallT.intro zc Tryz.func70 rfl (by kernel_rfl) (Nat.le_of_ble_eq_true rfl) ?_;refine zf zc [] rfl ?_;refine za rfl ?_;refine zb ?_;refine zn ?_;refine yf ?_;refine yy (σ:=Nat) (fun j=>j) (fun j=>j≤k∧begN s j = begN s k) (fun j=>[(1,I64 (j : Nat))]) (fun j=>[]) [0] rfl (k) ?_ ?_ ?_
 ·refine ⟨[],rfl,yo,yn,?_,?_⟩ <;> (repeat' first | exact trivial | exact ym | exact yq | exact yp rfl | refine yb ?_ ?_ | refine z4 rfl ?_ ?_ | refine zx ?_ ?_ | refine yk rfl ?_ | fail) <;> first | exact xd | (exact CvL.pure rfl)
 ·exact ⟨Nat.le_refl _,rfl⟩
 rintro j ⟨hj,he⟩;refine zn ?_;refine zf zc [] rfl ?_;iterate 3 refine za rfl ?_
 refine' zu (d:=13) [_,_,_,_,_,_] rfl ?_ rfl ?_
 rotate_left
 ·refine zt rfl rfl (fun hb1_2=>?_) (fun hb1_2=>?_)
  ·have ghb1_2:=hb1_2
   try simp only [zh,Bool.not_true,Bool.not_false] at ghb1_2
   refine za rfl ?_;refine zg rfl rfl hb1_2 ?_;refine za rfl ?_;refine zg rfl rfl hb1_2 ?_;first | refine yu rfl rfl (by omega) ?_ | refine za rfl ?_
   refine zg rfl rfl hb1_2 ?_;refine xw rfl rfl rfl rfl (show ((j : Int) - 1) = ((j - 1 : Nat) : Int) by omega) (qh z8) ?_;refine zg rfl rfl hb1_2 ?_;refine za rfl ?_;refine z3 rfl (fun _=>rfl) ?_;exact zb ⟨rfl,rfl⟩
  ·refine zl rfl rfl hb1_2 ?_;iterate 3 refine zl rfl rfl hb1_2 ?_
   exact z3 rfl (fun h=>absurd (h.symm.trans hb1_2) (by decide)) (zb ⟨rfl,rfl⟩)
 refine zb ?_;refine zm rfl (fun hc0=>?_) (fun hc0=>?_)
 ·(try simp only [zh] at hc0);have e1 : begN s (j - 1) = begN s j:=(by have:=zdu (s:=s) (k:=j - 1) (by omega) (ne10 hc0.2);rw [show j - 1 + 1 = j by omega] at this;exact this.symm)
  refine zo ?_;refine yf ?_;refine zw zc [] rfl ?_;refine za rfl ?_;first | refine yu rfl rfl (by omega) ?_ | refine za rfl ?_
  refine za rfl ?_;refine zb ?_;refine ⟨j - 1,by (try dsimp only);omega,?_,(by refine ⟨[],rfl,yo,yn,?_,?_⟩ <;> (repeat' first | exact trivial | exact ym | exact yq | exact yp rfl | refine yb ?_ ?_ | refine z4 rfl ?_ ?_ | refine zx ?_ ?_ | refine yk rfl ?_ | fail) <;> first | exact xd | (first | exact CvL.pure rfl | exact Cv.eq (by congr 2;omega) rfl))⟩
  exact ⟨by omega,by rw [e1,he]⟩
 ·(try simp only [zh] at hc0);have e2 : begN s j = j:=(by rcases Nat.eq_zero_or_pos j with h | h;(subst h;exact zcy s);(have h1:=hc0 (by omega);have:=zdv (s:=s) (k:=j - 1) (by omega) (eq10 (by first | exact h1 | simpa using h1));rw [show j - 1 + 1 = j by omega] at this;exact this))
  refine yz ?_;refine zf zc [] rfl ?_;iterate 2 refine za rfl ?_
  refine zb ?_;refine zq ?_;exact ⟨trivial,_,rfl,Cv.eq (by rw [← he,e2]) rfl⟩
theorem zh8 (s : List UInt8) (k : Nat) (hk : k≤s.length) (hl : s.length≤100000) : CallP Tryz.prog 94 [strT s,I64 k] (I64 (endN s k : Nat)):=by
 refine CallP.intro2 z5 z5 ?_;refine CallT.intro zc Tryz.func94 rfl (by kernel_rfl) (Nat.le_of_ble_eq_true rfl) ?_;refine zf zc [] rfl ?_;refine za rfl ?_;refine zb ?_;refine zn ?_;refine yf ?_;refine yy (σ:=Nat) (fun j=>s.length - j) (fun j=>j≤s.length∧endN s j = endN s k) (fun j=>[(1,I64 (j : Nat))]) (fun j=>[]) [0] rfl (k) ?_ ?_ ?_
 ·refine ⟨[],rfl,yo,yn,?_,?_⟩ <;> (repeat' first | exact trivial | exact ym | exact yq | exact yp rfl | refine yb ?_ ?_ | refine z4 rfl ?_ ?_ | refine zx ?_ ?_ | refine yk rfl ?_ | fail) <;> first | exact xd | (exact CvL.pure rfl)
 ·exact ⟨hk,rfl⟩
 rintro j ⟨hj,he⟩;refine zn ?_;refine zf zc [] rfl ?_;iterate 2 refine za rfl ?_
 refine za (t:=I64 (s.length : Nat)) rfl ?_;iterate 2 refine za rfl ?_
 refine' zu (d:=14) [_,_,_,_,_] rfl ?_ rfl ?_
 rotate_left
 ·refine zt rfl rfl (fun hb1_4=>?_) (fun hb1_4=>?_)
  ·have ghb1_4:=hb1_4
   try simp only [zh,Bool.not_true,Bool.not_false] at ghb1_4
   refine za rfl ?_;refine zg rfl rfl hb1_4 ?_;refine za rfl ?_;refine zg rfl rfl hb1_4 ?_;refine xw rfl rfl rfl rfl rfl (qh z8) ?_;refine zg rfl rfl hb1_4 ?_;refine za rfl ?_;refine z3 rfl (fun _=>rfl) ?_;exact zb ⟨rfl,rfl⟩
  ·refine zl rfl rfl hb1_4 ?_;iterate 2 refine zl rfl rfl hb1_4 ?_
   exact z3 rfl (fun h=>absurd (h.symm.trans hb1_4) (by decide)) (zb ⟨rfl,rfl⟩)
 refine zb ?_;refine zm rfl (fun hc0=>?_) (fun hc0=>?_)
 ·(try simp only [zh] at hc0);have e1:=zcn (s:=s) (k:=j) (by omega) (ne10 hc0.2)
  refine zo ?_;refine yf ?_;refine zw zc [] rfl ?_;refine za rfl ?_;first | refine zy rfl rfl (by omega) ?_ | refine za rfl ?_
  refine za rfl ?_;refine zb ?_;refine ⟨j + 1,by (try dsimp only);omega,?_,(by refine ⟨[],rfl,yo,yn,?_,?_⟩ <;> (repeat' first | exact trivial | exact ym | exact yq | exact yp rfl | refine yb ?_ ?_ | refine z4 rfl ?_ ?_ | refine zx ?_ ?_ | refine yk rfl ?_ | fail) <;> first | exact xd | (first | exact CvL.pure rfl | exact Cv.eq (by congr 2;omega) rfl))⟩
  exact ⟨by omega,by rw [← e1,he]⟩
 ·(try simp only [zh] at hc0);have e2 : endN s j = j:=(by rcases Nat.lt_or_ge j s.length with h | h;(have h1:=hc0 (by omega);exact zia h (eq10 (by first | exact h1 | simpa using h1)));(obtain rfl : j = s.length:=(by omega);exact endN_len s))
  refine yz ?_;refine zf zc [] rfl ?_;iterate 2 refine za rfl ?_
  refine zb ?_;refine zq ?_;exact ⟨trivial,_,rfl,Cv.eq (by rw [← he,e2]) rfl⟩
theorem zba (s : List UInt8) (k : Nat) (hk : k≤s.length) (hl : s.length≤100000) : CallP Tryz.prog 69 [strT s,I64 k] (I64 ((s.take k).count 10 : Nat)):=by
 have hcl:=fun j=>List.count_le_length (a:=(10 : UInt8)) (l:=s.take j)
 refine CallP.intro2 z5 z5 ?_;refine CallT.intro zc Tryz.func69 rfl (by kernel_rfl) (Nat.le_of_ble_eq_true rfl) ?_;refine zf zc [] rfl ?_;refine za rfl ?_;refine zb ?_;refine zf zc [] rfl ?_;refine za rfl ?_;refine zb ?_;refine zn ?_;refine zf zc [] rfl ?_;refine za rfl ?_;refine zb ?_;refine yf ?_;refine yy (σ:=Nat) (fun j=>k - j) (fun j=>j≤k) (fun j=>[(6,I64 (j : Nat)),(5,I64 ((s.take j).count 10 : Nat))]) (fun j=>[]) [0,1] rfl (0) ?_ ?_ ?_
 ·refine ⟨[],rfl,yo,yn,?_,?_⟩ <;> (repeat' first | exact trivial | exact ym | exact yq | exact yp rfl | refine yb ?_ ?_ | refine z4 rfl ?_ ?_ | refine zx ?_ ?_ | refine yk rfl ?_ | fail) <;> first | exact xd | (first | exact CvL.pure rfl | exact Cv.eq (by simp) rfl)
 ·(try dsimp only);omega
 rintro j hj;refine zn ?_;refine zf zc [] rfl ?_;iterate 3 refine za rfl ?_
 refine zb ?_;refine zm rfl (fun hc0=>?_) (fun hc0=>?_)
 ·(try simp only [zh] at hc0);have hjs : j < s.length:=(by omega);have hcj:=hcl j;rw [List.length_take] at hcj;have hsn:=zcs hjs
  refine zo ?_;refine zn ?_;refine yf ?_;refine zf zc [] rfl ?_;iterate 2 refine za rfl ?_
  refine xw rfl rfl rfl rfl rfl (qh hjs) ?_;refine za rfl ?_;refine zb ?_;refine zm rfl (fun hc1=>?_) (fun hc1=>?_)
  ·(try simp only [zh] at hc1);rw [if_pos (eq10 hc1)] at hsn
   refine zw zc [] rfl ?_;refine za rfl ?_;first | refine zy rfl rfl (by omega) ?_ | refine za rfl ?_
   refine za rfl ?_;refine zb ?_;refine zw zc [] rfl ?_;refine za rfl ?_;first | refine zy rfl rfl (by omega) ?_ | refine za rfl ?_
   refine za rfl ?_;refine zb ?_;refine ⟨j + 1,by (try dsimp only);omega,?_,(by refine ⟨[],rfl,yo,yn,?_,?_⟩ <;> (repeat' first | exact trivial | exact ym | exact yq | exact yp rfl | refine yb ?_ ?_ | refine z4 rfl ?_ ?_ | refine zx ?_ ?_ | refine yk rfl ?_ | fail) <;> first | exact xd | (first | exact CvL.pure rfl | exact Cv.eq (by rw [hsn];rfl) rfl))⟩
   (try dsimp only);omega
  ·(try simp only [zh] at hc1);rw [if_neg (ne10 hc1)] at hsn
   refine zo ?_;refine zw zc [] rfl ?_;refine za rfl ?_;first | refine zy rfl rfl (by omega) ?_ | refine za rfl ?_
   refine za rfl ?_;refine zb ?_;refine ⟨j + 1,by (try dsimp only);omega,?_,(by refine ⟨[],rfl,yo,yn,?_,?_⟩ <;> (repeat' first | exact trivial | exact ym | exact yq | exact yp rfl | refine yb ?_ ?_ | refine z4 rfl ?_ ?_ | refine zx ?_ ?_ | refine yk rfl ?_ | fail) <;> first | exact xd | (first | exact CvL.pure rfl | exact Cv.eq (by rw [hsn];rfl) rfl))⟩
   (try dsimp only);omega
 ·(try simp only [zh] at hc0);obtain rfl : j = k:=(by omega)
  refine yz ?_;refine zf zc [] rfl ?_;iterate 2 refine za rfl ?_
  refine zb ?_;refine zq ?_;exact ⟨trivial,_,rfl,Cv.eq rfl rfl⟩
def staN (s : List UInt8) (n : Nat) : Int:=if n≤s.count 10 then (lnFrom s n : Int) else -1
theorem zc7 (s : List UInt8) (n : Nat) (hn : n≤100000) (hl : s.length≤100000) : CallP Tryz.prog 93 [strT s,I64 n] (I64 (staN s n)):=by
 have hle:=wu s
 refine CallP.intro2 z5 z5 ?_;refine CallT.intro zc Tryz.func93 rfl (by kernel_rfl) (Nat.le_of_ble_eq_true rfl) ?_;refine zf zc [] rfl ?_;refine za rfl ?_;refine zb ?_;refine zf zc [] rfl ?_;refine za rfl ?_;refine zb ?_;refine zn ?_;refine yf ?_;refine yy (σ:=Nat) (fun j=>n - j) (fun j=>j≤n∧j≤s.count 10) (fun j=>[(1,I64 ((n : Int) - j)),(5,I64 (lnFrom s j : Nat))]) (fun j=>[]) [0] rfl (0) ?_ ?_ ?_
 ·refine ⟨[],rfl,yo,yn,?_,?_⟩ <;> (repeat' first | exact trivial | exact ym | exact yq | exact yp rfl | refine yb ?_ ?_ | refine z4 rfl ?_ ?_ | refine zx ?_ ?_ | refine yk rfl ?_ | fail) <;> first | exact xd | (first | exact CvL.pure rfl | exact Cv.eq (by congr 2) rfl | exact Cv.eq (by congr 2;omega) rfl)
 ·exact ⟨Nat.zero_le _,Nat.zero_le _⟩
 rintro j ⟨hj,hc⟩;refine zn ?_;refine zf zc [] rfl ?_;iterate 2 refine za rfl ?_
 refine zb ?_;refine zm rfl (fun hc0=>?_) (fun hc0=>?_)
 ·(try simp only [zh] at hc0);have hjl:=hle j;have hen:=zh8 s (lnFrom s j) hjl hl;have hok:=endN_ok s hjl;have hmo:=zch s hc
  refine zo ?_;refine yf ?_;refine zf zc [] rfl ?_;iterate 2 refine za rfl ?_
  refine zi rfl rfl rfl (hen) ?_;refine za rfl ?_;refine zb ?_;refine zn ?_;refine zf zc [] rfl ?_;iterate 2 refine za rfl ?_
  refine za (t:=I64 (s.length : Nat)) rfl ?_;refine za rfl ?_;refine zb ?_;refine zm rfl (fun hc1=>?_) (fun hc1=>?_)
  ·(try simp only [zh] at hc1);have e1 : staN s n = -1:=(by unfold staN;rw [if_neg (by omega)])
   refine zf zc [] rfl ?_;refine za rfl ?_;refine zb ?_;refine zq ?_;exact ⟨trivial,_,rfl,Cv.eq (by rw [e1];rfl) rfl⟩
  ·(try simp only [zh] at hc1);have hlt : j < s.count 10:=(by rw [hmo];omega);have hnx:=zhx s hlt
   refine zo ?_;refine zf zc [] rfl ?_;refine za rfl ?_;first | refine zy rfl rfl (by omega) ?_ | refine za rfl ?_
   refine za rfl ?_;refine zb ?_;refine zw zc [] rfl ?_;refine za rfl ?_;first | refine yu rfl rfl (by omega) ?_ | refine za rfl ?_
   refine za rfl ?_;refine zb ?_;refine ⟨j + 1,by (try dsimp only);omega,?_,(by refine ⟨[],rfl,yo,yn,?_,?_⟩ <;> (repeat' first | exact trivial | exact ym | exact yq | exact yp rfl | refine yb ?_ ?_ | refine z4 rfl ?_ ?_ | refine zx ?_ ?_ | refine yk rfl ?_ | fail) <;> first | exact xd | (first | exact CvL.pure rfl | exact Cv.eq (by rw [hnx];rfl) rfl | exact Cv.eq (by congr 2;omega) rfl))⟩
   exact ⟨by omega,by omega⟩
 ·(try simp only [zh] at hc0);obtain rfl : j = n:=(by omega)
  refine yz ?_;refine zf zc [] rfl ?_;iterate 2 refine za rfl ?_
  refine zb ?_;refine zq ?_;exact ⟨trivial,_,rfl,Cv.eq (by unfold staN;rw [if_pos hc]) rfl⟩
theorem zax (s : List UInt8) (n c : Int) (hl : s.length≤4096) (hn : -100000≤n∧n≤2 ^ 40) (hc : -100000≤c∧c≤2 ^ 40) : CallP Tryz.prog 98 [strT s,I64 n,I64 c] (I64 (placeN s n c : Nat)):=by
 have hli:=zba s s.length (Nat.le_refl _) (by omega)
 rw [List.take_length] at hli
 have hcl:=List.count_le_length (a:=(10 : UInt8)) (l:=s)
 have hm1:=w4 n 0
 have hl1:=w5 (max n 0) (s.count 10 : Nat)
 have hcn:=s5 n (lnN s - 1)
 have e1 : min (max n 0) ((s.count 10 : Nat) : Int) = ((clampN n (lnN s - 1) : Nat) : Int):=by unfold clampN lnN;omega
 have hlc : lnN s - 1 = s.count 10:=by unfold lnN;omega
 rw [e1] at hl1
 unfold placeN
 rw [hlc] at hcn e1 hl1 ⊢
 generalize clampN n (s.count 10) = m at *
 have hst:=zc7 s m (by omega) (by omega)
 have e2 : staN s m = ((lnFrom s m : Nat) : Int):=by unfold staN;rw [if_pos hcn]
 rw [e2] at hst
 have hlo:=uk s m
 have hen:=zh8 s (lnFrom s m) (wu s m) (by omega)
 rw [← zei] at hen
 have hm2:=w4 c 0
 have hl2:=w5 (((lnFrom s m : Nat) : Int) + max c 0) ((lnTo s m : Nat) : Int)
 have e3 : min (((lnFrom s m : Nat) : Int) + max c 0) ((lnTo s m : Nat) : Int) = ((lnFrom s m + clampN c (lnTo s m - lnFrom s m) : Nat) : Int):=by unfold clampN;omega
 rw [e3] at hl2
 refine CallP.intro2 z5 z5 ?_;refine CallT.intro zc Tryz.func98 rfl (by kernel_rfl) (Nat.le_of_ble_eq_true rfl) ?_;refine zf zc [] rfl ?_;refine za rfl ?_;refine zb ?_;refine zf zc [] rfl ?_;refine za rfl ?_;refine zi rfl rfl rfl (hm1) ?_;iterate 2 refine za rfl ?_
 refine za (t:=I64 (s.length : Nat)) rfl ?_;refine zi rfl rfl rfl (hli) ?_;refine zi rfl rfl rfl (hl1) ?_;refine za rfl ?_;refine zb ?_;refine zf zc [] rfl ?_;iterate 2 refine za rfl ?_
 refine zi rfl rfl rfl (hst) ?_;refine za rfl ?_;refine zb ?_;refine zf zc [] rfl ?_;iterate 2 refine za rfl ?_
 refine zi rfl rfl rfl (hm2) ?_;first | refine zy rfl rfl (by omega) ?_ | refine za rfl ?_
 iterate 2 refine za rfl ?_
 refine zi rfl rfl rfl (hen) ?_;refine zi rfl rfl rfl (hl2) ?_;refine za rfl ?_;refine zb ?_;refine zq ?_;exact ⟨trivial,_,rfl,Cv.eq rfl rfl⟩
end

section
open Go.RowKit
set_option maxRecDepth 100000
set_option maxHeartbeats 1000000
/- the texts behind steps undone, done again -/
def pX : List BSt→List UInt8→List (List UInt8)
 | [],_=>[]
 | o :: l,t=>unT t o :: pX l (unT t o)
def fX : List BSt→List UInt8→List (List UInt8)
 | [],_=>[]
 | o :: l,t=>reT t o :: fX l (reT t o)
structure Rx where
 win : Int
 w : Int
 h : Int
 text : List UInt8
 past : List (List UInt8)
 again : List (List UInt8)
 cur : Nat
 anc : Nat
 top : Int
 left : Int
 cop : List UInt8
 cnt : Int
 asked : Int
abbrev txsT (l : List (List UInt8)) : T:=.islc (encL cStr l) l.length none
abbrev rxC (x : Rx) : List T:=[I64 x.win,I64 x.w,I64 x.h,strT x.text,txsT x.past,txsT x.again,I64 x.cur,I64 x.anc,I64 x.top,I64 x.left,strT x.cop,I64 x.cnt,I64 x.asked]
abbrev rxT (x : Rx) : T:=.agg (rxC x)
theorem yd (x : Rx) : T.pureL (rxC x) = true:=by simp only [T.pureL,T.pure,zp];rfl
def Ed.R (e : Ed) : Rx:=⟨e.win,e.w,e.h,e.c.bf.text,(pX e.c.bf.past.reverse e.c.bf.text).reverse,(fX e.c.bf.fut.reverse e.c.bf.text).reverse,e.c.cur,e.c.anc,e.top,e.left,e.c.cop,e.cnt,e.asked⟩
theorem padN_at (l : List UInt8) {n c : Nat} (h : c < n) : (padN l n)[c]? = some (if c < l.length then l[c]! else 32):=by
 unfold padN
 by_cases hl : c < l.length
 ·rw [if_pos hl,List.getElem?_append_left (by rw [List.length_take];omega),List.getElem?_take,if_pos h]
  exact getE hl
 ·rw [if_neg hl,List.getElem?_append_right (by rw [List.length_take];omega),List.length_take,List.getElem?_replicate,if_pos (by omega)]
theorem za9 (t : List UInt8) {n : Nat} (h : n≤t.count 10) : lineN t n = (t.take (lnTo t n)).drop (lnFrom t n):=by
 unfold lineN lnN
 rw [if_neg (by omega),Int.toNat_natCast]
theorem zb6 (t : List UInt8) {n : Nat} (h : n≤t.count 10) : placeN t n 0 = lnFrom t n:=by
 have h1 : clampN (n : Int) (lnN t - 1) = n:=by unfold clampN lnN;omega
 have h2 : ∀ m,clampN 0 m = 0:=fun m=>by unfold clampN;omega
 unfold placeN
 rw [h1,h2,Nat.add_zero]
theorem rowR_at (e : Ed) {y n c : Nat} (hn : e.top + y = n) (h : n≤e.c.bf.text.count 10) (hl : 0≤e.left) (hc : c < e.cols) :
  (e.look y).let8[c]? = some (if lnFrom e.c.bf.text n + e.left.toNat + c < lnTo e.c.bf.text n then e.c.bf.text[lnFrom e.c.bf.text n + e.left.toNat + c]! else 32):=by
 have hlo:=uk e.c.bf.text n
 have h1 : (e.look y).let8 = padN ((lineN e.c.bf.text n).drop e.left.toNat) e.cols:=by
  unfold Ed.look
  dsimp only
  rw [hn,if_neg (by unfold lnN;omega)]
 rw [h1,padN_at _ hc,za9 _ h]
 congr 1
 have hlen : (((e.c.bf.text.take (lnTo e.c.bf.text n)).drop (lnFrom e.c.bf.text n)).drop e.left.toNat).length = lnTo e.c.bf.text n - lnFrom e.c.bf.text n - e.left.toNat:=by
  rw [List.length_drop,List.length_drop,List.length_take];omega
 rw [hlen]
 by_cases hk : lnFrom e.c.bf.text n + e.left.toNat + c < lnTo e.c.bf.text n
 ·rw [if_pos (by omega),if_pos hk,r5 (by rw [List.length_drop,List.length_take];omega),r5 (by rw [List.length_take];omega)]
  rw [getElem!_pos _ _ (by rw [List.length_take];omega),List.getElem_take,getElem!_pos _ _ (by omega)]
  congr 1
  omega
 ·rw [if_neg (by omega),if_neg hk]
theorem zjp (e : Ed) {y n : Nat} (hn : e.top + y = n) (h : ¬ n≤e.c.bf.text.count 10) : e.look y = ⟨List.replicate e.cols 32,0,0,-1⟩:=by
 unfold Ed.look
 dsimp only
 rw [hn,if_pos (by unfold lnN;omega),za0]
theorem zav {l : List UInt8} {c : Nat} {b : UInt8} (h : l[c]? = some b) : l.take (c + 1) = l.take c ++ [b]:=by rw [List.take_add_one,h];rfl
theorem zff (e : Ed) (hw : e.W) (y n : Nat) (hn : e.top + y = n) (h : ¬ n≤e.c.bf.text.count 10) (hy : y≤100) : CallP Tryz.prog 59 [rxT e.R,I64 y] (lkT (e.look y)):=by
 have hpx:=yd e.R
 have hlen:=hw.len
 have h3:=hw.t
 have hs:=hw.s
 have hR:=hw.rows
 have hst:=zc7 e.c.bf.text n (by omega) (by omega)
 rw [show staN e.c.bf.text n = -1 from if_neg h] at hst
 rw [zjp e hn h]
 have e1 : e.w / 4 = ((e.cols : Nat) : Int):=by unfold Ed.cols;omega
 have hL : ∀ c,c < e.cols→(List.replicate e.cols (32 : UInt8))[c]? = some 32:=fun c hc=>by rw [List.getElem?_replicate,if_pos hc]
 have hLl : (List.replicate e.cols (32 : UInt8)).length = e.cols:=List.length_replicate ..
 generalize List.replicate e.cols (32 : UInt8) = L at *
 refine CallP.intro2 z5 z5 ?_;refine CallT.intro zc Tryz.func59 rfl (by kernel_rfl) (Nat.le_of_ble_eq_true rfl) ?_;refine zf zc [2] rfl ?_;refine ya rfl rfl ?_;refine yc rfl rfl ?_;refine zb ?_;refine zf zc [] rfl ?_;refine za rfl ?_;refine yc rfl rfl ?_;refine zk rfl rfl rfl rfl rfl yh rfl ?_;refine zb ?_;refine zf zc [] rfl ?_;refine za rfl ?_;first | refine za rfl ?_ | refine zd rfl rfl zj ?_ | refine ze rfl rfl rfl zj ?_
 refine yi rfl rfl (by show 0≤e.w;omega) (by show e.w≤_;omega) z8 ?_;rw [show e.R.w / 4 = e.w / 4 from rfl,e1]
 refine za rfl ?_;refine zb ?_;refine zf zc [] rfl ?_;refine za rfl ?_;first | refine za rfl ?_ | refine zd rfl rfl zj ?_ | refine ze rfl rfl rfl zj ?_
 refine za rfl ?_;refine zy (a:=e.top) (b:=(y : Int)) rfl rfl z8 ?_;rw [hn]
 refine za rfl ?_;refine zb ?_;refine zf zc [] rfl ?_;refine za rfl ?_;first | refine za rfl ?_ | refine zd rfl rfl zj ?_ | refine ze rfl rfl rfl zj ?_
 refine za rfl ?_;refine zi rfl rfl rfl (hst) ?_;refine za rfl ?_;refine zb ?_;refine zn ?_;refine zf zc [] rfl ?_;refine za rfl ?_;refine zb ?_;refine yf ?_;refine yy (σ:=Nat) (fun c=>e.cols - c) (fun c=>c≤e.cols) (fun c=>[(9,I64 (c : Nat)),(5,.ptr 1 0),(4,.ptr 0 0)]) (fun c=>[.c [strT [],I64 0,I64 0,I64 0],.c [strT (L.take c),I64 0,I64 0,I64 (-1)]]) [2,6,8] rfl (0) ?_ ?_ ?_
 ·refine ⟨[some 0,some 1],rfl,yo,yn,?_,?_⟩ <;> (repeat' first | exact trivial | exact ym | exact yq | exact yp rfl | refine yb ?_ ?_ | refine z4 rfl ?_ ?_ | refine zx ?_ ?_ | refine yk rfl ?_ | fail) <;> first | exact xd | (first | exact CvL.pure rfl | exact CvL.pure hpx | exact CvL.eq (by rw [List.take_zero];rfl) rfl)
 ·(try dsimp only);omega
 rintro c hc;refine zn ?_;refine zf zc [] rfl ?_;iterate 3 refine za rfl ?_
 refine zb ?_;refine zm rfl (fun hc0=>?_) (fun hc0=>?_)
 ·(try simp only [zh] at hc0);have hcl : c < e.cols:=(by omega);have hsn:=zav (hL c hcl)
  refine zo ?_;refine zn ?_;refine yf ?_;refine zf zc [] rfl ?_;refine za rfl ?_;refine zb ?_;refine zn ?_;refine yv zc [] [_,_,_,_,_,_,_,_,_,_,_,_,_,_,_,_] rfl yj yj ?_;iterate 3 refine za rfl ?_
  refine' zu (d:=47) [_,_,_,_,_,_,_,_,_,_,_,_,_] rfl ?_ rfl ?_
  rotate_left
  ·refine zt rfl rfl (fun hb9_2=>?_) (fun hb9_2=>?_)
   ·have ghb9_2:=hb9_2
    try simp only [zh,Bool.not_true,Bool.not_false] at ghb9_2
    refine za rfl ?_;refine zg rfl rfl hb9_2 ?_;refine za rfl ?_;refine zg rfl rfl hb9_2 ?_;first | refine za rfl ?_ | refine zd rfl rfl zj ?_ | refine ze rfl rfl rfl zj ?_
    refine zg rfl rfl hb9_2 ?_;first | refine zy rfl rfl (by omega) ?_ | refine za rfl ?_
    refine zg rfl rfl hb9_2 ?_;refine za rfl ?_;refine zg rfl rfl hb9_2 ?_;first | refine zy rfl rfl (by omega) ?_ | refine za rfl ?_
    refine zg rfl rfl hb9_2 ?_;refine za rfl ?_;refine zg rfl rfl hb9_2 ?_;first | refine za rfl ?_ | refine zd rfl rfl zj ?_ | refine ze rfl rfl rfl zj ?_
    refine zg rfl rfl hb9_2 ?_;refine za rfl ?_;refine zg rfl rfl hb9_2 ?_;refine zi rfl rfl rfl (w4 (-1) 0) ?_;refine zg rfl rfl hb9_2 ?_;refine zi rfl rfl rfl ((show CallP Tryz.prog 94 [strT e.c.bf.text,I64 (max (-1) 0)] (I64 (endN e.c.bf.text 0 : Nat)) from zh8 e.c.bf.text 0 (Nat.zero_le _) z8)) ?_;refine zg rfl rfl hb9_2 ?_;refine za rfl ?_;refine z3 rfl (fun _=>rfl) ?_;exact zb ⟨rfl,rfl⟩
   ·refine zl rfl rfl hb9_2 ?_;iterate 10 refine zl rfl rfl hb9_2 ?_
    exact z3 rfl (fun h=>absurd (h.symm.trans hb9_2) (by decide)) (zb ⟨rfl,rfl⟩)
  iterate 2 refine zb ?_
  refine zm rfl (fun hc1=>?_) (fun hc1=>?_)
  ·(try simp only [zh] at hc1);omega
  ·(try simp only [zh] at hc1)
   refine zo ?_;refine zw zc [60] rfl ?_;refine za rfl ?_;first | refine za rfl ?_ | refine zd rfl rfl zj ?_ | refine ze rfl rfl rfl zj ?_
   refine za rfl ?_;refine ya rfl rfl ?_;first | refine t9 (xs:=[32]) rfl rfl rfl rfl rfl rfl rfl (Nat.le_of_ble_eq_true rfl) rfl ?_ | refine vf (xs:=[32]) rfl rfl rfl rfl rfl rfl rfl rfl (Nat.le_of_ble_eq_true rfl) rfl ?_
   refine xo (a:=L.take c) (b:=[32]) rfl rfl (by rw [List.length_take,List.length_singleton];omega) ?_;refine za rfl ?_;refine zk rfl rfl rfl rfl rfl yh rfl ?_;refine zb ?_;refine zw zc [] rfl ?_;refine za rfl ?_;first | refine zy rfl rfl (by omega) ?_ | refine za rfl ?_
   refine za rfl ?_;refine zb ?_;refine ⟨c + 1,by (try dsimp only);omega,?_,(by refine ⟨[some 0,some 1],rfl,yo,yn,?_,?_⟩ <;> (repeat' first | exact trivial | exact ym | exact yq | exact yp rfl | refine yb ?_ ?_ | refine z4 rfl ?_ ?_ | refine zx ?_ ?_ | refine yk rfl ?_ | fail) <;> first | exact xd | (first | exact CvL.pure rfl | exact CvL.pure hpx | exact CvL.eq (by rw [hsn];rfl) rfl))⟩
   (try dsimp only);omega
 ·(try simp only [zh] at hc0);obtain rfl : c = e.cols:=(by omega);rw [List.take_of_length_le (by omega)]
  refine yz ?_;refine zn ?_;refine zf zc [] rfl ?_;iterate 2 refine za rfl ?_
  refine zb ?_;refine xi rfl ?_;refine zf zc [] rfl ?_;first | refine za rfl ?_ | refine zd rfl rfl zj ?_ | refine ze rfl rfl rfl zj ?_
  refine zk rfl rfl rfl rfl rfl yh rfl ?_;refine zb ?_;refine zq ?_;exact ⟨trivial,_,rfl,Cv.eq rfl rfl⟩
theorem zfe (e : Ed) (hw : e.W) (y n : Nat) (hn : e.top + y = n) (h : n≤e.c.bf.text.count 10) (hy : y≤100) : CallP Tryz.prog 59 [rxT e.R,I64 y] (lkT (e.look y)):=by
 have hpx:=yd e.R
 have hlen:=hw.len
 have h3:=hw.t
 have hs:=hw.s
 have hR:=hw.rows
 have hcu:=hw.o.cur
 have hst:=zc7 e.c.bf.text n (by omega) (by omega)
 rw [show staN e.c.bf.text n = (lnFrom e.c.bf.text n : Nat) from if_pos h] at hst
 have hlo:=uk e.c.bf.text n
 have hen : CallP Tryz.prog 94 [strT e.c.bf.text,I64 (lnFrom e.c.bf.text n : Nat)] (I64 (lnTo e.c.bf.text n : Nat)):=zh8 e.c.bf.text (lnFrom e.c.bf.text n) (wu _ _) (by omega)
 have hmo:=w4 ((lnFrom e.c.bf.text n : Nat) : Int) 0
 rw [show max ((lnFrom e.c.bf.text n : Nat) : Int) 0 = ((lnFrom e.c.bf.text n : Nat) : Int) by omega] at hmo
 have e1 : e.w / 4 = ((e.cols : Nat) : Int):=by unfold Ed.cols;omega
 have hL:=fun c hc=>rowR_at e (c:=c) hn h h3.2.2.1 hc
 have hLl:=e.look_len y
 have hbe:=zdt e.c.bf.text e.c.cur hcu.1 (by omega)
 have hfb:=zbg e.c.bf.text e.c.cur hcu.1
 have hcol:=zbn e.c.bf.text hcu.1
 have hbl:=r7 e.c.bf.text e.c.cur
 have hspc : (spotN e.c.bf.text e.c.cur).1 = (e.c.bf.text.take e.c.cur).count 10:=rfl
 have hcc : (e.c.bf.text.take e.c.cur).count 10≤e.c.bf.text.count 10:=(List.take_sublist _ _).count_le _
 have hinj : begN e.c.bf.text e.c.cur = lnFrom e.c.bf.text n↔(spotN e.c.bf.text e.c.cur).1 = n:=by
  rw [hspc,← hfb]
  constructor
  ·intro hh
   have h1:=qo e.c.bf.text _ hcc
   have h2:=qo e.c.bf.text n h
   rw [hh,h2] at h1
   exact h1.symm
  ·intro hh;rw [hh]
 have hll:=w5 (e.c.cur : Int) (e.c.anc : Int)
 have hhh:=w4 (e.c.cur : Int) (e.c.anc : Int)
 rw [show min (e.c.cur : Int) (e.c.anc : Int) = ((e.c.lo : Nat) : Int) by unfold Ec.lo;omega] at hll
 rw [show max (e.c.cur : Int) (e.c.anc : Int) = ((e.c.hi : Nat) : Int) by unfold Ec.hi;omega] at hhh
 have hlo2 : e.c.lo≤e.c.bf.text.length∧e.c.hi≤e.c.bf.text.length:=by unfold Ec.lo Ec.hi;omega
 have hlk : e.look y = ⟨(e.look y).let8,if max (max ((e.c.lo : Int) - lnFrom e.c.bf.text n) 0 - e.left) 0 < min (min ((e.c.hi : Int) - lnFrom e.c.bf.text n) ((lnTo e.c.bf.text n : Int) - lnFrom e.c.bf.text n + 1) - e.left) e.cols then max (max ((e.c.lo : Int) - lnFrom e.c.bf.text n) 0 - e.left) 0 else 0,
   if max (max ((e.c.lo : Int) - lnFrom e.c.bf.text n) 0 - e.left) 0 < min (min ((e.c.hi : Int) - lnFrom e.c.bf.text n) ((lnTo e.c.bf.text n : Int) - lnFrom e.c.bf.text n + 1) - e.left) e.cols then min (min ((e.c.hi : Int) - lnFrom e.c.bf.text n) ((lnTo e.c.bf.text n : Int) - lnFrom e.c.bf.text n + 1) - e.left) e.cols else 0,
   if begN e.c.bf.text e.c.cur = lnFrom e.c.bf.text n then (e.c.cur : Int) - lnFrom e.c.bf.text n - e.left else -1⟩:=by
  have hln : ((lineN e.c.bf.text (n : Int)).length : Int) + 1 = (lnTo e.c.bf.text n : Int) - lnFrom e.c.bf.text n + 1:=by rw [za9 _ h,List.length_drop,List.length_take];omega
  conv=>lhs;unfold Ed.look
  dsimp only
  rw [hn,if_neg (by unfold lnN;omega),zb6 _ h,hln]
  congr 1
  ·unfold Ed.look
   dsimp only
   rw [hn,if_neg (by unfold lnN;omega)]
  ·by_cases hq : begN e.c.bf.text e.c.cur = lnFrom e.c.bf.text n
   ·rw [if_pos hq,if_pos (by have:=hinj.1 hq;omega),← hq]
    omega
   ·rw [if_neg hq,if_neg (fun hh=>hq (hinj.2 (by omega)))]
 rw [hlk]
 generalize (e.look y).let8 = L at *
 clear hlk hinj hspc hfb hcc
 generalize hA : lnFrom e.c.bf.text n = a0 at *
 generalize hB : lnTo e.c.bf.text n = z0 at *
 refine CallP.intro2 z5 z5 ?_;refine CallT.intro zc Tryz.func59 rfl (by kernel_rfl) (Nat.le_of_ble_eq_true rfl) ?_;refine zf zc [2] rfl ?_;refine ya rfl rfl ?_;refine yc rfl rfl ?_;refine zb ?_;refine zf zc [] rfl ?_;refine za rfl ?_;refine yc rfl rfl ?_;refine zk rfl rfl rfl rfl rfl yh rfl ?_;refine zb ?_;refine zf zc [] rfl ?_;refine za rfl ?_;first | refine za rfl ?_ | refine zd rfl rfl zj ?_ | refine ze rfl rfl rfl zj ?_
 refine yi rfl rfl (by show 0≤e.w;omega) (by show e.w≤_;omega) z8 ?_;rw [show e.R.w / 4 = e.w / 4 from rfl,e1]
 refine za rfl ?_;refine zb ?_;refine zf zc [] rfl ?_;refine za rfl ?_;first | refine za rfl ?_ | refine zd rfl rfl zj ?_ | refine ze rfl rfl rfl zj ?_
 refine za rfl ?_;refine zy (a:=e.top) (b:=(y : Int)) rfl rfl z8 ?_;rw [hn]
 refine za rfl ?_;refine zb ?_;refine zf zc [] rfl ?_;refine za rfl ?_;first | refine za rfl ?_ | refine zd rfl rfl zj ?_ | refine ze rfl rfl rfl zj ?_
 refine za rfl ?_;refine zi rfl rfl rfl (hst) ?_;refine za rfl ?_;refine zb ?_;refine zn ?_;refine zf zc [] rfl ?_;refine za rfl ?_;refine zb ?_;refine yf ?_;refine yy (σ:=Nat) (fun c=>e.cols - c) (fun c=>c≤e.cols) (fun c=>[(9,I64 (c : Nat)),(5,.ptr 1 0),(4,.ptr 0 0)]) (fun c=>[.c [strT [],I64 0,I64 0,I64 0],.c [strT (L.take c),I64 0,I64 0,I64 (-1)]]) [2,6,8] rfl (0) ?_ ?_ ?_
 ·refine ⟨[some 0,some 1],rfl,yo,yn,?_,?_⟩ <;> (repeat' first | exact trivial | exact ym | exact yq | exact yp rfl | refine yb ?_ ?_ | refine z4 rfl ?_ ?_ | refine zx ?_ ?_ | refine yk rfl ?_ | fail) <;> first | exact xd | (first | exact CvL.pure rfl | exact CvL.pure hpx | exact CvL.eq (by rw [List.take_zero];rfl) rfl)
 ·(try dsimp only);omega
 rintro c hc;refine zn ?_;refine zf zc [] rfl ?_;iterate 3 refine za rfl ?_
 refine zb ?_;refine zm rfl (fun hc0=>?_) (fun hc0=>?_)
 ·(try simp only [zh] at hc0);have hcl : c < e.cols:=(by omega);have hLc:=hL c hcl
  refine zo ?_;refine zn ?_;refine yf ?_;refine zf zc [] rfl ?_;refine za rfl ?_;refine zb ?_;refine zn ?_;refine yv zc [] [_,_,_,_,_,_,_,_,_,_,_,_,_,_,_,_] rfl yj yj ?_;iterate 3 refine za rfl ?_
  refine' zu (d:=47) [_,_,_,_,_,_,_,_,_,_,_,_,_] rfl ?_ rfl ?_
  rotate_left
  ·refine zt rfl rfl (fun hb9_2=>?_) (fun hb9_2=>?_)
   ·have ghb9_2:=hb9_2
    try simp only [zh,Bool.not_true,Bool.not_false] at ghb9_2
    refine za rfl ?_;refine zg rfl rfl hb9_2 ?_;refine za rfl ?_;refine zg rfl rfl hb9_2 ?_;first | refine za rfl ?_ | refine zd rfl rfl zj ?_ | refine ze rfl rfl rfl zj ?_
    refine zg rfl rfl hb9_2 ?_;refine zy (a:=(a0 : Int)) (b:=e.left) rfl rfl z8 ?_;refine zg rfl rfl hb9_2 ?_;refine za rfl ?_;refine zg rfl rfl hb9_2 ?_;refine zy (a:=(a0 : Int) + e.left) (b:=(c : Int)) rfl rfl z8 ?_;refine zg rfl rfl hb9_2 ?_;refine za rfl ?_;refine zg rfl rfl hb9_2 ?_;first | refine za rfl ?_ | refine zd rfl rfl zj ?_ | refine ze rfl rfl rfl zj ?_
    refine zg rfl rfl hb9_2 ?_;refine za rfl ?_;refine zg rfl rfl hb9_2 ?_;refine zi rfl rfl rfl (hmo) ?_;refine zg rfl rfl hb9_2 ?_;refine zi rfl rfl rfl (hen) ?_;refine zg rfl rfl hb9_2 ?_;refine za rfl ?_;refine z3 rfl (fun _=>rfl) ?_;exact zb ⟨rfl,rfl⟩
   ·refine zl rfl rfl hb9_2 ?_;iterate 10 refine zl rfl rfl hb9_2 ?_
    exact z3 rfl (fun h=>absurd (h.symm.trans hb9_2) (by decide)) (zb ⟨rfl,rfl⟩)
  iterate 2 refine zb ?_
  refine zm rfl (fun hc1=>?_) (fun hc1=>?_)
  ·(try simp only [zh] at hc1);rw [if_pos (by omega)] at hLc;have hsn:=zav hLc;have hki : a0 + e.left.toNat + c < e.c.bf.text.length:=(by omega)
   generalize hb : e.c.bf.text[a0 + e.left.toNat + c]! = b at *
   have hat : e.c.bf.text[a0 + e.left.toNat + c]? = some b:=(by rw [← hb];exact getE hki)
   refine zw zc [] rfl ?_;refine za rfl ?_;first | refine za rfl ?_ | refine zd rfl rfl zj ?_ | refine ze rfl rfl rfl zj ?_
   iterate 2 refine za rfl ?_
   first | refine za rfl ?_ | refine zd rfl rfl zj ?_ | refine ze rfl rfl rfl zj ?_
   refine zy (a:=(a0 : Int)) (b:=e.left) rfl rfl z8 ?_;refine za rfl ?_;refine zy (a:=(a0 : Int) + e.left) (b:=(c : Int)) rfl rfl z8 ?_;refine xw rfl rfl rfl rfl (show ((a0 : Int) + e.left + (c : Int)) = ((a0 + e.left.toNat + c : Nat) : Int) by omega) hat ?_;refine za rfl ?_;refine zb ?_;refine zw zc [60] rfl ?_;refine za rfl ?_;first | refine za rfl ?_ | refine zd rfl rfl zj ?_ | refine ze rfl rfl rfl zj ?_
   refine za rfl ?_;refine ya rfl rfl ?_;first | refine t9 (xs:=[b]) rfl rfl rfl rfl rfl rfl rfl (Nat.le_of_ble_eq_true rfl) rfl ?_ | refine vf (xs:=[b]) rfl rfl rfl rfl rfl rfl rfl rfl (Nat.le_of_ble_eq_true rfl) rfl ?_ | refine t9 (xs:=[b]) rfl rfl rfl rfl rfl rfl rfl (Nat.le_of_ble_eq_true rfl) (by rw [hb];rfl) ?_ | refine vf (xs:=[b]) rfl rfl rfl rfl rfl rfl rfl rfl (Nat.le_of_ble_eq_true rfl) (by rw [hb];rfl) ?_
   refine xo (a:=L.take c) (b:=[b]) rfl rfl (by rw [List.length_take,List.length_singleton];omega) ?_;refine za rfl ?_;refine zk rfl rfl rfl rfl rfl yh rfl ?_;refine zb ?_;refine zw zc [] rfl ?_;refine za rfl ?_;first | refine zy rfl rfl (by omega) ?_ | refine za rfl ?_
   refine za rfl ?_;refine zb ?_;refine ⟨c + 1,by (try dsimp only);omega,?_,(by refine ⟨[some 0,some 1],rfl,yo,yn,?_,?_⟩ <;> (repeat' first | exact trivial | exact ym | exact yq | exact yp rfl | refine yb ?_ ?_ | refine z4 rfl ?_ ?_ | refine zx ?_ ?_ | refine yk rfl ?_ | fail) <;> first | exact xd | (first | exact CvL.pure rfl | exact CvL.pure hpx | exact CvL.eq (by rw [hsn];rfl) rfl))⟩
   (try dsimp only);omega
  ·(try simp only [zh] at hc1);rw [if_neg (by omega)] at hLc;have hsn:=zav hLc;obtain ⟨b,hb⟩ : ∃ b : UInt8,b = 32:=⟨32,rfl⟩;rw [← hb] at hsn
   refine zo ?_;refine zw zc [60] rfl ?_;refine za rfl ?_;first | refine za rfl ?_ | refine zd rfl rfl zj ?_ | refine ze rfl rfl rfl zj ?_
   refine za rfl ?_;refine ya rfl rfl ?_;first | refine t9 (xs:=[b]) rfl rfl rfl rfl rfl rfl rfl (Nat.le_of_ble_eq_true rfl) rfl ?_ | refine vf (xs:=[b]) rfl rfl rfl rfl rfl rfl rfl rfl (Nat.le_of_ble_eq_true rfl) rfl ?_ | refine t9 (xs:=[b]) rfl rfl rfl rfl rfl rfl rfl (Nat.le_of_ble_eq_true rfl) (by rw [hb];rfl) ?_ | refine vf (xs:=[b]) rfl rfl rfl rfl rfl rfl rfl rfl (Nat.le_of_ble_eq_true rfl) (by rw [hb];rfl) ?_
   refine xo (a:=L.take c) (b:=[b]) rfl rfl (by rw [List.length_take,List.length_singleton];omega) ?_;refine za rfl ?_;refine zk rfl rfl rfl rfl rfl yh rfl ?_;refine zb ?_;refine zw zc [] rfl ?_;refine za rfl ?_;first | refine zy rfl rfl (by omega) ?_ | refine za rfl ?_
   refine za rfl ?_;refine zb ?_;refine ⟨c + 1,by (try dsimp only);omega,?_,(by refine ⟨[some 0,some 1],rfl,yo,yn,?_,?_⟩ <;> (repeat' first | exact trivial | exact ym | exact yq | exact yp rfl | refine yb ?_ ?_ | refine z4 rfl ?_ ?_ | refine zx ?_ ?_ | refine yk rfl ?_ | fail) <;> first | exact xd | (first | exact CvL.pure rfl | exact CvL.pure hpx | exact CvL.eq (by rw [hsn];rfl) rfl))⟩
   (try dsimp only);omega
 ·(try simp only [zh] at hc0);obtain rfl : c = e.cols:=(by omega);rw [List.take_of_length_le (by omega)]
  refine yz ?_;refine zn ?_;refine zf zc [] rfl ?_;iterate 2 refine za rfl ?_
  refine zb ?_;refine zm rfl (fun hc2=>?_) (fun hc2=>?_)
  ·(try simp only [zh] at hc2);omega
  ·(try simp only [zh] at hc2)
   refine zo ?_;refine yv zc [] [_,_,_,_,_,_,_,_,_,_,_,_] rfl yj yj ?_;refine za rfl ?_;first | refine za rfl ?_ | refine zd rfl rfl zj ?_ | refine ze rfl rfl rfl zj ?_
   refine za rfl ?_;first | refine za rfl ?_ | refine zd rfl rfl zj ?_ | refine ze rfl rfl rfl zj ?_
   refine zi rfl rfl rfl (hll) ?_;refine za rfl ?_;first | refine za rfl ?_ | refine zd rfl rfl zj ?_ | refine ze rfl rfl rfl zj ?_
   refine za rfl ?_;first | refine za rfl ?_ | refine zd rfl rfl zj ?_ | refine ze rfl rfl rfl zj ?_
   refine zi rfl rfl rfl (hhh) ?_;iterate 2 refine za rfl ?_
   iterate 2 refine zb ?_
   refine yv zc [] [_,_,_,_,_,_,_,_,_] rfl yj yj ?_;iterate 2 refine za rfl ?_
   first | refine yu rfl rfl (by omega) ?_ | refine za rfl ?_
   refine zi rfl rfl rfl (w4 _ _) ?_;refine za rfl ?_;first | refine za rfl ?_ | refine zd rfl rfl zj ?_ | refine ze rfl rfl rfl zj ?_
   refine yu (a:=max ((e.c.lo : Int) - a0) 0) (b:=e.left) rfl rfl z8 ?_;refine zi rfl rfl rfl (w4 _ _) ?_;refine za rfl ?_;iterate 2 refine zb ?_
   refine yv zc [] [_,_,_,_,_,_,_,_,_,_,_,_,_,_,_,_,_] rfl yj yj ?_;iterate 2 refine za rfl ?_
   first | refine yu rfl rfl (by omega) ?_ | refine za rfl ?_
   refine za rfl ?_;first | refine za rfl ?_ | refine zd rfl rfl zj ?_ | refine ze rfl rfl rfl zj ?_
   refine za rfl ?_;refine zi rfl rfl rfl (hen) ?_;refine za rfl ?_;first | refine yu rfl rfl (by omega) ?_ | refine za rfl ?_
   first | refine zy rfl rfl (by omega) ?_ | refine za rfl ?_
   refine zi rfl rfl rfl (w5 _ _) ?_;refine za rfl ?_;first | refine za rfl ?_ | refine zd rfl rfl zj ?_ | refine ze rfl rfl rfl zj ?_
   refine yu (a:=min ((e.c.hi : Int) - a0) ((z0 : Int) - a0 + 1)) (b:=e.left) rfl rfl z8 ?_;refine za rfl ?_;refine zi rfl rfl rfl (w5 _ _) ?_;refine za rfl ?_;iterate 2 refine zb ?_
   refine zn ?_;refine zf zc [] rfl ?_;iterate 3 refine za rfl ?_
   refine zb ?_;refine zm rfl (fun hc3=>?_) (fun hc3=>?_)
   ·(try simp only [zh] at hc3);rw [if_pos hc3,if_pos hc3]
    refine zw zc [] rfl ?_;iterate 3 refine za rfl ?_
    refine zk rfl rfl rfl rfl rfl yh rfl ?_;refine za rfl ?_;refine zk rfl rfl rfl rfl rfl yh rfl ?_;refine zb ?_;refine zn ?_;refine zf zc [] rfl ?_;refine za rfl ?_;first | refine za rfl ?_ | refine zd rfl rfl zj ?_ | refine ze rfl rfl rfl zj ?_
    refine za rfl ?_;first | refine za rfl ?_ | refine zd rfl rfl zj ?_ | refine ze rfl rfl rfl zj ?_
    refine zi rfl rfl rfl (hbe) ?_;iterate 2 refine za rfl ?_
    refine zb ?_;refine zm rfl (fun hc4=>?_) (fun hc4=>?_)
    ·(try simp only [zh] at hc4);rw [if_pos (by omega)]
     refine zw zc [] rfl ?_;refine za rfl ?_;first | refine za rfl ?_ | refine zd rfl rfl zj ?_ | refine ze rfl rfl rfl zj ?_
     refine za rfl ?_;refine yu (a:=(e.c.cur : Int)) (b:=(a0 : Int)) rfl rfl z8 ?_;refine za rfl ?_;first | refine za rfl ?_ | refine zd rfl rfl zj ?_ | refine ze rfl rfl rfl zj ?_
     refine yu (a:=(e.c.cur : Int) - a0) (b:=e.left) rfl rfl z8 ?_;refine za rfl ?_;refine zk rfl rfl rfl rfl rfl yh rfl ?_;refine zb ?_;refine zf zc [] rfl ?_;first | refine za rfl ?_ | refine zd rfl rfl zj ?_ | refine ze rfl rfl rfl zj ?_
     refine zk rfl rfl rfl rfl rfl yh rfl ?_;refine zb ?_;refine zq ?_;exact ⟨trivial,_,rfl,Cv.eq rfl rfl⟩
    ·(try simp only [zh] at hc4);rw [if_neg (by omega)]
     refine zo ?_;refine zf zc [] rfl ?_;first | refine za rfl ?_ | refine zd rfl rfl zj ?_ | refine ze rfl rfl rfl zj ?_
     refine zk rfl rfl rfl rfl rfl yh rfl ?_;refine zb ?_;refine zq ?_;exact ⟨trivial,_,rfl,Cv.eq rfl rfl⟩
   ·(try simp only [zh] at hc3);rw [if_neg (by omega),if_neg (by omega)]
    refine zo ?_;refine zn ?_;refine zf zc [] rfl ?_;refine za rfl ?_;first | refine za rfl ?_ | refine zd rfl rfl zj ?_ | refine ze rfl rfl rfl zj ?_
    refine za rfl ?_;first | refine za rfl ?_ | refine zd rfl rfl zj ?_ | refine ze rfl rfl rfl zj ?_
    refine zi rfl rfl rfl (hbe) ?_;iterate 2 refine za rfl ?_
    refine zb ?_;refine zm rfl (fun hc4=>?_) (fun hc4=>?_)
    ·(try simp only [zh] at hc4);rw [if_pos (by omega)]
     refine zw zc [] rfl ?_;refine za rfl ?_;first | refine za rfl ?_ | refine zd rfl rfl zj ?_ | refine ze rfl rfl rfl zj ?_
     refine za rfl ?_;refine yu (a:=(e.c.cur : Int)) (b:=(a0 : Int)) rfl rfl z8 ?_;refine za rfl ?_;first | refine za rfl ?_ | refine zd rfl rfl zj ?_ | refine ze rfl rfl rfl zj ?_
     refine yu (a:=(e.c.cur : Int) - a0) (b:=e.left) rfl rfl z8 ?_;refine za rfl ?_;refine zk rfl rfl rfl rfl rfl yh rfl ?_;refine zb ?_;refine zf zc [] rfl ?_;first | refine za rfl ?_ | refine zd rfl rfl zj ?_ | refine ze rfl rfl rfl zj ?_
     refine zk rfl rfl rfl rfl rfl yh rfl ?_;refine zb ?_;refine zq ?_;exact ⟨trivial,_,rfl,Cv.eq rfl rfl⟩
    ·(try simp only [zh] at hc4);rw [if_neg (by omega)]
     refine zo ?_;refine zf zc [] rfl ?_;first | refine za rfl ?_ | refine zd rfl rfl zj ?_ | refine ze rfl rfl rfl zj ?_
     refine zk rfl rfl rfl rfl rfl yh rfl ?_;refine zb ?_;refine zq ?_;exact ⟨trivial,_,rfl,Cv.eq rfl rfl⟩
theorem zgw (e : Ed) (hw : e.W) (y : Nat) (hy : y≤100) : CallP Tryz.prog 59 [rxT e.R,I64 y] (lkT (e.look y)):=by
 have h3:=hw.t
 have hn : e.top + y = ((e.top + y).toNat : Int):=by omega
 by_cases h : (e.top + y).toNat≤e.c.bf.text.count 10
 ·exact zfe e hw y _ hn h hy
 ·exact zff e hw y _ hn h hy
end

section
open Go.RowKit
set_option maxRecDepth 100000
set_option maxHeartbeats 1000000
theorem td (e : Ed) (hw : e.W) : CallP Tryz.prog 32 [rxT e.R] (.islc (encL cLk (e.lk e.rows)) e.rows none):=by
 have hpx:=yd e.R
 have hs:=hw.s
 have hR:=hw.rows
 have hlk:=fun y (h : y≤100)=>zgw e hw y h
 have hpl:=zp cLk (e.lk e.rows)
 have e1 : e.h / 6 = ((e.rows : Nat) : Int):=by unfold Ed.rows;omega
 refine CallP.intro2 z5 z5 ?_;refine CallT.intro zc Tryz.func32 rfl (by kernel_rfl) (Nat.le_of_ble_eq_true rfl) ?_;refine zf zc [1] rfl ?_;refine ya rfl rfl ?_;refine za rfl ?_;refine zb ?_;refine zf zc [] rfl ?_;refine za rfl ?_;refine zb ?_;refine zn ?_;refine zf zc [] rfl ?_;refine za rfl ?_;refine zb ?_;refine yf ?_;refine yy (σ:=Nat) (fun i=>e.rows - i) (fun i=>i≤e.rows) (fun i=>[(4,I64 (i : Nat)),(3,.slc 0 0 i 4 none)]) (fun i=>[.c (encL cLk (e.lk i))]) [1] rfl (0) ?_ ?_ ?_
 ·refine ⟨[none],rfl,yo,yn,?_,?_⟩ <;> (repeat' first | exact trivial | exact ym | exact yq | exact yp rfl | refine yb ?_ ?_ | refine z4 rfl ?_ ?_ | refine zx ?_ ?_ | refine yk rfl ?_ | fail) <;> first | exact xd | (first | exact CvL.pure hpx | exact CvL.pure rfl)
 ·(try dsimp only);omega
 rintro i hi;refine zn ?_;refine zf zc [] rfl ?_;iterate 2 refine za rfl ?_
 first | refine za rfl ?_ | refine zd rfl rfl zj ?_ | refine ze rfl rfl rfl zj ?_
 refine yi rfl rfl (by show 0≤e.h;omega) (by show e.h≤_;omega) z8 ?_;rw [show e.R.h / 6 = e.h / 6 from rfl,e1]
 refine za rfl ?_;refine zb ?_;refine zm rfl (fun hc0=>?_) (fun hc0=>?_)
 ·(try simp only [zh] at hc0);have hx:=hlk i (by omega)
  refine zo ?_;refine zn ?_;refine yf ?_;refine zw zc [16] rfl ?_;refine za rfl ?_;first | refine za rfl ?_ | refine zd rfl rfl zj ?_ | refine ze rfl rfl rfl zj ?_
  refine za rfl ?_;refine zi rfl rfl rfl (hx) ?_;refine ya rfl rfl ?_;refine' yw rfl rfl rfl rfl rfl rfl rfl rfl ?h1 ?h2 ?h3 ?h4 ?h5 ?_
  case h1=>rw [ye,zex,Ed.lk_len];(try dsimp only);omega
  case h2=>exact Nat.le_trans (Nat.mul_le_mul_right _ (show _≤1000 by omega)) (by decide)
  case h3=>omega
  case h4=>rfl
  case h5=>rfl
  refine za rfl ?_;refine zb ?_;refine zw zc [] rfl ?_;refine za rfl ?_;first | refine zy rfl rfl (by omega) ?_ | refine za rfl ?_
  refine za rfl ?_;refine zb ?_;refine ⟨i + 1,by (try dsimp only);omega,?_,(by refine ⟨[some 1],rfl,yo,yn,?_,?_⟩ <;> (repeat' first | exact trivial | exact ym | exact yq | exact yp rfl | refine yb ?_ ?_ | refine z4 rfl ?_ ?_ | refine zx ?_ ?_ | refine yk rfl ?_ | fail) <;> first | exact xd | (first | exact CvL.pure hpx | exact CvL.pure rfl | exact Cv.slc rfl (.inl rfl) | exact CvL.eq (by rw [Ed.lk_succ,yr,List.drop_zero,List.take_of_length_le (by rw [ye,zex,Ed.lk_len];exact Nat.le_refl _)];rfl) (zp _ _)))⟩
  (try dsimp only);omega
 ·(try simp only [zh] at hc0);obtain rfl : i = e.rows:=(by omega)
  refine yz ?_;refine zf zc [] rfl ?_;iterate 2 refine za rfl ?_
  refine zb ?_;refine zq ?_;exact ⟨trivial,_,rfl,Cv.fslc0 ⟨rfl,by simp⟩ (CvL.pure hpl)⟩
theorem u0 (code : Int) (cs : List T) (n : Nat) (c : Option Nat) (ht : T.pureL cs = true) : CallP Tryz.prog 60 [I64 code,.islc cs n c] (.agg [I64 code,.islc cs n c,strT [],NIL]):=by
 refine CallP.intro2 z5 z5 ?_;refine CallT.intro zc Tryz.func60 rfl (by kernel_rfl) (Nat.le_of_ble_eq_true rfl) ?_;refine zf zc [] rfl ?_;refine yc rfl rfl ?_;refine zb ?_;refine zf zc [] rfl ?_;iterate 3 refine za rfl ?_
 refine zk rfl rfl rfl rfl rfl yh rfl ?_;refine zb ?_;refine zq ?_;exact ⟨trivial,_,rfl,Cv.eq rfl (by simp [T.pure,T.pureL,ht])⟩
theorem zcp (e : Ed) (hw : e.W) (hpen : e.pen = e.win + 1) (hwin : 0≤e.win∧e.win≤100000000) (y : Nat) (hy : y≤100) : CallP Tryz.prog 33 [rxT e.R,I64 y] (rqT (e.drawnR y (e.look y))):=by
 have hpx:=yd e.R
 have hlk:=zgw e hw y hy
 have hk:=zdh e y hw
 generalize e.look y = k at *
 unfold Ed.drawnR Ed.opR Ed.fillR
 rw [hpen]
 refine CallP.intro2 z5 z5 ?_;refine CallT.intro zc Tryz.func33 rfl (by kernel_rfl) (Nat.le_of_ble_eq_true rfl) ?_;refine zf zc [2] rfl ?_;refine ya rfl rfl ?_;refine za rfl ?_;refine zb ?_;refine zf zc [] rfl ?_;first | refine za rfl ?_ | refine zd rfl rfl zj ?_ | refine ze rfl rfl rfl zj ?_
 refine za rfl ?_;refine zi rfl rfl rfl (hlk) ?_;refine yc rfl rfl ?_;refine zk rfl rfl rfl rfl rfl yh rfl ?_;refine zb ?_;refine zf zc [] rfl ?_;refine za rfl ?_;first | refine za rfl ?_ | refine zd rfl rfl zj ?_ | refine ze rfl rfl rfl zj ?_
 refine zy (a:=e.win) (b:=1) rfl rfl z8 ?_;refine za rfl ?_;refine zb ?_;refine zf zc [] rfl ?_;refine za rfl ?_;first | refine za rfl ?_ | refine zd rfl rfl zj ?_ | refine ze rfl rfl rfl zj ?_
 iterate 2 refine za rfl ?_
 first | refine vv rfl rfl (by omega) ?_ | refine za rfl ?_
 first | refine zy rfl rfl (by omega) ?_ | refine za rfl ?_
 refine yc rfl rfl ?_;refine za rfl ?_;first | refine za rfl ?_ | refine zd rfl rfl zj ?_ | refine ze rfl rfl rfl zj ?_
 refine za rfl ?_;refine yc rfl rfl ?_;refine za rfl ?_;refine zb ?_;refine zn ?_;refine zf zc [] rfl ?_;refine za rfl ?_;first | refine za rfl ?_ | refine zd rfl rfl zj ?_ | refine ze rfl rfl rfl zj ?_
 refine za rfl ?_;first | refine za rfl ?_ | refine zd rfl rfl zj ?_ | refine ze rfl rfl rfl zj ?_
 refine za rfl ?_;refine zb ?_;refine zm rfl (fun hc0=>?_) (fun hc0=>?_)
 ·(try simp only [zh] at hc0);rw [if_pos hc0]
  refine u6 zc [32,52,54] [_,_,_,_,_,_,_,_,_,_,_,_,_,_,_,_,_,_,_,_,_,_,_,_,_] rfl yj yj ?_;iterate 2 refine za rfl ?_
  refine ya rfl rfl ?_;refine zi rfl rfl rfl (u0 20 _ _ _ rfl) ?_;refine za rfl ?_;first | refine za rfl ?_ | refine zd rfl rfl zj ?_ | refine ze rfl rfl rfl zj ?_
  refine za rfl ?_;refine yc rfl rfl ?_;refine za rfl ?_;first | refine za rfl ?_ | refine zd rfl rfl zj ?_ | refine ze rfl rfl rfl zj ?_
  first | refine vv rfl rfl (by omega) ?_ | refine za rfl ?_
  refine za rfl ?_;first | refine vv rfl rfl (by omega) ?_ | refine za rfl ?_
  refine za rfl ?_;first | refine za rfl ?_ | refine zd rfl rfl zj ?_ | refine ze rfl rfl rfl zj ?_
  refine za rfl ?_;first | refine za rfl ?_ | refine zd rfl rfl zj ?_ | refine ze rfl rfl rfl zj ?_
  first | refine yu rfl rfl (by omega) ?_ | refine za rfl ?_
  first | refine vv rfl rfl (by omega) ?_ | refine za rfl ?_
  refine yc rfl rfl ?_;iterate 2 refine za rfl ?_
  refine ya rfl rfl ?_;refine zi rfl rfl rfl (u0 20 _ _ _ rfl) ?_;refine ya rfl rfl ?_;refine zb ?_;first | refine xb rfl rfl rfl rfl rfl rfl yh yh yh ?_ | refine yw rfl rfl rfl rfl rfl rfl rfl rfl yh yh yh yh yh ?_
  refine za rfl ?_;refine zb ?_;refine zn ?_;refine zf zc [] rfl ?_;refine za rfl ?_;first | refine za rfl ?_ | refine zd rfl rfl zj ?_ | refine ze rfl rfl rfl zj ?_
  refine za rfl ?_;refine zb ?_;refine zm rfl (fun hc1=>?_) (fun hc1=>?_)
  ·(try simp only [zh] at hc1);rw [if_pos hc1]
   refine zw zc [72] rfl ?_;iterate 2 refine za rfl ?_
   first | refine za rfl ?_ | refine zd rfl rfl zj ?_ | refine ze rfl rfl rfl zj ?_
   refine za rfl ?_;refine yc rfl rfl ?_;refine za rfl ?_;first | refine za rfl ?_ | refine zd rfl rfl zj ?_ | refine ze rfl rfl rfl zj ?_
   first | refine vv rfl rfl (by omega) ?_ | refine za rfl ?_
   refine za rfl ?_;first | refine vv rfl rfl (by omega) ?_ | refine za rfl ?_
   first | refine zy rfl rfl (by omega) ?_ | refine za rfl ?_
   refine yc rfl rfl ?_;refine za rfl ?_;refine ya rfl rfl ?_;first | refine xb rfl rfl rfl rfl rfl rfl yh yh yh ?_ | refine yw rfl rfl rfl rfl rfl rfl rfl rfl yh yh yh yh yh ?_
   refine za rfl ?_;refine zb ?_;refine zf zc [] rfl ?_;iterate 2 refine za rfl ?_
   refine zb ?_;refine zq ?_;exact ⟨trivial,_,rfl,Cv.fslc0 ⟨rfl,by simp⟩ xq⟩
  ·(try simp only [zh] at hc1);rw [if_neg (by omega)]
   refine zo ?_;refine zf zc [] rfl ?_;iterate 2 refine za rfl ?_
   refine zb ?_;refine zq ?_;exact ⟨trivial,_,rfl,Cv.fslc0 ⟨rfl,by simp⟩ xq⟩
 ·(try simp only [zh] at hc0);rw [if_neg (by omega)]
  refine zo ?_;refine zn ?_;refine zf zc [] rfl ?_;refine za rfl ?_;first | refine za rfl ?_ | refine zd rfl rfl zj ?_ | refine ze rfl rfl rfl zj ?_
  refine za rfl ?_;refine zb ?_;refine zm rfl (fun hc1=>?_) (fun hc1=>?_)
  ·(try simp only [zh] at hc1);rw [if_pos hc1]
   refine zw zc [72] rfl ?_;iterate 2 refine za rfl ?_
   first | refine za rfl ?_ | refine zd rfl rfl zj ?_ | refine ze rfl rfl rfl zj ?_
   refine za rfl ?_;refine yc rfl rfl ?_;refine za rfl ?_;first | refine za rfl ?_ | refine zd rfl rfl zj ?_ | refine ze rfl rfl rfl zj ?_
   first | refine vv rfl rfl (by omega) ?_ | refine za rfl ?_
   refine za rfl ?_;first | refine vv rfl rfl (by omega) ?_ | refine za rfl ?_
   first | refine zy rfl rfl (by omega) ?_ | refine za rfl ?_
   refine yc rfl rfl ?_;refine za rfl ?_;refine ya rfl rfl ?_;first | refine xb rfl rfl rfl rfl rfl rfl yh yh yh ?_ | refine yw rfl rfl rfl rfl rfl rfl rfl rfl yh yh yh yh yh ?_
   refine za rfl ?_;refine zb ?_;refine zf zc [] rfl ?_;iterate 2 refine za rfl ?_
   refine zb ?_;refine zq ?_;exact ⟨trivial,_,rfl,Cv.fslc0 ⟨rfl,by simp⟩ xq⟩
  ·(try simp only [zh] at hc1);rw [if_neg (by omega)]
   refine zo ?_;refine zf zc [] rfl ?_;iterate 2 refine za rfl ?_
   refine zb ?_;refine zq ?_;exact ⟨trivial,_,rfl,Cv.fslc0 ⟨rfl,by simp⟩ xq⟩
theorem mAppS {tab : Tab} {H : Hp} {t1 t2 : Nat} {y : T} {i j : TyI} {e n2 b n z : Nat} {c : Option Nat} {cs ys : List T} (hT : tab t1 = some i) (hk : i.k = .sl e) (hj : tab e = some j) (hc : lookH H b = some cs) (hs : srcCells tab (lookH H) t2 j.sz y = some (ys,n2)) (hz : z = j.sz) (h1 : n * z = cs.length) (h2 : (n + n2) * j.by_≤2 ^ 47) (h3 : n + n2≤2 ^ 47) (h4 : n2 * j.sz = ys.length) (h5 : ys.all cellB = true) :
  mAppend tab H t1 t2 (.slc b 0 n z c) y = some (.slc H.length 0 (n + n2) z none,setH H b .d ++ [.c (cs ++ ys)]):=by
 simp only [mAppend,hT,hk,hj,hs,hc]
 rw [if_pos ⟨hz,by omega,h2,h3,h4,h5⟩,List.drop_zero,List.take_of_length_le (by omega)]
end

section
open Go.RowKit
set_option maxRecDepth 100000
set_option maxHeartbeats 1000000
def Rx.put (x : Rx) (s : List UInt8) : Rx:={ x with past:=if 256≤x.past.length then (x.past ++ [x.text]).drop 1 else x.past ++ [x.text],again:=[],text:=s }
abbrev rxCs (x : Rx) (p a : T) : List T:=[I64 x.win,I64 x.w,I64 x.h,strT x.text,p,a,I64 x.cur,I64 x.anc,I64 x.top,I64 x.left,strT x.cop,I64 x.cnt,I64 x.asked]
abbrev zRx : List T:=[I64 0,I64 0,I64 0,strT [],NIL,NIL,I64 0,I64 0,I64 0,I64 0,strT [],I64 0,I64 0]
theorem CvL.rx {v : Vw} {x : Rx} {p a p' a' : T} (hp : Cv v p p') (ha : Cv v a a') : CvL v (rxCs x p a) (rxCs x p' a'):=
 .cons (.pure rfl) <| .cons (.pure rfl) <| .cons (.pure rfl) <| .cons (.pure rfl) <| .cons hp <| .cons ha <| .cons (.pure rfl) <| .cons (.pure rfl) <| .cons (.pure rfl) <| .cons (.pure rfl) <| .cons (.pure rfl) <| .cons (.pure rfl) <| .cons (.pure rfl) .nil
theorem vg (l : List (List UInt8)) (n : Nat) (c : Option Nat) : (T.islc (encL cStr l) n c).pure = true:=by simp only [T.pure,zp]
theorem zg1 (x : Rx) (s : List UInt8) (hp : x.past.length≤256) : CallP Tryz.prog 68 [rxT x,strT s] (rxT (x.put s)):=by
 have hpx:=yd x
 have hpp:=zp cStr x.past
 have hpa:=zp cStr (x.past ++ [x.text])
 have hll : (encL cStr x.past).length = x.past.length:=by rw [ye,uo];omega
 have hlp : (x.past ++ [x.text]).length = x.past.length + 1:=by simp
 have hdr : encL cStr ((x.past ++ [x.text]).drop 1) = (encL cStr (x.past ++ [x.text])).drop 1:=(u4 cStr (x.past ++ [x.text]) 1).symm
 have hdt : T.islc ((encL cStr (x.past ++ [x.text])).drop (1 * 1)) ((x.past ++ [x.text]).length - 1) none = txsT ((x.past ++ [x.text]).drop 1):=by rw [← List.length_drop];exact congrArg (fun c=>T.islc c ((x.past ++ [x.text]).drop 1).length none) hdr.symm
 refine CallP.intro2 z5 z5 ?_;refine CallT.intro zc Tryz.func68 rfl (by kernel_rfl) (Nat.le_of_ble_eq_true rfl) ?_;refine zf zc [] rfl ?_;iterate 2 refine yc rfl rfl ?_
 refine zb ?_;refine sc zc [11] [_,_,_,_,_,_,_] ([.c (rxC x),.c zRx]) [true,false,false,true,false,false,false] rfl yj yj yj (by repeat' first | exact x5 | refine x8 ?_ | refine xe ?_) ?_;refine zi5 rfl rfl (by repeat' first | exact x5 | refine x8 ?_ | refine xe ?_) ?_;refine yx rfl ?_;first | refine yx rfl ?_ | refine VD.loadI rfl rfl zj ?_
 refine' zi6 rfl rfl (mAppS rfl rfl rfl rfl (tt cStr (l:=x.past) rfl rfl rfl rfl) rfl ?h1 ?h2 ?h3 ?h4 (wh _ _)) ?h9 ?_
 case h1=>rfl
 case h2=>exact Nat.le_trans (Nat.mul_le_mul_right _ (show _≤1000 by omega)) (by decide)
 case h3=>omega
 case h4=>rw [ye];rfl
 case h9=>exact xe (xe x5)
 refine yx rfl ?_;first | refine yx rfl ?_ | refine VD.loadI rfl rfl zj ?_
 refine zbu rfl ?_;refine qj ?_;refine' zdx rfl rfl (mAppS (ys:=encL cStr [x.text]) (n2:=1) rfl rfl rfl rfl ?h0 ?h5 ?h1 ?h2 ?h3 ?h4 (wh _ _)) ?_
 case h0=>exact tt cStr (l:=[x.text]) rfl rfl rfl rfl
 case h5=>rfl
 case h1=>rw [Nat.zero_add];exact (Nat.mul_one _).trans hll.symm
 case h2=>exact Nat.le_trans (Nat.mul_le_mul_right _ (show _≤1000 by omega)) (by decide)
 case h3=>omega
 case h4=>rfl
 refine za rfl ?_;refine zk rfl rfl rfl rfl rfl yh rfl ?_;refine zb ?_;refine zn ?_;refine zf zc [] rfl ?_;refine za rfl ?_;first | refine za rfl ?_ | refine zd rfl rfl zj ?_ | refine ze rfl rfl rfl zj ?_
 iterate 2 refine za rfl ?_
 refine zb ?_;refine xr ([(2,.ptr 0 0),(4,.ptr 1 0)]) ([.c (rxC { x with past:=x.past ++ [x.text] }),.c zRx]) [1,17] rfl (by refine ⟨[some 0,some 1],rfl,yo,yn,?_,?_⟩ <;> (repeat' first | exact trivial | exact ym | exact yq | exact yp rfl | refine yb ?_ ?_ | refine z4 rfl ?_ ?_ | refine zx ?_ ?_ | refine yk rfl ?_ | fail) <;> first | exact xd | (first | exact CvL.pure rfl | exact CvL.rx (x:=x) (Cv.fslcE (by simp) ⟨rfl,by show (some 4 : Option Nat)∉[some 0,some 1];decide⟩ (CvL.eq (by rw [yr];rfl) (zp _ _))) (Cv.pure (vg _ _ _)))) ?_
 refine zm rfl (fun hc0=>?_) (fun hc0=>?_)
 ·(try simp only [zh] at hc0);rw [show x.put s = { x with past:=(x.past ++ [x.text]).drop 1,again:=[],text:=s } by unfold Rx.put;rw [if_pos (by have:=hlp;omega)]]
  refine zw zc [] rfl ?_;refine za rfl ?_;first | refine za rfl ?_ | refine zd rfl rfl zj ?_ | refine ze rfl rfl rfl zj ?_
  refine ze3 (p:=1) rfl rfl rfl rfl rfl rfl (by rw [hlp];omega) ?_;refine za rfl ?_;refine zk rfl rfl rfl rfl rfl yh rfl ?_;refine zb ?_;refine zf zc [] rfl ?_;refine za rfl ?_;refine zk rfl rfl rfl rfl rfl yh rfl ?_;refine zb ?_;refine zf zc [] rfl ?_;iterate 2 refine za rfl ?_
  refine zk rfl rfl rfl rfl rfl yh rfl ?_;refine zb ?_;refine zf zc [] rfl ?_;first | refine za rfl ?_ | refine zd rfl rfl zj ?_ | refine ze rfl rfl rfl zj ?_
  refine zk rfl rfl rfl rfl rfl yh rfl ?_;refine zb ?_;refine zq ?_;exact ⟨trivial,_,rfl,Cv.agg (CvL.rx (x:={ x with text:=s }) (Cv.eq (by first | rfl | exact hdt) (vg _ _ _)) (Cv.nil _ (.inl rfl)))⟩
 ·(try simp only [zh] at hc0);rw [show x.put s = { x with past:=x.past ++ [x.text],again:=[],text:=s } by unfold Rx.put;rw [if_neg (by have:=hlp;omega)]]
  refine zo ?_;refine zf zc [] rfl ?_;refine za rfl ?_;refine zk rfl rfl rfl rfl rfl yh rfl ?_;refine zb ?_;refine zf zc [] rfl ?_;iterate 2 refine za rfl ?_
  refine zk rfl rfl rfl rfl rfl yh rfl ?_;refine zb ?_;refine zf zc [] rfl ?_;first | refine za rfl ?_ | refine zd rfl rfl zj ?_ | refine ze rfl rfl rfl zj ?_
  refine zk rfl rfl rfl rfl rfl yh rfl ?_;refine zb ?_;refine zq ?_;exact ⟨trivial,_,rfl,Cv.agg (CvL.rx (x:={ x with text:=s }) (Cv.eq (by first | rfl | exact hdt) (vg _ _ _)) (Cv.nil _ (.inl rfl)))⟩
end
end Go.Proofs.YtofmninnienjhaaGreatDoor
