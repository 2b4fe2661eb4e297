/-
  The proof's lemmas, part 3.
-/
import Derived.Test.YtjnomaiejmgedaaDoorMkhb
import Derived.Test.YtjnomaiejmgedaaDoorProg
import Derived.KernelRfl
import Derived.Test.YtjnomaiejmgedaaDoorShelfC
namespace Go.Proofs.YtjnomaiejmgedaaDoor
set_option linter.unusedSimpArgs false
set_option linter.unusedVariables false

section
open Go.RowKit
def cY : Cd UInt8:=⟨1,fun b=>[U8 (b.toNat : Int)],fun _=>rfl,fun _=>rfl,fun _=>rfl,by decide⟩
theorem zbb : cY.sz = 1:=rfl
abbrev strT (l : List UInt8) : T:=.v (.string ⟨l.toArray⟩)
def cStr : Cd (List UInt8):=⟨1,fun l=>[strT l],fun _=>rfl,fun _=>rfl,fun _=>rfl,by decide⟩
theorem zco : cStr.sz = 1:=rfl
theorem zhl {p : Prop} (h : p:=by first | rfl | exact Nat.le_of_ble_eq_true rfl | omega | (simp only [xa,List.length_append,List.length_cons,List.length_nil,List.length_replicate,Nat.zero_add,zbc,ze6,zbb,zco];omega) | (simp [xa,zbc,ze6,zbb,zco];done) | (simp [xa,zbc,ze6,zbb,zco];omega)) : p:=h
theorem zdp : ∀ l : List UInt8,bytesT (encL cY l) = some l
 | []=>rfl
 | b :: l=>by
  show (match bytesT (encL cY l) with | some l'=>some (UInt8.ofNat ((b.toNat : Int)).toNat :: l') | none=>none) = _
  rw [zdp l]
  simp
theorem zjz {α : Type} (c : Cd α) {tab : Tab} {look : Look} {t e sz n : Nat} {i : TyI} {l : List α} {q : Option Nat} (hn : n = l.length) (hT : tab t = some i) (hk : i.k = .sl e) (hz : sz = c.sz) : srcCells tab look t sz (.islc (encL c l) n q) = some (encL c l,n):=by
 subst hz hn
 unfold srcCells
 rw [hT]
 simp only [hk]
 rw [if_pos (by rw [xa];exact Nat.le_refl _),List.take_of_length_le (by rw [xa];exact Nat.le_refl _)]
section
variable {q : Bool} {P : Program} {tab : Tab} {im : List Nat} {ds : List (Option Nat)} {l : List Oper} {E : Env} {H Hm F : Hp} {K : Env→Hp→Prop} {d : Nat} {ty : TypeId} {pos : String} {after : Array Edge} {ops : Array Oper} {wd : List Bool}
theorem zhq [Dr] {x y : Operand} {t1 t2 : TypeId} {a b : Int} (hx : E.opd x = some (I64 a)) (hy : E.opd y = some (I64 b)) (k : VX q P tab im ds l ((d,I64 (max a b)) :: E) H K) : VX q P tab im ds (⟨some d,.call ⟨.builtin .max,#[x,y],#[t1,t2]⟩,ty,pos,after,none⟩ :: l) E H K:=by
 refine za (t:=I64 (max a b)) ?_ k
 have e : (if b > a then b else a) = max a b:=by rw [Int.max_def];split <;> split <;> omega
 simp only [opM,optL,hx,hy,mMins,mMin,Bool.false_eq_true,if_false,e]
theorem zbd [Dr] {x y : Operand} {t1 t2 : TypeId} {a b : Int} (hx : E.opd x = some (I64 a)) (hy : E.opd y = some (I64 b)) (k : VX q P tab im ds l ((d,I64 (min a b)) :: E) H K) : VX q P tab im ds (⟨some d,.call ⟨.builtin .min,#[x,y],#[t1,t2]⟩,ty,pos,after,none⟩ :: l) E H K:=by
 refine za (t:=I64 (min a b)) ?_ k
 have e : (if b < a then b else a) = min a b:=by rw [Int.min_def];split <;> split <;> omega
 simp only [opM,optL,hx,hy,mMins,mMin,if_true,e]
theorem VX.strY [Dr] {t1 t2 e b o n : Nat} {x : Operand} {i j r : TyI} {c : Option Nat} {cs : List T} {xs : List UInt8} (hT : tab t1 = some i) (hk : i.k = .sl e) (hj : tab t2 = some j) (hj2 : j.k = .str) (he : tab e = some r) (hr : r.k = .int .u8) (hx : E.opd x = some (.slc b o n 1 c)) (hb : lookH H b = some cs) (hl : o + n≤cs.length) (hc : (cs.drop o).take n = encL cY xs)
  (k : VX q P tab im ds l ((d,strT xs) :: E) H K) : VX q P tab im ds (⟨some d,.convert t1 t2 x,ty,pos,after,none⟩ :: l) E H K:=by
 refine za (t:=strT xs) ?_ k
 simp only [opM,hx,mConv,hT,hj,hk,hj2,he,hr,hb]
 rw [if_pos hl,hc,zdp]
theorem zhr [Dr] {t m : Nat} {x ix : Operand} {i : TyI} {xs : List UInt8} {k : IntKind} {z : Int} {b : UInt8} (hT : tab t = some i) (hk : i.k = .str) (hx : E.opd x = some (strT xs)) (hi : E.opd ix = some (.v (.int k z))) (hz : z = (m : Int)) (hb : xs[m]? = some b)
  (kk : VX q P tab im ds l ((d,U8 (b.toNat : Int)) :: E) H K) : VX q P tab im ds (⟨some d,.index t x ix,ty,pos,after,none⟩ :: l) E H K:=by
 refine za (t:=U8 (b.toNat : Int)) ?_ kk
 subst hz
 have hs : (⟨xs.toArray⟩ : ByteArray)[m]? = some b:=by
  obtain ⟨h1,h2⟩:=List.getElem?_eq_some_iff.1 hb
  rw [getElem?_pos (⟨xs.toArray⟩ : ByteArray) m (by exact h1)]
  congr 1
 simp only [opM,hx,hi,mIndex,hT,hk,Int.natCast_nonneg,if_true,Int.toNat_natCast]
 rw [hs]
theorem zjw (a b : List UInt8) : ((⟨a.toArray⟩ : ByteArray).toList == (⟨b.toArray⟩ : ByteArray).toList) = (a == b):=by
 have h : ∀ l : List UInt8,(⟨l.toArray⟩ : ByteArray).toList = l:=fun l=>by
  rw [show (⟨l.toArray⟩ : ByteArray).toList = (⟨l.toArray⟩ : ByteArray).data.toList from ByteArray.toList_eq _]
 rw [h,h]
end
end

section
open Go.RowKit
def clearL (g : List UInt8) (a b : Nat) : List UInt8:=g.take a ++ (List.replicate (b - a) 32 ++ g.drop (max a b))
theorem ze5 (g : List UInt8) (a b : Nat) (h : b≤g.length) : (clearL g a b).length = g.length:=by
 unfold clearL
 simp only [List.length_append,List.length_take,List.length_replicate,List.length_drop]
 omega
def Scr.clear (S : Scr) (a b : Nat) : Scr:={ S with grid:=clearL S.grid a b }
def Scr.keep (S : Scr) (l : List UInt8) : Scr:=
 if S.most = 0 then S else if S.most≤S.kept.length then { S with kept:=S.kept.tail ++ [l] } else { S with kept:=S.kept ++ [l] }
def Scr.withGrid (S : Scr) (g : List UInt8) : Scr:={ S with grid:=g }
theorem Scr.keep_grid (S : Scr) (l : List UInt8) : (S.keep l).grid = S.grid:=by unfold Scr.keep;split;rfl;split <;> rfl
def Scr.scroll (S : Scr) : Scr:=
 (S.keep (S.grid.take S.cols)).withGrid (S.grid.drop S.cols ++ List.replicate S.cols 32)
def Scr.lineEnd (S : Scr) : Scr:=if S.y + 1 < S.rows then { S with x:=0,y:=S.y + 1 } else ({ S with x:=0 } : Scr).scroll
theorem Scr.Ok.keep {S : Scr} (ok : S.Ok) (l : List UInt8) : (S.keep l).Ok:=by
 unfold Scr.keep
 split
 ·exact ok
 ·split
  ·exact ⟨ok.c1,ok.c2,ok.r1,ok.r2,ok.m,ok.x,ok.y,ok.g,by have:=ok.k;simp;omega,ok.s,ok.a,ok.b,ok.n⟩
  ·exact ⟨ok.c1,ok.c2,ok.r1,ok.r2,ok.m,ok.x,ok.y,ok.g,by simp;omega,ok.s,ok.a,ok.b,ok.n⟩
theorem Scr.Ok.withGrid {S : Scr} (ok : S.Ok) (g : List UInt8) (h : g.length = S.grid.length) : (S.withGrid g).Ok:=
 ⟨ok.c1,ok.c2,ok.r1,ok.r2,ok.m,ok.x,ok.y,h.trans ok.g,ok.k,ok.s,ok.a,ok.b,ok.n⟩
theorem Scr.Ok.cg {S : Scr} (ok : S.Ok) : S.cols≤S.grid.length:=by rw [ok.g];exact Nat.le_mul_of_pos_right _ ok.r1
theorem Scr.Ok.g2 {S : Scr} (ok : S.Ok) : S.grid.length≤8192:=by rw [ok.g];exact Nat.mul_le_mul ok.c2 ok.r2
theorem Scr.Ok.scroll {S : Scr} (ok : S.Ok) : S.scroll.Ok:=
 (ok.keep _).withGrid _ (by rw [Scr.keep_grid];have:=ok.cg;simp;omega)
theorem Scr.Ok.pos {S : Scr} (ok : S.Ok) (x y : Nat) (hx : x≤S.cols) : ({ S with x:=x,y:=y } : Scr).Ok↔y < S.rows:=
 ⟨fun h=>h.y,fun h=>⟨ok.c1,ok.c2,ok.r1,ok.r2,ok.m,hx,h,ok.g,ok.k,ok.s,ok.a,ok.b,ok.n⟩⟩
theorem Scr.Ok.lineEnd {S : Scr} (ok : S.Ok) : S.lineEnd.Ok:=by
 unfold Scr.lineEnd
 split
 ·exact (ok.pos 0 (S.y + 1) (Nat.zero_le _)).2 (by assumption)
 ·exact Scr.Ok.scroll ((ok.pos 0 S.y (Nat.zero_le _)).2 ok.y)
theorem Scr.scroll_x (S : Scr) : S.scroll.x = S.x:=by unfold Scr.scroll Scr.withGrid Scr.keep;split;rfl;split <;> rfl
theorem Scr.scroll_cols (S : Scr) : S.scroll.cols = S.cols:=by unfold Scr.scroll Scr.withGrid Scr.keep;split;rfl;split <;> rfl
theorem Scr.lineEnd_x (S : Scr) : S.lineEnd.x = 0:=by unfold Scr.lineEnd;split;rfl;rw [Scr.scroll_x]
theorem Scr.lineEnd_cols (S : Scr) : S.lineEnd.cols = S.cols:=by unfold Scr.lineEnd;split;rfl;rw [Scr.scroll_cols]
def Scr.blank (S : Scr) (n f t : Nat) : Scr:=
 if n = 0 then S.clear (S.y * S.cols + min S.x (S.cols - 1)) t else if n = 1 then S.clear f (S.y * S.cols + min S.x (S.cols - 1) + 1) else if n = 2 then S.clear f t else S
def Scr.put (S : Scr) (v : UInt8) : Scr:={ S with grid:=S.grid.set (S.y * S.cols + S.x) v,x:=S.x + 1 }
def Scr.letter (S : Scr) (v : UInt8) : Scr:=if S.x = S.cols then S.lineEnd.put v else S.put v
def Scr.plain (S : Scr) (v : UInt8) : Scr:=
 if 32≤v.toNat∧v.toNat≤126 then S.letter v
 else if v.toNat = 10 then S.lineEnd
 else if v.toNat = 13 then { S with x:=0 }
 else if v.toNat = 8 then { S with x:=S.x - 1 }
 else if v.toNat = 9 then { S with x:=max (min ((S.x / 8 + 1) * 8) (S.cols - 1)) S.x }
 else if v.toNat = 12 then { S.clear 0 S.grid.length with x:=0,y:=0 }
 else if v.toNat = 27 then { S with st:=1 }
 else S
def Scr.cmd (S : Scr) (k n m : Nat) : Scr:=
 if k = 65 then { S with y:=S.y - max n 1 }
 else if k = 66 then { S with y:=min (S.y + max n 1) (S.rows - 1) }
 else if k = 67 then { S with x:=min (S.x + max n 1) (S.cols - 1) }
 else if k = 68 then { S with x:=S.x - max n 1 }
 else if k = 72 then { S with y:=min (max n 1) S.rows - 1,x:=min (max m 1) S.cols - 1 }
 else if k = 74 then S.blank n 0 S.grid.length
 else if k = 75 then S.blank n (S.y * S.cols) ((S.y + 1) * S.cols)
 else S
def Scr.told (S : Scr) (v : Nat) : Scr:=
 if 48≤v∧v≤57 then (if S.num = 0 then { S with n0:=min (S.n0 * 10 + (v - 48)) 999 } else if S.num = 1 then { S with n1:=min (S.n1 * 10 + (v - 48)) 999 } else S)
 else if v = 59 then { S with num:=min (S.num + 1) 2 }
 else ({ S with st:=0 } : Scr).cmd v S.n0 S.n1
def Scr.byte (S : Scr) (v : UInt8) : Scr:=
 if S.st = 1 then (if v.toNat = 91 then { S with st:=2,n0:=0,n1:=0,num:=0 } else { S with st:=0 })
 else if S.st = 2 then S.told v.toNat else S.plain v
def Scr.bytes (S : Scr) (l : List UInt8) : Scr:=l.foldl Scr.byte S
theorem Scr.Ok.clear {S : Scr} (ok : S.Ok) (a b : Nat) (h : b≤S.grid.length) : (S.clear a b).Ok:={ ok with g:=(ze5 S.grid a b h).trans ok.g }
theorem Scr.Ok.put {S : Scr} (ok : S.Ok) (v : UInt8) (h : S.x < S.cols) : (S.put v).Ok:={ ok with x:=h,g:=(List.length_set).trans ok.g }
theorem Scr.Ok.pg {S : Scr} (ok : S.Ok) : S.y * S.cols + S.cols≤S.grid.length:=by rw [ok.g,← Nat.succ_mul,Nat.mul_comm];exact Nat.mul_le_mul (Nat.le_refl _) ok.y
theorem Scr.Ok.blank {S : Scr} (ok : S.Ok) (n f t : Nat) (h : t≤S.grid.length) : (S.blank n f t).Ok:=by
 have h1:=ok.pg
 have h2:=ok.c1
 unfold Scr.blank
 split
 ·exact ok.clear _ _ h
 ·split
  ·exact ok.clear _ _ (by omega)
  ·split
   ·exact ok.clear _ _ h
   ·exact ok
theorem Scr.Ok.plain {S : Scr} (ok : S.Ok) (v : UInt8) : (S.plain v).Ok:=by
 have hx:=ok.x
 have hc:=ok.c1
 have hy:=ok.y
 unfold Scr.plain
 split
 ·unfold Scr.letter
  split
  ·exact ok.lineEnd.put v (by rw [Scr.lineEnd_x,Scr.lineEnd_cols];exact ok.c1)
  ·exact ok.put v (by omega)
 split
 ·exact ok.lineEnd
 split
 ·exact { ok with x:=Nat.zero_le _ }
 split
 ·exact { ok with x:=(by show S.x - 1≤S.cols;omega) }
 split
 ·exact { ok with x:=(by show max (min ((S.x / 8 + 1) * 8) (S.cols - 1)) S.x≤S.cols;omega) }
 split
 ·have:=ok.clear 0 S.grid.length (Nat.le_refl _)
  exact { this with x:=Nat.zero_le _,y:=(by show 0 < S.rows;omega) }
 split
 ·exact { ok with s:=(by show 1≤2;omega) }
 ·exact ok
theorem Scr.Ok.cmd {S : Scr} (ok : S.Ok) (k n m : Nat) : (S.cmd k n m).Ok:=by
 have hx:=ok.x
 have hc:=ok.c1
 have hy:=ok.y
 unfold Scr.cmd
 split
 ·exact { ok with y:=(by show S.y - max n 1 < S.rows;omega) }
 split
 ·exact { ok with y:=(by show min (S.y + max n 1) (S.rows - 1) < S.rows;omega) }
 split
 ·exact { ok with x:=(by show min (S.x + max n 1) (S.cols - 1)≤S.cols;omega) }
 split
 ·exact { ok with x:=(by show S.x - max n 1≤S.cols;omega) }
 split
 ·exact { ok with y:=(by show min (max n 1) S.rows - 1 < S.rows;omega),x:=(by show min (max m 1) S.cols - 1≤S.cols;omega) }
 split
 ·exact ok.blank _ _ _ (Nat.le_refl _)
 split
 ·exact ok.blank _ _ _ (by have:=ok.pg;rw [Nat.succ_mul];exact this)
 ·exact ok
theorem Scr.Ok.told {S : Scr} (ok : S.Ok) (v : Nat) : (S.told v).Ok:=by
 unfold Scr.told
 split
 ·split
  ·exact { ok with a:=(by show min _ 999≤999;omega) }
  split
  ·exact { ok with b:=(by show min _ 999≤999;omega) }
  ·exact ok
 split
 ·exact { ok with n:=(by show min _ 2≤2;omega) }
 ·exact Scr.Ok.cmd (S:={ S with st:=0 }) { ok with s:=(by show 0≤2;omega) } _ _ _
theorem Scr.Ok.byte {S : Scr} (ok : S.Ok) (v : UInt8) : (S.byte v).Ok:=by
 unfold Scr.byte
 split
 ·split
  ·exact { ok with s:=(by show 2≤2;omega),a:=(by show 0≤999;omega),b:=(by show 0≤999;omega),n:=(by show 0≤2;omega) }
  ·exact { ok with s:=(by show 0≤2;omega) }
 split
 ·exact ok.told _
 ·exact ok.plain _
theorem Scr.Ok.bytes {S : Scr} (ok : S.Ok) (l : List UInt8) : (S.bytes l).Ok:=by
 unfold Scr.bytes
 induction l generalizing S with
 | nil=>exact ok
 | cons v l ih=>exact ih (ok.byte v)
def Scr.row (S : Scr) (y : Int) : List UInt8:=if 0≤y∧y < S.rows then (S.grid.drop (y.toNat * S.cols)).take S.cols else []
end

section
open Go.RowKit
set_option maxRecDepth 100000
theorem z8 {P : Program} {t sz by_ : Nat} {zs : List Value} {zero : List T} {k : Kd} {eq : Bool} {D : TypeDesc} (h1 : ((P.info? t).map fun I=>(I.size,I.bytes,I.zero.map fun z=>z.cells.toList)) = some (sz,by_,some zs)) (h2 : P.underlying t = some D) (hz : zs.map T.v = zero) (hk : kdOk D k) (hl : zs.length = sz)
  (ha : (k.agg || sz == 1) = true) (hf : (match D with | .struct fs=>fs.toList.all fun f=>(P.info? f.type).isSome | _=>true) = true)
  (hag : ((P.info? t).bind fun I => I.zero.map fun z => z.isAggB) = some k.agg) (he : (!eq || (!P.stoodInHeld t && !P.eqGuardType P.depth t && (match D with | .struct fs => fs.toList.all fun f => f.name != "_" | _ => false))) = true) : TyOk P t ⟨sz, by_, zero, k, eq⟩ := by
 subst hz
 rw [Option.map_eq_some_iff] at h1
 obtain ⟨I,h3,h4⟩:=h1
 injection h4 with h4 h5;injection h5 with h5 h6
 rw [Option.map_eq_some_iff] at h6
 obtain ⟨z,h6,h7⟩:=h6
 refine ⟨⟨I,h3,h4,h5,z,h6,by rw [h7]⟩,⟨D,h2,hk⟩,by simpa using hl,fun fs hfs=>?_,fun hag=>?_,⟨I,z,h3,h6,by rw [h3,Option.bind_some,h6] at hag;simpa using hag⟩,fun he'=>?_⟩
 ·rw [h2] at hfs;injection hfs with hfs;subst hfs;exact hf
 ·rw [hag] at ha;simpa using ha
 ·simp only at he'
  subst he'
  simp only [Bool.not_true,Bool.false_or,Bool.and_eq_true,Bool.not_eq_true'] at he
  obtain ⟨⟨e1,e2⟩,e3⟩:=he
  refine ⟨e1,e2,?_⟩
  cases D <;> first | (cases e3;done) | skip
  rename_i fs
  refine ⟨fs,h2,fun f hf=>?_⟩
  rw [List.all_eq_true] at e3
  simpa using e3 f hf
theorem ty_1 : TyOk Tryd.prog 1 ⟨1,8,[.v (.nilFunc)],.fn,false⟩:=z8 (zs:=[.nilFunc]) (by kernel_rfl) Tryd.underlying1 rfl trivial rfl rfl (by kernel_rfl) (by kernel_rfl) (by kernel_rfl)
theorem ty_2 : TyOk Tryd.prog 2 ⟨1,8,[.v (.int .i64 0)],.int .i64,false⟩:=z8 (zs:=[.int .i64 0]) (by kernel_rfl) Tryd.underlying2 rfl rfl rfl rfl (by kernel_rfl) (by kernel_rfl) (by kernel_rfl)
theorem ty_3 : TyOk Tryd.prog 3 ⟨1,8,[.v (.int .i64 0)],.int .i64,false⟩:=z8 (zs:=[.int .i64 0]) (by kernel_rfl) Tryd.underlying3 rfl rfl rfl rfl (by kernel_rfl) (by kernel_rfl) (by kernel_rfl)
theorem ty_4 : TyOk Tryd.prog 4 ⟨1,1,[.v (.bool false)],.bool,false⟩:=z8 (zs:=[.bool false]) (by kernel_rfl) Tryd.underlying4 rfl trivial rfl rfl (by kernel_rfl) (by kernel_rfl) (by kernel_rfl)
theorem ty_5 : TyOk Tryd.prog 5 ⟨1,1,[.v (.int .u8 0)],.int .u8,false⟩:=z8 (zs:=[.int .u8 0]) (by kernel_rfl) Tryd.underlying5 rfl rfl rfl rfl (by kernel_rfl) (by kernel_rfl) (by kernel_rfl)
theorem ty_6 : TyOk Tryd.prog 6 ⟨1,1,[.v (.int .u8 0)],.int .u8,false⟩:=z8 (zs:=[.int .u8 0]) (by kernel_rfl) Tryd.underlying6 rfl rfl rfl rfl (by kernel_rfl) (by kernel_rfl) (by kernel_rfl)
theorem ty_7 : TyOk Tryd.prog 7 ⟨4,24,[.v (.int .i64 0),.v (.int .i64 0),.v (.bool false),.v (.int .u8 0)],.st [(0,2),(1,3),(2,4),(3,6)],false⟩:=z8 (zs:=[.int .i64 0,.int .i64 0,.bool false,.int .u8 0]) (by kernel_rfl) Tryd.underlying7 rfl rfl rfl rfl (by kernel_rfl) (by kernel_rfl) (by kernel_rfl)
theorem ty_8 : TyOk Tryd.prog 8 ⟨4,24,[.v (.int .i64 0),.v (.int .i64 0),.v (.bool false),.v (.int .u8 0)],.st [(0,2),(1,3),(2,4),(3,6)],false⟩:=z8 (zs:=[.int .i64 0,.int .i64 0,.bool false,.int .u8 0]) (by kernel_rfl) Tryd.underlying8 rfl rfl rfl rfl (by kernel_rfl) (by kernel_rfl) (by kernel_rfl)
theorem ty_9 : TyOk Tryd.prog 9 ⟨1,16,[.v (.string ⟨#[]⟩)],.str,false⟩:=z8 (zs:=[.string ⟨#[]⟩]) (by kernel_rfl) Tryd.underlying9 rfl trivial rfl rfl (by kernel_rfl) (by kernel_rfl) (by kernel_rfl)
theorem ty_10 : TyOk Tryd.prog 10 ⟨1,16,[.v (.string ⟨#[]⟩)],.str,false⟩:=z8 (zs:=[.string ⟨#[]⟩]) (by kernel_rfl) Tryd.underlying10 rfl trivial rfl rfl (by kernel_rfl) (by kernel_rfl) (by kernel_rfl)
theorem ty_11 : TyOk Tryd.prog 11 ⟨1,16,[.v (.string ⟨#[]⟩)],.str,false⟩:=z8 (zs:=[.string ⟨#[]⟩]) (by kernel_rfl) Tryd.underlying11 rfl trivial rfl rfl (by kernel_rfl) (by kernel_rfl) (by kernel_rfl)
theorem ty_12 : TyOk Tryd.prog 12 ⟨1,8,[.v (.int .u64 0)],.int .u64,false⟩:=z8 (zs:=[.int .u64 0]) (by kernel_rfl) Tryd.underlying12 rfl rfl rfl rfl (by kernel_rfl) (by kernel_rfl) (by kernel_rfl)
theorem ty_13 : TyOk Tryd.prog 13 ⟨2,24,[.v (.string ⟨#[]⟩),.v (.int .u64 0)],.st [(0,9),(1,12)],false⟩:=z8 (zs:=[.string ⟨#[]⟩,.int .u64 0]) (by kernel_rfl) Tryd.underlying13 rfl rfl rfl rfl (by kernel_rfl) (by kernel_rfl) (by kernel_rfl)
theorem ty_14 : TyOk Tryd.prog 14 ⟨2,24,[.v (.string ⟨#[]⟩),.v (.int .u64 0)],.st [(0,9),(1,12)],false⟩:=z8 (zs:=[.string ⟨#[]⟩,.int .u64 0]) (by kernel_rfl) Tryd.underlying14 rfl rfl rfl rfl (by kernel_rfl) (by kernel_rfl) (by kernel_rfl)
theorem ty_15 : TyOk Tryd.prog 15 ⟨1,8,[.v (.pointer none)],.ptr 257,false⟩:=z8 (zs:=[.pointer none]) (by kernel_rfl) Tryd.underlying15 rfl rfl rfl rfl (by kernel_rfl) (by kernel_rfl) (by kernel_rfl)
theorem ty_16 : TyOk Tryd.prog 16 ⟨1,8,[.v (.pointer none)],.ptr 260,false⟩:=z8 (zs:=[.pointer none]) (by kernel_rfl) Tryd.underlying16 rfl rfl rfl rfl (by kernel_rfl) (by kernel_rfl) (by kernel_rfl)
theorem ty_17 : TyOk Tryd.prog 17 ⟨1,8,[.v (.pointer none)],.ptr 268,false⟩:=z8 (zs:=[.pointer none]) (by kernel_rfl) Tryd.underlying17 rfl rfl rfl rfl (by kernel_rfl) (by kernel_rfl) (by kernel_rfl)
theorem ty_18 : TyOk Tryd.prog 18 ⟨1,8,[.v (.pointer none)],.st [(0,17)],false⟩:=z8 (zs:=[.pointer none]) (by kernel_rfl) Tryd.underlying18 rfl rfl rfl rfl (by kernel_rfl) (by kernel_rfl) (by kernel_rfl)
theorem ty_19 : TyOk Tryd.prog 19 ⟨1,8,[.v (.pointer none)],.st [(0,17)],false⟩:=z8 (zs:=[.pointer none]) (by kernel_rfl) Tryd.underlying19 rfl rfl rfl rfl (by kernel_rfl) (by kernel_rfl) (by kernel_rfl)
theorem ty_21 : TyOk Tryd.prog 21 ⟨1,4,[.v (.int .i32 0)],.int .i32,false⟩:=z8 (zs:=[.int .i32 0]) (by kernel_rfl) Tryd.underlying21 rfl rfl rfl rfl (by kernel_rfl) (by kernel_rfl) (by kernel_rfl)
theorem ty_22 : TyOk Tryd.prog 22 ⟨1,24,[.v (.slice none 0 0)],.sl 43,false⟩:=z8 (zs:=[.slice none 0 0]) (by kernel_rfl) Tryd.underlying22 rfl rfl rfl rfl (by kernel_rfl) (by kernel_rfl) (by kernel_rfl)
theorem ty_23 : TyOk Tryd.prog 23 ⟨1,8,[.v (.nilFunc)],.fn,false⟩:=z8 (zs:=[.nilFunc]) (by kernel_rfl) Tryd.underlying23 rfl trivial rfl rfl (by kernel_rfl) (by kernel_rfl) (by kernel_rfl)
theorem ty_24 : TyOk Tryd.prog 24 ⟨1,8,[.v (.nilFunc)],.fn,false⟩:=z8 (zs:=[.nilFunc]) (by kernel_rfl) Tryd.underlying24 rfl trivial rfl rfl (by kernel_rfl) (by kernel_rfl) (by kernel_rfl)
theorem ty_25 : TyOk Tryd.prog 25 ⟨1,24,[.v (.slice none 0 0)],.sl 5,false⟩:=z8 (zs:=[.slice none 0 0]) (by kernel_rfl) Tryd.underlying25 rfl rfl rfl rfl (by kernel_rfl) (by kernel_rfl) (by kernel_rfl)
theorem ty_26 : TyOk Tryd.prog 26 ⟨1,24,[.v (.slice none 0 0)],.sl 9,false⟩:=z8 (zs:=[.slice none 0 0]) (by kernel_rfl) Tryd.underlying26 rfl rfl rfl rfl (by kernel_rfl) (by kernel_rfl) (by kernel_rfl)
theorem ty_27 : TyOk Tryd.prog 27 ⟨2,16,[.v (.int .i64 0),.v (.int .i64 0)],.arr 2 3,false⟩:=z8 (zs:=[.int .i64 0,.int .i64 0]) (by kernel_rfl) Tryd.underlying27 rfl ⟨rfl,rfl⟩ rfl rfl (by kernel_rfl) (by kernel_rfl) (by kernel_rfl)
theorem ty_28 : TyOk Tryd.prog 28 ⟨11,120,[.v (.int .i64 0),.v (.int .i64 0),.v (.int .i64 0),.v (.int .i64 0),.v (.int .i64 0),.v (.slice none 0 0),.v (.slice none 0 0),.v (.int .i64 0),.v (.int .i64 0),.v (.int .i64 0),.v (.int .i64 0)],.st [(0,3),(1,3),(2,3),(3,3),(4,3),(5,25),(6,26),(7,3),(8,27),(10,3)],false⟩:=z8 (zs:=[.int .i64 0,.int .i64 0,.int .i64 0,.int .i64 0,.int .i64 0,.slice none 0 0,.slice none 0 0,.int .i64 0,.int .i64 0,.int .i64 0,.int .i64 0]) (by kernel_rfl) Tryd.underlying28 rfl rfl rfl rfl (by kernel_rfl) (by kernel_rfl) (by kernel_rfl)
theorem ty_29 : TyOk Tryd.prog 29 ⟨11,120,[.v (.int .i64 0),.v (.int .i64 0),.v (.int .i64 0),.v (.int .i64 0),.v (.int .i64 0),.v (.slice none 0 0),.v (.slice none 0 0),.v (.int .i64 0),.v (.int .i64 0),.v (.int .i64 0),.v (.int .i64 0)],.st [(0,3),(1,3),(2,3),(3,3),(4,3),(5,25),(6,26),(7,3),(8,27),(10,3)],false⟩:=z8 (zs:=[.int .i64 0,.int .i64 0,.int .i64 0,.int .i64 0,.int .i64 0,.slice none 0 0,.slice none 0 0,.int .i64 0,.int .i64 0,.int .i64 0,.int .i64 0]) (by kernel_rfl) Tryd.underlying29 rfl rfl rfl rfl (by kernel_rfl) (by kernel_rfl) (by kernel_rfl)
theorem ty_30 : TyOk Tryd.prog 30 ⟨16,168,[.v (.bool false),.v (.int .i64 0),.v (.int .i64 0),.v (.int .i64 0),.v (.int .i64 0),.v (.int .i64 0),.v (.int .i64 0),.v (.int .i64 0),.v (.int .i64 0),.v (.slice none 0 0),.v (.slice none 0 0),.v (.int .i64 0),.v (.int .i64 0),.v (.int .i64 0),.v (.int .i64 0),.v (.string ⟨#[]⟩)],.st [(0,4),(1,2),(2,2),(3,2),(4,29),(15,9)],false⟩:=z8 (zs:=[.bool false,.int .i64 0,.int .i64 0,.int .i64 0,.int .i64 0,.int .i64 0,.int .i64 0,.int .i64 0,.int .i64 0,.slice none 0 0,.slice none 0 0,.int .i64 0,.int .i64 0,.int .i64 0,.int .i64 0,.string ⟨#[]⟩]) (by kernel_rfl) Tryd.underlying30 rfl rfl rfl rfl (by kernel_rfl) (by kernel_rfl) (by kernel_rfl)
theorem ty_31 : TyOk Tryd.prog 31 ⟨16,168,[.v (.bool false),.v (.int .i64 0),.v (.int .i64 0),.v (.int .i64 0),.v (.int .i64 0),.v (.int .i64 0),.v (.int .i64 0),.v (.int .i64 0),.v (.int .i64 0),.v (.slice none 0 0),.v (.slice none 0 0),.v (.int .i64 0),.v (.int .i64 0),.v (.int .i64 0),.v (.int .i64 0),.v (.string ⟨#[]⟩)],.st [(0,4),(1,2),(2,2),(3,2),(4,29),(15,9)],false⟩:=z8 (zs:=[.bool false,.int .i64 0,.int .i64 0,.int .i64 0,.int .i64 0,.int .i64 0,.int .i64 0,.int .i64 0,.int .i64 0,.slice none 0 0,.slice none 0 0,.int .i64 0,.int .i64 0,.int .i64 0,.int .i64 0,.string ⟨#[]⟩]) (by kernel_rfl) Tryd.underlying31 rfl rfl rfl rfl (by kernel_rfl) (by kernel_rfl) (by kernel_rfl)
theorem ty_32 : TyOk Tryd.prog 32 ⟨1,24,[.v (.slice none 0 0)],.sl 88,false⟩:=z8 (zs:=[.slice none 0 0]) (by kernel_rfl) Tryd.underlying32 rfl rfl rfl rfl (by kernel_rfl) (by kernel_rfl) (by kernel_rfl)
theorem ty_33 : TyOk Tryd.prog 33 ⟨1,8,[.v (.int .i64 0)],.int .i64,false⟩:=z8 (zs:=[.int .i64 0]) (by kernel_rfl) Tryd.underlying33 rfl rfl rfl rfl (by kernel_rfl) (by kernel_rfl) (by kernel_rfl)
theorem ty_35 : TyOk Tryd.prog 35 ⟨1,8,[.v (.nilFunc)],.fn,false⟩:=z8 (zs:=[.nilFunc]) (by kernel_rfl) Tryd.underlying35 rfl trivial rfl rfl (by kernel_rfl) (by kernel_rfl) (by kernel_rfl)
theorem ty_37 : TyOk Tryd.prog 37 ⟨1,8,[.v (.nilFunc)],.fn,false⟩:=z8 (zs:=[.nilFunc]) (by kernel_rfl) Tryd.underlying37 rfl trivial rfl rfl (by kernel_rfl) (by kernel_rfl) (by kernel_rfl)
theorem ty_38 : TyOk Tryd.prog 38 ⟨1,4,[.v (.int .u32 0)],.int .u32,false⟩:=z8 (zs:=[.int .u32 0]) (by kernel_rfl) Tryd.underlying38 rfl rfl rfl rfl (by kernel_rfl) (by kernel_rfl) (by kernel_rfl)
theorem ty_39 : TyOk Tryd.prog 39 ⟨1,4,[.v (.int .u32 0)],.int .u32,false⟩:=z8 (zs:=[.int .u32 0]) (by kernel_rfl) Tryd.underlying39 rfl rfl rfl rfl (by kernel_rfl) (by kernel_rfl) (by kernel_rfl)
theorem ty_40 : TyOk Tryd.prog 40 ⟨1,8,[.v (.int .u64 0)],.int .u64,false⟩:=z8 (zs:=[.int .u64 0]) (by kernel_rfl) Tryd.underlying40 rfl rfl rfl rfl (by kernel_rfl) (by kernel_rfl) (by kernel_rfl)
theorem ty_41 : TyOk Tryd.prog 41 ⟨1,2,[.v (.int .u16 0)],.int .u16,false⟩:=z8 (zs:=[.int .u16 0]) (by kernel_rfl) Tryd.underlying41 rfl rfl rfl rfl (by kernel_rfl) (by kernel_rfl) (by kernel_rfl)
theorem ty_42 : TyOk Tryd.prog 42 ⟨6,32,[.v (.int .u8 0),.v (.string ⟨#[]⟩),.v (.int .u8 0),.v (.int .u8 0),.v (.int .u16 0),.v (.int .u16 0)],.st [(0,5),(1,9),(2,5),(3,5),(4,41),(5,41)],true⟩:=z8 (zs:=[.int .u8 0,.string ⟨#[]⟩,.int .u8 0,.int .u8 0,.int .u16 0,.int .u16 0]) (by kernel_rfl) Tryd.underlying42 rfl rfl rfl rfl (by kernel_rfl) (by kernel_rfl) (by kernel_rfl)
theorem ty_43 : TyOk Tryd.prog 43 ⟨6,32,[.v (.int .u8 0),.v (.string ⟨#[]⟩),.v (.int .u8 0),.v (.int .u8 0),.v (.int .u16 0),.v (.int .u16 0)],.st [(0,5),(1,9),(2,5),(3,5),(4,41),(5,41)],true⟩:=z8 (zs:=[.int .u8 0,.string ⟨#[]⟩,.int .u8 0,.int .u8 0,.int .u16 0,.int .u16 0]) (by kernel_rfl) Tryd.underlying43 rfl rfl rfl rfl (by kernel_rfl) (by kernel_rfl) (by kernel_rfl)
theorem ty_44 : TyOk Tryd.prog 44 ⟨1,8,[.v (.nilFunc)],.fn,false⟩:=z8 (zs:=[.nilFunc]) (by kernel_rfl) Tryd.underlying44 rfl trivial rfl rfl (by kernel_rfl) (by kernel_rfl) (by kernel_rfl)
theorem ty_45 : TyOk Tryd.prog 45 ⟨1,8,[.v (.nilFunc)],.fn,false⟩:=z8 (zs:=[.nilFunc]) (by kernel_rfl) Tryd.underlying45 rfl trivial rfl rfl (by kernel_rfl) (by kernel_rfl) (by kernel_rfl)
theorem ty_47 : TyOk Tryd.prog 47 ⟨1,8,[.v (.nilFunc)],.fn,false⟩:=z8 (zs:=[.nilFunc]) (by kernel_rfl) Tryd.underlying47 rfl trivial rfl rfl (by kernel_rfl) (by kernel_rfl) (by kernel_rfl)
theorem ty_48 : TyOk Tryd.prog 48 ⟨1,24,[.v (.slice none 0 0)],.sl 2,false⟩:=z8 (zs:=[.slice none 0 0]) (by kernel_rfl) Tryd.underlying48 rfl rfl rfl rfl (by kernel_rfl) (by kernel_rfl) (by kernel_rfl)
theorem ty_49 : TyOk Tryd.prog 49 ⟨6,88,[.v (.int .i64 0),.v (.int .i64 0),.v (.int .i64 0),.v (.slice none 0 0),.v (.string ⟨#[]⟩),.v (.slice none 0 0)],.st [(0,3),(1,3),(2,3),(3,48),(4,9),(5,48)],false⟩:=z8 (zs:=[.int .i64 0,.int .i64 0,.int .i64 0,.slice none 0 0,.string ⟨#[]⟩,.slice none 0 0]) (by kernel_rfl) Tryd.underlying49 rfl rfl rfl rfl (by kernel_rfl) (by kernel_rfl) (by kernel_rfl)
theorem ty_50 : TyOk Tryd.prog 50 ⟨6,88,[.v (.int .i64 0),.v (.int .i64 0),.v (.int .i64 0),.v (.slice none 0 0),.v (.string ⟨#[]⟩),.v (.slice none 0 0)],.st [(0,3),(1,3),(2,3),(3,48),(4,9),(5,48)],false⟩:=z8 (zs:=[.int .i64 0,.int .i64 0,.int .i64 0,.slice none 0 0,.string ⟨#[]⟩,.slice none 0 0]) (by kernel_rfl) Tryd.underlying50 rfl rfl rfl rfl (by kernel_rfl) (by kernel_rfl) (by kernel_rfl)
theorem ty_51 : TyOk Tryd.prog 51 ⟨1,8,[.v (.nilFunc)],.fn,false⟩:=z8 (zs:=[.nilFunc]) (by kernel_rfl) Tryd.underlying51 rfl trivial rfl rfl (by kernel_rfl) (by kernel_rfl) (by kernel_rfl)
theorem ty_53 : TyOk Tryd.prog 53 ⟨1,8,[.v (.nilFunc)],.fn,false⟩:=z8 (zs:=[.nilFunc]) (by kernel_rfl) Tryd.underlying53 rfl trivial rfl rfl (by kernel_rfl) (by kernel_rfl) (by kernel_rfl)
theorem ty_54 : TyOk Tryd.prog 54 ⟨1,8,[.v (.nilFunc)],.fn,false⟩:=z8 (zs:=[.nilFunc]) (by kernel_rfl) Tryd.underlying54 rfl trivial rfl rfl (by kernel_rfl) (by kernel_rfl) (by kernel_rfl)
theorem ty_56 : TyOk Tryd.prog 56 ⟨1,8,[.v (.nilFunc)],.fn,false⟩:=z8 (zs:=[.nilFunc]) (by kernel_rfl) Tryd.underlying56 rfl trivial rfl rfl (by kernel_rfl) (by kernel_rfl) (by kernel_rfl)
theorem ty_57 : TyOk Tryd.prog 57 ⟨1,8,[.v (.nilFunc)],.fn,false⟩:=z8 (zs:=[.nilFunc]) (by kernel_rfl) Tryd.underlying57 rfl trivial rfl rfl (by kernel_rfl) (by kernel_rfl) (by kernel_rfl)
theorem ty_58 : TyOk Tryd.prog 58 ⟨1,8,[.v (.nilFunc)],.fn,false⟩:=z8 (zs:=[.nilFunc]) (by kernel_rfl) Tryd.underlying58 rfl trivial rfl rfl (by kernel_rfl) (by kernel_rfl) (by kernel_rfl)
theorem ty_65 : TyOk Tryd.prog 65 ⟨4,32,[.v (.int .i64 0),.v (.int .i64 0),.v (.int .i64 0),.v (.int .i64 0)],.st [(0,3),(1,3),(2,3),(3,3)],true⟩:=z8 (zs:=[.int .i64 0,.int .i64 0,.int .i64 0,.int .i64 0]) (by kernel_rfl) Tryd.underlying65 rfl rfl rfl rfl (by kernel_rfl) (by kernel_rfl) (by kernel_rfl)
theorem ty_66 : TyOk Tryd.prog 66 ⟨4,32,[.v (.int .i64 0),.v (.int .i64 0),.v (.int .i64 0),.v (.int .i64 0)],.st [(0,3),(1,3),(2,3),(3,3)],true⟩:=z8 (zs:=[.int .i64 0,.int .i64 0,.int .i64 0,.int .i64 0]) (by kernel_rfl) Tryd.underlying66 rfl rfl rfl rfl (by kernel_rfl) (by kernel_rfl) (by kernel_rfl)
theorem ty_67 : TyOk Tryd.prog 67 ⟨1,24,[.v (.slice none 0 0)],.sl 3,false⟩:=z8 (zs:=[.slice none 0 0]) (by kernel_rfl) Tryd.underlying67 rfl rfl rfl rfl (by kernel_rfl) (by kernel_rfl) (by kernel_rfl)
theorem ty_68 : TyOk Tryd.prog 68 ⟨2,16,[.v (.int .i64 0),.v (.int .i64 0)],.st [(0,3),(1,3)],true⟩:=z8 (zs:=[.int .i64 0,.int .i64 0]) (by kernel_rfl) Tryd.underlying68 rfl rfl rfl rfl (by kernel_rfl) (by kernel_rfl) (by kernel_rfl)
theorem ty_69 : TyOk Tryd.prog 69 ⟨2,16,[.v (.int .i64 0),.v (.int .i64 0)],.st [(0,3),(1,3)],true⟩:=z8 (zs:=[.int .i64 0,.int .i64 0]) (by kernel_rfl) Tryd.underlying69 rfl rfl rfl rfl (by kernel_rfl) (by kernel_rfl) (by kernel_rfl)
theorem ty_72 : TyOk Tryd.prog 72 ⟨1,24,[.v (.slice none 0 0)],.sl 50,false⟩:=z8 (zs:=[.slice none 0 0]) (by kernel_rfl) Tryd.underlying72 rfl rfl rfl rfl (by kernel_rfl) (by kernel_rfl) (by kernel_rfl)
theorem ty_74 : TyOk Tryd.prog 74 ⟨3,24,[.v (.int .u32 0),.v (.int .i64 0),.v (.int .i64 0)],.st [(0,39),(1,3),(2,3)],true⟩:=z8 (zs:=[.int .u32 0,.int .i64 0,.int .i64 0]) (by kernel_rfl) Tryd.underlying74 rfl rfl rfl rfl (by kernel_rfl) (by kernel_rfl) (by kernel_rfl)
theorem ty_75 : TyOk Tryd.prog 75 ⟨3,24,[.v (.int .u32 0),.v (.int .i64 0),.v (.int .i64 0)],.st [(0,39),(1,3),(2,3)],true⟩:=z8 (zs:=[.int .u32 0,.int .i64 0,.int .i64 0]) (by kernel_rfl) Tryd.underlying75 rfl rfl rfl rfl (by kernel_rfl) (by kernel_rfl) (by kernel_rfl)
theorem ty_76 : TyOk Tryd.prog 76 ⟨1,8,[.v (.map none)],.mp 2 127,false⟩:=z8 (zs:=[.map none]) (by kernel_rfl) Tryd.underlying76 rfl ⟨rfl,rfl⟩ rfl rfl (by kernel_rfl) (by kernel_rfl) (by kernel_rfl)
theorem ty_77 : TyOk Tryd.prog 77 ⟨1,8,[.v (.map none)],.mp 2 130,false⟩:=z8 (zs:=[.map none]) (by kernel_rfl) Tryd.underlying77 rfl ⟨rfl,rfl⟩ rfl rfl (by kernel_rfl) (by kernel_rfl) (by kernel_rfl)
theorem ty_78 : TyOk Tryd.prog 78 ⟨4,32,[.v (.bool false),.v (.int .i64 0),.v (.int .i64 0),.v (.int .i64 0)],.st [(0,4),(1,2),(2,2),(3,2)],true⟩:=z8 (zs:=[.bool false,.int .i64 0,.int .i64 0,.int .i64 0]) (by kernel_rfl) Tryd.underlying78 rfl rfl rfl rfl (by kernel_rfl) (by kernel_rfl) (by kernel_rfl)
theorem ty_79 : TyOk Tryd.prog 79 ⟨4,32,[.v (.bool false),.v (.int .i64 0),.v (.int .i64 0),.v (.int .i64 0)],.st [(0,4),(1,2),(2,2),(3,2)],true⟩:=z8 (zs:=[.bool false,.int .i64 0,.int .i64 0,.int .i64 0]) (by kernel_rfl) Tryd.underlying79 rfl rfl rfl rfl (by kernel_rfl) (by kernel_rfl) (by kernel_rfl)
theorem ty_80 : TyOk Tryd.prog 80 ⟨11,88,[.v (.int .u32 0),.v (.int .i64 0),.v (.int .i64 0),.v (.int .i64 0),.v (.int .i64 0),.v (.map none),.v (.map none),.v (.bool false),.v (.int .i64 0),.v (.int .i64 0),.v (.int .i64 0)],.st [(0,75),(3,3),(4,3),(5,76),(6,77),(7,79)],false⟩:=z8 (zs:=[.int .u32 0,.int .i64 0,.int .i64 0,.int .i64 0,.int .i64 0,.map none,.map none,.bool false,.int .i64 0,.int .i64 0,.int .i64 0]) (by kernel_rfl) Tryd.underlying80 rfl rfl rfl rfl (by kernel_rfl) (by kernel_rfl) (by kernel_rfl)
theorem ty_81 : TyOk Tryd.prog 81 ⟨11,88,[.v (.int .u32 0),.v (.int .i64 0),.v (.int .i64 0),.v (.int .i64 0),.v (.int .i64 0),.v (.map none),.v (.map none),.v (.bool false),.v (.int .i64 0),.v (.int .i64 0),.v (.int .i64 0)],.st [(0,75),(3,3),(4,3),(5,76),(6,77),(7,79)],false⟩:=z8 (zs:=[.int .u32 0,.int .i64 0,.int .i64 0,.int .i64 0,.int .i64 0,.map none,.map none,.bool false,.int .i64 0,.int .i64 0,.int .i64 0]) (by kernel_rfl) Tryd.underlying81 rfl rfl rfl rfl (by kernel_rfl) (by kernel_rfl) (by kernel_rfl)
theorem ty_84 : TyOk Tryd.prog 84 ⟨1,8,[.v (.map none)],.mp 2 4,false⟩:=z8 (zs:=[.map none]) (by kernel_rfl) Tryd.underlying84 rfl ⟨rfl,rfl⟩ rfl rfl (by kernel_rfl) (by kernel_rfl) (by kernel_rfl)
theorem ty_86 : TyOk Tryd.prog 86 ⟨1,8,[.v (.nilFunc)],.fn,false⟩:=z8 (zs:=[.nilFunc]) (by kernel_rfl) Tryd.underlying86 rfl trivial rfl rfl (by kernel_rfl) (by kernel_rfl) (by kernel_rfl)
theorem ty_87 : TyOk Tryd.prog 87 ⟨4,72,[.v (.int .i64 0),.v (.slice none 0 0),.v (.string ⟨#[]⟩),.v (.slice none 0 0)],.st [(0,3),(1,48),(2,9),(3,48)],false⟩:=z8 (zs:=[.int .i64 0,.slice none 0 0,.string ⟨#[]⟩,.slice none 0 0]) (by kernel_rfl) Tryd.underlying87 rfl rfl rfl rfl (by kernel_rfl) (by kernel_rfl) (by kernel_rfl)
theorem ty_88 : TyOk Tryd.prog 88 ⟨4,72,[.v (.int .i64 0),.v (.slice none 0 0),.v (.string ⟨#[]⟩),.v (.slice none 0 0)],.st [(0,3),(1,48),(2,9),(3,48)],false⟩:=z8 (zs:=[.int .i64 0,.slice none 0 0,.string ⟨#[]⟩,.slice none 0 0]) (by kernel_rfl) Tryd.underlying88 rfl rfl rfl rfl (by kernel_rfl) (by kernel_rfl) (by kernel_rfl)
theorem ty_89 : TyOk Tryd.prog 89 ⟨1,8,[.v (.map none)],.mp 39 4,false⟩:=z8 (zs:=[.map none]) (by kernel_rfl) Tryd.underlying89 rfl ⟨rfl,rfl⟩ rfl rfl (by kernel_rfl) (by kernel_rfl) (by kernel_rfl)
theorem ty_90 : TyOk Tryd.prog 90 ⟨1,24,[.v (.slice none 0 0)],.sl 39,false⟩:=z8 (zs:=[.slice none 0 0]) (by kernel_rfl) Tryd.underlying90 rfl rfl rfl rfl (by kernel_rfl) (by kernel_rfl) (by kernel_rfl)
theorem ty_99 : TyOk Tryd.prog 99 ⟨1,8,[.v (.nilFunc)],.fn,false⟩:=z8 (zs:=[.nilFunc]) (by kernel_rfl) Tryd.underlying99 rfl trivial rfl rfl (by kernel_rfl) (by kernel_rfl) (by kernel_rfl)
theorem ty_101 : TyOk Tryd.prog 101 ⟨1,8,[.v (.map none)],.mp 3 99,false⟩:=z8 (zs:=[.map none]) (by kernel_rfl) Tryd.underlying101 rfl ⟨rfl,rfl⟩ rfl rfl (by kernel_rfl) (by kernel_rfl) (by kernel_rfl)
theorem ty_108 : TyOk Tryd.prog 108 ⟨1,8,[.v (.pointer none)],.ptr 110,false⟩:=z8 (zs:=[.pointer none]) (by kernel_rfl) Tryd.underlying108 rfl rfl rfl rfl (by kernel_rfl) (by kernel_rfl) (by kernel_rfl)
theorem ty_109 : TyOk Tryd.prog 109 ⟨2,32,[.v (.pointer none),.v (.slice none 0 0)],.st [(0,108),(1,25)],false⟩:=z8 (zs:=[.pointer none,.slice none 0 0]) (by kernel_rfl) Tryd.underlying109 rfl rfl rfl rfl (by kernel_rfl) (by kernel_rfl) (by kernel_rfl)
theorem ty_110 : TyOk Tryd.prog 110 ⟨2,32,[.v (.pointer none),.v (.slice none 0 0)],.st [(0,108),(1,25)],false⟩:=z8 (zs:=[.pointer none,.slice none 0 0]) (by kernel_rfl) Tryd.underlying110 rfl rfl rfl rfl (by kernel_rfl) (by kernel_rfl) (by kernel_rfl)
theorem ty_120 : TyOk Tryd.prog 120 ⟨12,112,[.v (.int .u32 0),.v (.int .i64 0),.v (.int .i64 0),.v (.int .i64 0),.v (.int .i64 0),.v (.map none),.v (.map none),.v (.bool false),.v (.int .i64 0),.v (.int .i64 0),.v (.int .i64 0),.v (.slice none 0 0)],.st [(0,81),(11,32)],false⟩:=z8 (zs:=[.int .u32 0,.int .i64 0,.int .i64 0,.int .i64 0,.int .i64 0,.map none,.map none,.bool false,.int .i64 0,.int .i64 0,.int .i64 0,.slice none 0 0]) (by kernel_rfl) Tryd.underlying120 rfl rfl rfl rfl (by kernel_rfl) (by kernel_rfl) (by kernel_rfl)
theorem ty_121 : TyOk Tryd.prog 121 ⟨12,112,[.v (.int .u32 0),.v (.int .i64 0),.v (.int .i64 0),.v (.int .i64 0),.v (.int .i64 0),.v (.map none),.v (.map none),.v (.bool false),.v (.int .i64 0),.v (.int .i64 0),.v (.int .i64 0),.v (.slice none 0 0)],.st [(0,81),(11,32)],false⟩:=z8 (zs:=[.int .u32 0,.int .i64 0,.int .i64 0,.int .i64 0,.int .i64 0,.map none,.map none,.bool false,.int .i64 0,.int .i64 0,.int .i64 0,.slice none 0 0]) (by kernel_rfl) Tryd.underlying121 rfl rfl rfl rfl (by kernel_rfl) (by kernel_rfl) (by kernel_rfl)
theorem ty_126 : TyOk Tryd.prog 126 ⟨4,40,[.v (.int .i64 0),.v (.int .i64 0),.v (.int .i64 0),.v (.string ⟨#[]⟩)],.st [(0,2),(1,2),(2,2),(3,9)],true⟩:=z8 (zs:=[.int .i64 0,.int .i64 0,.int .i64 0,.string ⟨#[]⟩]) (by kernel_rfl) Tryd.underlying126 rfl rfl rfl rfl (by kernel_rfl) (by kernel_rfl) (by kernel_rfl)
theorem ty_127 : TyOk Tryd.prog 127 ⟨4,40,[.v (.int .i64 0),.v (.int .i64 0),.v (.int .i64 0),.v (.string ⟨#[]⟩)],.st [(0,2),(1,2),(2,2),(3,9)],true⟩:=z8 (zs:=[.int .i64 0,.int .i64 0,.int .i64 0,.string ⟨#[]⟩]) (by kernel_rfl) Tryd.underlying127 rfl rfl rfl rfl (by kernel_rfl) (by kernel_rfl) (by kernel_rfl)
theorem ty_129 : TyOk Tryd.prog 129 ⟨5,40,[.v (.int .i64 0),.v (.int .i64 0),.v (.bool false),.v (.int .i64 0),.v (.int .i64 0)],.st [(0,3),(1,3),(2,4),(3,2),(4,2)],true⟩:=z8 (zs:=[.int .i64 0,.int .i64 0,.bool false,.int .i64 0,.int .i64 0]) (by kernel_rfl) Tryd.underlying129 rfl rfl rfl rfl (by kernel_rfl) (by kernel_rfl) (by kernel_rfl)
theorem ty_130 : TyOk Tryd.prog 130 ⟨5,40,[.v (.int .i64 0),.v (.int .i64 0),.v (.bool false),.v (.int .i64 0),.v (.int .i64 0)],.st [(0,3),(1,3),(2,4),(3,2),(4,2)],true⟩:=z8 (zs:=[.int .i64 0,.int .i64 0,.bool false,.int .i64 0,.int .i64 0]) (by kernel_rfl) Tryd.underlying130 rfl rfl rfl rfl (by kernel_rfl) (by kernel_rfl) (by kernel_rfl)
theorem ty_132 : TyOk Tryd.prog 132 ⟨3,40,[.v (.slice none 0 0),.v (.bool false),.v (.int .i64 0)],.st [(0,67),(1,4),(2,3)],false⟩:=z8 (zs:=[.slice none 0 0,.bool false,.int .i64 0]) (by kernel_rfl) Tryd.underlying132 rfl rfl rfl rfl (by kernel_rfl) (by kernel_rfl) (by kernel_rfl)
theorem ty_133 : TyOk Tryd.prog 133 ⟨3,40,[.v (.slice none 0 0),.v (.bool false),.v (.int .i64 0)],.st [(0,67),(1,4),(2,3)],false⟩:=z8 (zs:=[.slice none 0 0,.bool false,.int .i64 0]) (by kernel_rfl) Tryd.underlying133 rfl rfl rfl rfl (by kernel_rfl) (by kernel_rfl) (by kernel_rfl)
theorem ty_137 : TyOk Tryd.prog 137 ⟨1,8,[.v (.nilFunc)],.fn,false⟩:=z8 (zs:=[.nilFunc]) (by kernel_rfl) Tryd.underlying137 rfl trivial rfl rfl (by kernel_rfl) (by kernel_rfl) (by kernel_rfl)
theorem ty_138 : TyOk Tryd.prog 138 ⟨1,8,[.v (.map none)],.mp 3 137,false⟩:=z8 (zs:=[.map none]) (by kernel_rfl) Tryd.underlying138 rfl ⟨rfl,rfl⟩ rfl rfl (by kernel_rfl) (by kernel_rfl) (by kernel_rfl)
theorem ty_140 : TyOk Tryd.prog 140 ⟨1,8,[.v (.pointer none)],.ptr 121,false⟩:=z8 (zs:=[.pointer none]) (by kernel_rfl) Tryd.underlying140 rfl rfl rfl rfl (by kernel_rfl) (by kernel_rfl) (by kernel_rfl)
theorem ty_144 : TyOk Tryd.prog 144 ⟨3,64,[.v (.slice none 0 0),.v (.string ⟨#[]⟩),.v (.slice none 0 0)],.st [(0,48),(1,9),(2,48)],false⟩:=z8 (zs:=[.slice none 0 0,.string ⟨#[]⟩,.slice none 0 0]) (by kernel_rfl) Tryd.underlying144 rfl rfl rfl rfl (by kernel_rfl) (by kernel_rfl) (by kernel_rfl)
theorem ty_145 : TyOk Tryd.prog 145 ⟨3,64,[.v (.slice none 0 0),.v (.string ⟨#[]⟩),.v (.slice none 0 0)],.st [(0,48),(1,9),(2,48)],false⟩:=z8 (zs:=[.slice none 0 0,.string ⟨#[]⟩,.slice none 0 0]) (by kernel_rfl) Tryd.underlying145 rfl rfl rfl rfl (by kernel_rfl) (by kernel_rfl) (by kernel_rfl)
theorem ty_148 : TyOk Tryd.prog 148 ⟨1,8,[.v (.pointer none)],.ptr 29,false⟩:=z8 (zs:=[.pointer none]) (by kernel_rfl) Tryd.underlying148 rfl rfl rfl rfl (by kernel_rfl) (by kernel_rfl) (by kernel_rfl)
theorem ty_149 : TyOk Tryd.prog 149 ⟨1,8,[.v (.pointer none)],.ptr 3,false⟩:=z8 (zs:=[.pointer none]) (by kernel_rfl) Tryd.underlying149 rfl rfl rfl rfl (by kernel_rfl) (by kernel_rfl) (by kernel_rfl)
theorem ty_150 : TyOk Tryd.prog 150 ⟨1,8,[.v (.nilFunc)],.fn,false⟩:=z8 (zs:=[.nilFunc]) (by kernel_rfl) Tryd.underlying150 rfl trivial rfl rfl (by kernel_rfl) (by kernel_rfl) (by kernel_rfl)
theorem ty_152 : TyOk Tryd.prog 152 ⟨1,8,[.v (.map none)],.mp 5 150,false⟩:=z8 (zs:=[.map none]) (by kernel_rfl) Tryd.underlying152 rfl ⟨rfl,rfl⟩ rfl rfl (by kernel_rfl) (by kernel_rfl) (by kernel_rfl)
theorem ty_158 : TyOk Tryd.prog 158 ⟨256,256,List.replicate 256 (.v (.bool false)),.arr 256 4,false⟩:=z8 (zs:=List.replicate 256 (.bool false)) (by kernel_rfl) Tryd.underlying158 List.map_replicate ⟨rfl,rfl⟩ List.length_replicate rfl (by kernel_rfl) (by kernel_rfl) (by kernel_rfl)
theorem ty_159 : TyOk Tryd.prog 159 ⟨256,256,List.replicate 256 (.v (.bool false)),.arr 256 4,false⟩:=z8 (zs:=List.replicate 256 (.bool false)) (by kernel_rfl) Tryd.underlying159 List.map_replicate ⟨rfl,rfl⟩ List.length_replicate rfl (by kernel_rfl) (by kernel_rfl) (by kernel_rfl)
theorem ty_163 : TyOk Tryd.prog 163 ⟨1,8,[.v (.pointer none)],.ptr 159,false⟩:=z8 (zs:=[.pointer none]) (by kernel_rfl) Tryd.underlying163 rfl rfl rfl rfl (by kernel_rfl) (by kernel_rfl) (by kernel_rfl)
theorem ty_164 : TyOk Tryd.prog 164 ⟨1,8,[.v (.pointer none)],.ptr 5,false⟩:=z8 (zs:=[.pointer none]) (by kernel_rfl) Tryd.underlying164 rfl rfl rfl rfl (by kernel_rfl) (by kernel_rfl) (by kernel_rfl)
theorem ty_168 : TyOk Tryd.prog 168 ⟨1,8,[.v (.nilFunc)],.fn,false⟩:=z8 (zs:=[.nilFunc]) (by kernel_rfl) Tryd.underlying168 rfl trivial rfl rfl (by kernel_rfl) (by kernel_rfl) (by kernel_rfl)
theorem ty_169 : TyOk Tryd.prog 169 ⟨3,48,[.v (.string ⟨#[]⟩),.v (.string ⟨#[]⟩),.v (.string ⟨#[]⟩)],.st [(0,9),(1,9),(2,9)],true⟩:=z8 (zs:=[.string ⟨#[]⟩,.string ⟨#[]⟩,.string ⟨#[]⟩]) (by kernel_rfl) Tryd.underlying169 rfl rfl rfl rfl (by kernel_rfl) (by kernel_rfl) (by kernel_rfl)
theorem ty_170 : TyOk Tryd.prog 170 ⟨3,48,[.v (.string ⟨#[]⟩),.v (.string ⟨#[]⟩),.v (.string ⟨#[]⟩)],.st [(0,9),(1,9),(2,9)],true⟩:=z8 (zs:=[.string ⟨#[]⟩,.string ⟨#[]⟩,.string ⟨#[]⟩]) (by kernel_rfl) Tryd.underlying170 rfl rfl rfl rfl (by kernel_rfl) (by kernel_rfl) (by kernel_rfl)
theorem ty_182 : TyOk Tryd.prog 182 ⟨1,8,[.v (.pointer none)],.oth,false⟩:=z8 (zs:=[.pointer none]) (by kernel_rfl) Tryd.underlying182 rfl trivial rfl rfl (by kernel_rfl) (by kernel_rfl) (by kernel_rfl)
theorem ty_188 : TyOk Tryd.prog 188 ⟨90,1440,List.replicate 90 (.v (.string ⟨#[]⟩)),.arr 30 170,false⟩:=z8 (zs:=List.replicate 90 (.string ⟨#[]⟩)) (by kernel_rfl) Tryd.underlying188 List.map_replicate ⟨rfl,rfl⟩ List.length_replicate rfl (by kernel_rfl) (by kernel_rfl) (by kernel_rfl)
theorem ty_190 : TyOk Tryd.prog 190 ⟨177,2832,List.replicate 177 (.v (.string ⟨#[]⟩)),.arr 59 170,false⟩:=z8 (zs:=List.replicate 177 (.string ⟨#[]⟩)) (by kernel_rfl) Tryd.underlying190 List.map_replicate ⟨rfl,rfl⟩ List.length_replicate rfl (by kernel_rfl) (by kernel_rfl) (by kernel_rfl)
theorem ty_197 : TyOk Tryd.prog 197 ⟨78,1248,List.replicate 78 (.v (.string ⟨#[]⟩)),.arr 26 170,false⟩:=z8 (zs:=List.replicate 78 (.string ⟨#[]⟩)) (by kernel_rfl) Tryd.underlying197 List.map_replicate ⟨rfl,rfl⟩ List.length_replicate rfl (by kernel_rfl) (by kernel_rfl) (by kernel_rfl)
theorem ty_205 : TyOk Tryd.prog 205 ⟨1,8,[.v (.int .i64 0)],.int .i64,false⟩:=z8 (zs:=[.int .i64 0]) (by kernel_rfl) Tryd.underlying205 rfl rfl rfl rfl (by kernel_rfl) (by kernel_rfl) (by kernel_rfl)
theorem ty_215 : TyOk Tryd.prog 215 ⟨1,8,[.v (.int .u64 0)],.int .u64,false⟩:=z8 (zs:=[.int .u64 0]) (by kernel_rfl) Tryd.underlying215 rfl rfl rfl rfl (by kernel_rfl) (by kernel_rfl) (by kernel_rfl)
theorem ty_222 : TyOk Tryd.prog 222 ⟨256,256,List.replicate 256 (.v (.int .u8 0)),.arr 256 5,false⟩:=z8 (zs:=List.replicate 256 (.int .u8 0)) (by kernel_rfl) Tryd.underlying222 List.map_replicate ⟨rfl,rfl⟩ List.length_replicate rfl (by kernel_rfl) (by kernel_rfl) (by kernel_rfl)
theorem ty_224 : TyOk Tryd.prog 224 ⟨1,8,[.v (.nilFunc)],.fn,false⟩:=z8 (zs:=[.nilFunc]) (by kernel_rfl) Tryd.underlying224 rfl trivial rfl rfl (by kernel_rfl) (by kernel_rfl) (by kernel_rfl)
theorem ty_226 : TyOk Tryd.prog 226 ⟨1,8,[.v (.int .u64 0)],.int .u64,false⟩:=z8 (zs:=[.int .u64 0]) (by kernel_rfl) Tryd.underlying226 rfl rfl rfl rfl (by kernel_rfl) (by kernel_rfl) (by kernel_rfl)
theorem ty_234 : TyOk Tryd.prog 234 ⟨1,24,[.v (.slice none 0 0)],.sl 236,false⟩:=z8 (zs:=[.slice none 0 0]) (by kernel_rfl) Tryd.underlying234 rfl rfl rfl rfl (by kernel_rfl) (by kernel_rfl) (by kernel_rfl)
theorem ty_235 : TyOk Tryd.prog 235 ⟨2,16,[.v (.int .i64 0),.v (.int .i64 0)],.st [(0,3),(1,3)],true⟩:=z8 (zs:=[.int .i64 0,.int .i64 0]) (by kernel_rfl) Tryd.underlying235 rfl rfl rfl rfl (by kernel_rfl) (by kernel_rfl) (by kernel_rfl)
theorem ty_236 : TyOk Tryd.prog 236 ⟨2,16,[.v (.int .i64 0),.v (.int .i64 0)],.st [(0,3),(1,3)],true⟩:=z8 (zs:=[.int .i64 0,.int .i64 0]) (by kernel_rfl) Tryd.underlying236 rfl rfl rfl rfl (by kernel_rfl) (by kernel_rfl) (by kernel_rfl)
theorem ty_238 : TyOk Tryd.prog 238 ⟨1,8,[.v (.pointer none)],.ptr 247,false⟩:=z8 (zs:=[.pointer none]) (by kernel_rfl) Tryd.underlying238 rfl rfl rfl rfl (by kernel_rfl) (by kernel_rfl) (by kernel_rfl)
theorem ty_239 : TyOk Tryd.prog 239 ⟨1,8,[.v (.pointer none)],.ptr 226,false⟩:=z8 (zs:=[.pointer none]) (by kernel_rfl) Tryd.underlying239 rfl rfl rfl rfl (by kernel_rfl) (by kernel_rfl) (by kernel_rfl)
theorem ty_241 : TyOk Tryd.prog 241 ⟨2,2,[.v (.int .u8 0),.v (.int .u8 0)],.st [(0,5),(1,5)],true⟩:=z8 (zs:=[.int .u8 0,.int .u8 0]) (by kernel_rfl) Tryd.underlying241 rfl rfl rfl rfl (by kernel_rfl) (by kernel_rfl) (by kernel_rfl)
theorem ty_242 : TyOk Tryd.prog 242 ⟨2,2,[.v (.int .u8 0),.v (.int .u8 0)],.st [(0,5),(1,5)],true⟩:=z8 (zs:=[.int .u8 0,.int .u8 0]) (by kernel_rfl) Tryd.underlying242 rfl rfl rfl rfl (by kernel_rfl) (by kernel_rfl) (by kernel_rfl)
theorem ty_243 : TyOk Tryd.prog 243 ⟨32,32,List.replicate 32 (.v (.int .u8 0)),.arr 16 242,false⟩:=z8 (zs:=List.replicate 32 (.int .u8 0)) (by kernel_rfl) Tryd.underlying243 List.map_replicate ⟨rfl,rfl⟩ List.length_replicate rfl (by kernel_rfl) (by kernel_rfl) (by kernel_rfl)
theorem ty_244 : TyOk Tryd.prog 244 ⟨1,24,[.v (.slice none 0 0)],.sl 249,false⟩:=z8 (zs:=[.slice none 0 0]) (by kernel_rfl) Tryd.underlying244 rfl rfl rfl rfl (by kernel_rfl) (by kernel_rfl) (by kernel_rfl)
theorem ty_245 : TyOk Tryd.prog 245 ⟨1,24,[.v (.slice none 0 0)],.sl 252,false⟩:=z8 (zs:=[.slice none 0 0]) (by kernel_rfl) Tryd.underlying245 rfl rfl rfl rfl (by kernel_rfl) (by kernel_rfl) (by kernel_rfl)
theorem ty_246 : TyOk Tryd.prog 246 ⟨3,56,[.v (.slice none 0 0),.v (.slice none 0 0),.v (.int .i64 0)],.st [(0,244),(1,245),(2,3)],false⟩:=z8 (zs:=[.slice none 0 0,.slice none 0 0,.int .i64 0]) (by kernel_rfl) Tryd.underlying246 rfl rfl rfl rfl (by kernel_rfl) (by kernel_rfl) (by kernel_rfl)
theorem ty_247 : TyOk Tryd.prog 247 ⟨3,56,[.v (.slice none 0 0),.v (.slice none 0 0),.v (.int .i64 0)],.st [(0,244),(1,245),(2,3)],false⟩:=z8 (zs:=[.slice none 0 0,.slice none 0 0,.int .i64 0]) (by kernel_rfl) Tryd.underlying247 rfl rfl rfl rfl (by kernel_rfl) (by kernel_rfl) (by kernel_rfl)
theorem ty_248 : TyOk Tryd.prog 248 ⟨3,6,[.v (.int .u16 0),.v (.int .u16 0),.v (.int .u16 0)],.st [(0,41),(1,41),(2,41)],true⟩:=z8 (zs:=[.int .u16 0,.int .u16 0,.int .u16 0]) (by kernel_rfl) Tryd.underlying248 rfl rfl rfl rfl (by kernel_rfl) (by kernel_rfl) (by kernel_rfl)
theorem ty_249 : TyOk Tryd.prog 249 ⟨3,6,[.v (.int .u16 0),.v (.int .u16 0),.v (.int .u16 0)],.st [(0,41),(1,41),(2,41)],true⟩:=z8 (zs:=[.int .u16 0,.int .u16 0,.int .u16 0]) (by kernel_rfl) Tryd.underlying249 rfl rfl rfl rfl (by kernel_rfl) (by kernel_rfl) (by kernel_rfl)
theorem ty_251 : TyOk Tryd.prog 251 ⟨3,12,[.v (.int .u32 0),.v (.int .u32 0),.v (.int .u32 0)],.st [(0,38),(1,38),(2,38)],true⟩:=z8 (zs:=[.int .u32 0,.int .u32 0,.int .u32 0]) (by kernel_rfl) Tryd.underlying251 rfl rfl rfl rfl (by kernel_rfl) (by kernel_rfl) (by kernel_rfl)
theorem ty_252 : TyOk Tryd.prog 252 ⟨3,12,[.v (.int .u32 0),.v (.int .u32 0),.v (.int .u32 0)],.st [(0,38),(1,38),(2,38)],true⟩:=z8 (zs:=[.int .u32 0,.int .u32 0,.int .u32 0]) (by kernel_rfl) Tryd.underlying252 rfl rfl rfl rfl (by kernel_rfl) (by kernel_rfl) (by kernel_rfl)
theorem ty_254 : TyOk Tryd.prog 254 ⟨1,8,[.v (.pointer none)],.ptr 249,false⟩:=z8 (zs:=[.pointer none]) (by kernel_rfl) Tryd.underlying254 rfl rfl rfl rfl (by kernel_rfl) (by kernel_rfl) (by kernel_rfl)
theorem ty_255 : TyOk Tryd.prog 255 ⟨1,8,[.v (.pointer none)],.ptr 252,false⟩:=z8 (zs:=[.pointer none]) (by kernel_rfl) Tryd.underlying255 rfl rfl rfl rfl (by kernel_rfl) (by kernel_rfl) (by kernel_rfl)
theorem ty_256 : TyOk Tryd.prog 256 ⟨4,40,[.v (.pointer none),.v (.pointer none),.v (.pointer none),.v (.string ⟨#[]⟩)],.st [(0,17),(1,17),(2,17),(3,9)],false⟩:=z8 (zs:=[.pointer none,.pointer none,.pointer none,.string ⟨#[]⟩]) (by kernel_rfl) Tryd.underlying256 rfl rfl rfl rfl (by kernel_rfl) (by kernel_rfl) (by kernel_rfl)
theorem ty_257 : TyOk Tryd.prog 257 ⟨4,40,[.v (.pointer none),.v (.pointer none),.v (.pointer none),.v (.string ⟨#[]⟩)],.st [(0,17),(1,17),(2,17),(3,9)],false⟩:=z8 (zs:=[.pointer none,.pointer none,.pointer none,.string ⟨#[]⟩]) (by kernel_rfl) Tryd.underlying257 rfl rfl rfl rfl (by kernel_rfl) (by kernel_rfl) (by kernel_rfl)
theorem ty_258 : TyOk Tryd.prog 258 ⟨0,0,[],.arr 0 16,false⟩:=z8 (zs:=[]) (by kernel_rfl) Tryd.underlying258 rfl ⟨rfl,rfl⟩ rfl rfl (by kernel_rfl) (by kernel_rfl) (by kernel_rfl)
theorem ty_259 : TyOk Tryd.prog 259 ⟨0,0,[],.st [(0,258)],false⟩:=z8 (zs:=[]) (by kernel_rfl) Tryd.underlying259 rfl rfl rfl rfl (by kernel_rfl) (by kernel_rfl) (by kernel_rfl)
theorem ty_260 : TyOk Tryd.prog 260 ⟨0,0,[],.st [(0,258)],false⟩:=z8 (zs:=[]) (by kernel_rfl) Tryd.underlying260 rfl rfl rfl rfl (by kernel_rfl) (by kernel_rfl) (by kernel_rfl)
theorem ty_262 : TyOk Tryd.prog 262 ⟨1,1,[.v (.int .u8 0)],.int .u8,false⟩:=z8 (zs:=[.int .u8 0]) (by kernel_rfl) Tryd.underlying262 rfl rfl rfl rfl (by kernel_rfl) (by kernel_rfl) (by kernel_rfl)
theorem ty_263 : TyOk Tryd.prog 263 ⟨1,1,[.v (.int .u8 0)],.int .u8,false⟩:=z8 (zs:=[.int .u8 0]) (by kernel_rfl) Tryd.underlying263 rfl rfl rfl rfl (by kernel_rfl) (by kernel_rfl) (by kernel_rfl)
theorem ty_265 : TyOk Tryd.prog 265 ⟨1,4,[.v (.int .i32 0)],.int .i32,false⟩:=z8 (zs:=[.int .i32 0]) (by kernel_rfl) Tryd.underlying265 rfl rfl rfl rfl (by kernel_rfl) (by kernel_rfl) (by kernel_rfl)
theorem ty_266 : TyOk Tryd.prog 266 ⟨1,4,[.v (.int .i32 0)],.int .i32,false⟩:=z8 (zs:=[.int .i32 0]) (by kernel_rfl) Tryd.underlying266 rfl rfl rfl rfl (by kernel_rfl) (by kernel_rfl) (by kernel_rfl)
theorem ty_267 : TyOk Tryd.prog 267 ⟨11,48,[.v (.int .u64 0),.v (.int .u64 0),.v (.int .u32 0),.v (.int .u8 0),.v (.int .u8 0),.v (.int .u8 0),.v (.int .u8 0),.v (.nilFunc),.v (.pointer none),.v (.int .i32 0),.v (.int .i32 0)],.st [(0,12),(1,12),(2,38),(3,262),(4,5),(5,5),(6,263),(7,264),(8,164),(9,265),(10,266)],false⟩:=z8 (zs:=[.int .u64 0,.int .u64 0,.int .u32 0,.int .u8 0,.int .u8 0,.int .u8 0,.int .u8 0,.nilFunc,.pointer none,.int .i32 0,.int .i32 0]) (by kernel_rfl) Tryd.underlying267 rfl rfl rfl rfl (by kernel_rfl) (by kernel_rfl) (by kernel_rfl)
theorem ty_268 : TyOk Tryd.prog 268 ⟨11,48,[.v (.int .u64 0),.v (.int .u64 0),.v (.int .u32 0),.v (.int .u8 0),.v (.int .u8 0),.v (.int .u8 0),.v (.int .u8 0),.v (.nilFunc),.v (.pointer none),.v (.int .i32 0),.v (.int .i32 0)],.st [(0,12),(1,12),(2,38),(3,262),(4,5),(5,5),(6,263),(7,264),(8,164),(9,265),(10,266)],false⟩:=z8 (zs:=[.int .u64 0,.int .u64 0,.int .u32 0,.int .u8 0,.int .u8 0,.int .u8 0,.int .u8 0,.nilFunc,.pointer none,.int .i32 0,.int .i32 0]) (by kernel_rfl) Tryd.underlying268 rfl rfl rfl rfl (by kernel_rfl) (by kernel_rfl) (by kernel_rfl)
def zfo : Nat→Option TyI
 | 1=>some ⟨1,8,[.v (.nilFunc)],.fn,false⟩
 | 2=>some ⟨1,8,[.v (.int .i64 0)],.int .i64,false⟩
 | 3=>some ⟨1,8,[.v (.int .i64 0)],.int .i64,false⟩
 | 4=>some ⟨1,1,[.v (.bool false)],.bool,false⟩
 | 5=>some ⟨1,1,[.v (.int .u8 0)],.int .u8,false⟩
 | 6=>some ⟨1,1,[.v (.int .u8 0)],.int .u8,false⟩
 | 7=>some ⟨4,24,[.v (.int .i64 0),.v (.int .i64 0),.v (.bool false),.v (.int .u8 0)],.st [(0,2),(1,3),(2,4),(3,6)],false⟩
 | 8=>some ⟨4,24,[.v (.int .i64 0),.v (.int .i64 0),.v (.bool false),.v (.int .u8 0)],.st [(0,2),(1,3),(2,4),(3,6)],false⟩
 | 9=>some ⟨1,16,[.v (.string ⟨#[]⟩)],.str,false⟩
 | 10=>some ⟨1,16,[.v (.string ⟨#[]⟩)],.str,false⟩
 | 11=>some ⟨1,16,[.v (.string ⟨#[]⟩)],.str,false⟩
 | 12=>some ⟨1,8,[.v (.int .u64 0)],.int .u64,false⟩
 | 13=>some ⟨2,24,[.v (.string ⟨#[]⟩),.v (.int .u64 0)],.st [(0,9),(1,12)],false⟩
 | 14=>some ⟨2,24,[.v (.string ⟨#[]⟩),.v (.int .u64 0)],.st [(0,9),(1,12)],false⟩
 | 15=>some ⟨1,8,[.v (.pointer none)],.ptr 257,false⟩
 | 16=>some ⟨1,8,[.v (.pointer none)],.ptr 260,false⟩
 | 17=>some ⟨1,8,[.v (.pointer none)],.ptr 268,false⟩
 | 18=>some ⟨1,8,[.v (.pointer none)],.st [(0,17)],false⟩
 | 19=>some ⟨1,8,[.v (.pointer none)],.st [(0,17)],false⟩
 | 21=>some ⟨1,4,[.v (.int .i32 0)],.int .i32,false⟩
 | 22=>some ⟨1,24,[.v (.slice none 0 0)],.sl 43,false⟩
 | 23=>some ⟨1,8,[.v (.nilFunc)],.fn,false⟩
 | 24=>some ⟨1,8,[.v (.nilFunc)],.fn,false⟩
 | 25=>some ⟨1,24,[.v (.slice none 0 0)],.sl 5,false⟩
 | 26=>some ⟨1,24,[.v (.slice none 0 0)],.sl 9,false⟩
 | 27=>some ⟨2,16,[.v (.int .i64 0),.v (.int .i64 0)],.arr 2 3,false⟩
 | 28=>some ⟨11,120,[.v (.int .i64 0),.v (.int .i64 0),.v (.int .i64 0),.v (.int .i64 0),.v (.int .i64 0),.v (.slice none 0 0),.v (.slice none 0 0),.v (.int .i64 0),.v (.int .i64 0),.v (.int .i64 0),.v (.int .i64 0)],.st [(0,3),(1,3),(2,3),(3,3),(4,3),(5,25),(6,26),(7,3),(8,27),(10,3)],false⟩
 | 29=>some ⟨11,120,[.v (.int .i64 0),.v (.int .i64 0),.v (.int .i64 0),.v (.int .i64 0),.v (.int .i64 0),.v (.slice none 0 0),.v (.slice none 0 0),.v (.int .i64 0),.v (.int .i64 0),.v (.int .i64 0),.v (.int .i64 0)],.st [(0,3),(1,3),(2,3),(3,3),(4,3),(5,25),(6,26),(7,3),(8,27),(10,3)],false⟩
 | 30=>some ⟨16,168,[.v (.bool false),.v (.int .i64 0),.v (.int .i64 0),.v (.int .i64 0),.v (.int .i64 0),.v (.int .i64 0),.v (.int .i64 0),.v (.int .i64 0),.v (.int .i64 0),.v (.slice none 0 0),.v (.slice none 0 0),.v (.int .i64 0),.v (.int .i64 0),.v (.int .i64 0),.v (.int .i64 0),.v (.string ⟨#[]⟩)],.st [(0,4),(1,2),(2,2),(3,2),(4,29),(15,9)],false⟩
 | 31=>some ⟨16,168,[.v (.bool false),.v (.int .i64 0),.v (.int .i64 0),.v (.int .i64 0),.v (.int .i64 0),.v (.int .i64 0),.v (.int .i64 0),.v (.int .i64 0),.v (.int .i64 0),.v (.slice none 0 0),.v (.slice none 0 0),.v (.int .i64 0),.v (.int .i64 0),.v (.int .i64 0),.v (.int .i64 0),.v (.string ⟨#[]⟩)],.st [(0,4),(1,2),(2,2),(3,2),(4,29),(15,9)],false⟩
 | 32=>some ⟨1,24,[.v (.slice none 0 0)],.sl 88,false⟩
 | 33=>some ⟨1,8,[.v (.int .i64 0)],.int .i64,false⟩
 | 35=>some ⟨1,8,[.v (.nilFunc)],.fn,false⟩
 | 37=>some ⟨1,8,[.v (.nilFunc)],.fn,false⟩
 | 38=>some ⟨1,4,[.v (.int .u32 0)],.int .u32,false⟩
 | 39=>some ⟨1,4,[.v (.int .u32 0)],.int .u32,false⟩
 | 40=>some ⟨1,8,[.v (.int .u64 0)],.int .u64,false⟩
 | 41=>some ⟨1,2,[.v (.int .u16 0)],.int .u16,false⟩
 | 42=>some ⟨6,32,[.v (.int .u8 0),.v (.string ⟨#[]⟩),.v (.int .u8 0),.v (.int .u8 0),.v (.int .u16 0),.v (.int .u16 0)],.st [(0,5),(1,9),(2,5),(3,5),(4,41),(5,41)],true⟩
 | 43=>some ⟨6,32,[.v (.int .u8 0),.v (.string ⟨#[]⟩),.v (.int .u8 0),.v (.int .u8 0),.v (.int .u16 0),.v (.int .u16 0)],.st [(0,5),(1,9),(2,5),(3,5),(4,41),(5,41)],true⟩
 | _=>none
theorem zfk : TabOk Tryd.prog zfo:=by
 intro t i h
 unfold zfo at h
 split at h
 ·exact Option.some.inj h ▸ ty_1
 ·exact Option.some.inj h ▸ ty_2
 ·exact Option.some.inj h ▸ ty_3
 ·exact Option.some.inj h ▸ ty_4
 ·exact Option.some.inj h ▸ ty_5
 ·exact Option.some.inj h ▸ ty_6
 ·exact Option.some.inj h ▸ ty_7
 ·exact Option.some.inj h ▸ ty_8
 ·exact Option.some.inj h ▸ ty_9
 ·exact Option.some.inj h ▸ ty_10
 ·exact Option.some.inj h ▸ ty_11
 ·exact Option.some.inj h ▸ ty_12
 ·exact Option.some.inj h ▸ ty_13
 ·exact Option.some.inj h ▸ ty_14
 ·exact Option.some.inj h ▸ ty_15
 ·exact Option.some.inj h ▸ ty_16
 ·exact Option.some.inj h ▸ ty_17
 ·exact Option.some.inj h ▸ ty_18
 ·exact Option.some.inj h ▸ ty_19
 ·exact Option.some.inj h ▸ ty_21
 ·exact Option.some.inj h ▸ ty_22
 ·exact Option.some.inj h ▸ ty_23
 ·exact Option.some.inj h ▸ ty_24
 ·exact Option.some.inj h ▸ ty_25
 ·exact Option.some.inj h ▸ ty_26
 ·exact Option.some.inj h ▸ ty_27
 ·exact Option.some.inj h ▸ ty_28
 ·exact Option.some.inj h ▸ ty_29
 ·exact Option.some.inj h ▸ ty_30
 ·exact Option.some.inj h ▸ ty_31
 ·exact Option.some.inj h ▸ ty_32
 ·exact Option.some.inj h ▸ ty_33
 ·exact Option.some.inj h ▸ ty_35
 ·exact Option.some.inj h ▸ ty_37
 ·exact Option.some.inj h ▸ ty_38
 ·exact Option.some.inj h ▸ ty_39
 ·exact Option.some.inj h ▸ ty_40
 ·exact Option.some.inj h ▸ ty_41
 ·exact Option.some.inj h ▸ ty_42
 ·exact Option.some.inj h ▸ ty_43
 ·cases h
def zfn : Nat→Option TyI
 | 44=>some ⟨1,8,[.v (.nilFunc)],.fn,false⟩
 | 45=>some ⟨1,8,[.v (.nilFunc)],.fn,false⟩
 | 47=>some ⟨1,8,[.v (.nilFunc)],.fn,false⟩
 | 48=>some ⟨1,24,[.v (.slice none 0 0)],.sl 2,false⟩
 | 49=>some ⟨6,88,[.v (.int .i64 0),.v (.int .i64 0),.v (.int .i64 0),.v (.slice none 0 0),.v (.string ⟨#[]⟩),.v (.slice none 0 0)],.st [(0,3),(1,3),(2,3),(3,48),(4,9),(5,48)],false⟩
 | 50=>some ⟨6,88,[.v (.int .i64 0),.v (.int .i64 0),.v (.int .i64 0),.v (.slice none 0 0),.v (.string ⟨#[]⟩),.v (.slice none 0 0)],.st [(0,3),(1,3),(2,3),(3,48),(4,9),(5,48)],false⟩
 | 51=>some ⟨1,8,[.v (.nilFunc)],.fn,false⟩
 | 53=>some ⟨1,8,[.v (.nilFunc)],.fn,false⟩
 | 54=>some ⟨1,8,[.v (.nilFunc)],.fn,false⟩
 | 56=>some ⟨1,8,[.v (.nilFunc)],.fn,false⟩
 | 57=>some ⟨1,8,[.v (.nilFunc)],.fn,false⟩
 | 58=>some ⟨1,8,[.v (.nilFunc)],.fn,false⟩
 | 65=>some ⟨4,32,[.v (.int .i64 0),.v (.int .i64 0),.v (.int .i64 0),.v (.int .i64 0)],.st [(0,3),(1,3),(2,3),(3,3)],true⟩
 | 66=>some ⟨4,32,[.v (.int .i64 0),.v (.int .i64 0),.v (.int .i64 0),.v (.int .i64 0)],.st [(0,3),(1,3),(2,3),(3,3)],true⟩
 | 67=>some ⟨1,24,[.v (.slice none 0 0)],.sl 3,false⟩
 | 68=>some ⟨2,16,[.v (.int .i64 0),.v (.int .i64 0)],.st [(0,3),(1,3)],true⟩
 | 69=>some ⟨2,16,[.v (.int .i64 0),.v (.int .i64 0)],.st [(0,3),(1,3)],true⟩
 | 72=>some ⟨1,24,[.v (.slice none 0 0)],.sl 50,false⟩
 | 74=>some ⟨3,24,[.v (.int .u32 0),.v (.int .i64 0),.v (.int .i64 0)],.st [(0,39),(1,3),(2,3)],true⟩
 | 75=>some ⟨3,24,[.v (.int .u32 0),.v (.int .i64 0),.v (.int .i64 0)],.st [(0,39),(1,3),(2,3)],true⟩
 | 76=>some ⟨1,8,[.v (.map none)],.mp 2 127,false⟩
 | 77=>some ⟨1,8,[.v (.map none)],.mp 2 130,false⟩
 | 78=>some ⟨4,32,[.v (.bool false),.v (.int .i64 0),.v (.int .i64 0),.v (.int .i64 0)],.st [(0,4),(1,2),(2,2),(3,2)],true⟩
 | 79=>some ⟨4,32,[.v (.bool false),.v (.int .i64 0),.v (.int .i64 0),.v (.int .i64 0)],.st [(0,4),(1,2),(2,2),(3,2)],true⟩
 | 80=>some ⟨11,88,[.v (.int .u32 0),.v (.int .i64 0),.v (.int .i64 0),.v (.int .i64 0),.v (.int .i64 0),.v (.map none),.v (.map none),.v (.bool false),.v (.int .i64 0),.v (.int .i64 0),.v (.int .i64 0)],.st [(0,75),(3,3),(4,3),(5,76),(6,77),(7,79)],false⟩
 | 81=>some ⟨11,88,[.v (.int .u32 0),.v (.int .i64 0),.v (.int .i64 0),.v (.int .i64 0),.v (.int .i64 0),.v (.map none),.v (.map none),.v (.bool false),.v (.int .i64 0),.v (.int .i64 0),.v (.int .i64 0)],.st [(0,75),(3,3),(4,3),(5,76),(6,77),(7,79)],false⟩
 | 84=>some ⟨1,8,[.v (.map none)],.mp 2 4,false⟩
 | 86=>some ⟨1,8,[.v (.nilFunc)],.fn,false⟩
 | 87=>some ⟨4,72,[.v (.int .i64 0),.v (.slice none 0 0),.v (.string ⟨#[]⟩),.v (.slice none 0 0)],.st [(0,3),(1,48),(2,9),(3,48)],false⟩
 | 88=>some ⟨4,72,[.v (.int .i64 0),.v (.slice none 0 0),.v (.string ⟨#[]⟩),.v (.slice none 0 0)],.st [(0,3),(1,48),(2,9),(3,48)],false⟩
 | 89=>some ⟨1,8,[.v (.map none)],.mp 39 4,false⟩
 | 90=>some ⟨1,24,[.v (.slice none 0 0)],.sl 39,false⟩
 | 99=>some ⟨1,8,[.v (.nilFunc)],.fn,false⟩
 | 101=>some ⟨1,8,[.v (.map none)],.mp 3 99,false⟩
 | 108=>some ⟨1,8,[.v (.pointer none)],.ptr 110,false⟩
 | 109=>some ⟨2,32,[.v (.pointer none),.v (.slice none 0 0)],.st [(0,108),(1,25)],false⟩
 | 110=>some ⟨2,32,[.v (.pointer none),.v (.slice none 0 0)],.st [(0,108),(1,25)],false⟩
 | 120=>some ⟨12,112,[.v (.int .u32 0),.v (.int .i64 0),.v (.int .i64 0),.v (.int .i64 0),.v (.int .i64 0),.v (.map none),.v (.map none),.v (.bool false),.v (.int .i64 0),.v (.int .i64 0),.v (.int .i64 0),.v (.slice none 0 0)],.st [(0,81),(11,32)],false⟩
 | 121=>some ⟨12,112,[.v (.int .u32 0),.v (.int .i64 0),.v (.int .i64 0),.v (.int .i64 0),.v (.int .i64 0),.v (.map none),.v (.map none),.v (.bool false),.v (.int .i64 0),.v (.int .i64 0),.v (.int .i64 0),.v (.slice none 0 0)],.st [(0,81),(11,32)],false⟩
 | 126=>some ⟨4,40,[.v (.int .i64 0),.v (.int .i64 0),.v (.int .i64 0),.v (.string ⟨#[]⟩)],.st [(0,2),(1,2),(2,2),(3,9)],true⟩
 | _=>none
theorem zfj : TabOk Tryd.prog zfn:=by
 intro t i h
 unfold zfn at h
 split at h
 ·exact Option.some.inj h ▸ ty_44
 ·exact Option.some.inj h ▸ ty_45
 ·exact Option.some.inj h ▸ ty_47
 ·exact Option.some.inj h ▸ ty_48
 ·exact Option.some.inj h ▸ ty_49
 ·exact Option.some.inj h ▸ ty_50
 ·exact Option.some.inj h ▸ ty_51
 ·exact Option.some.inj h ▸ ty_53
 ·exact Option.some.inj h ▸ ty_54
 ·exact Option.some.inj h ▸ ty_56
 ·exact Option.some.inj h ▸ ty_57
 ·exact Option.some.inj h ▸ ty_58
 ·exact Option.some.inj h ▸ ty_65
 ·exact Option.some.inj h ▸ ty_66
 ·exact Option.some.inj h ▸ ty_67
 ·exact Option.some.inj h ▸ ty_68
 ·exact Option.some.inj h ▸ ty_69
 ·exact Option.some.inj h ▸ ty_72
 ·exact Option.some.inj h ▸ ty_74
 ·exact Option.some.inj h ▸ ty_75
 ·exact Option.some.inj h ▸ ty_76
 ·exact Option.some.inj h ▸ ty_77
 ·exact Option.some.inj h ▸ ty_78
 ·exact Option.some.inj h ▸ ty_79
 ·exact Option.some.inj h ▸ ty_80
 ·exact Option.some.inj h ▸ ty_81
 ·exact Option.some.inj h ▸ ty_84
 ·exact Option.some.inj h ▸ ty_86
 ·exact Option.some.inj h ▸ ty_87
 ·exact Option.some.inj h ▸ ty_88
 ·exact Option.some.inj h ▸ ty_89
 ·exact Option.some.inj h ▸ ty_90
 ·exact Option.some.inj h ▸ ty_99
 ·exact Option.some.inj h ▸ ty_101
 ·exact Option.some.inj h ▸ ty_108
 ·exact Option.some.inj h ▸ ty_109
 ·exact Option.some.inj h ▸ ty_110
 ·exact Option.some.inj h ▸ ty_120
 ·exact Option.some.inj h ▸ ty_121
 ·exact Option.some.inj h ▸ ty_126
 ·cases h
def zfm : Nat→Option TyI
 | 127=>some ⟨4,40,[.v (.int .i64 0),.v (.int .i64 0),.v (.int .i64 0),.v (.string ⟨#[]⟩)],.st [(0,2),(1,2),(2,2),(3,9)],true⟩
 | 129=>some ⟨5,40,[.v (.int .i64 0),.v (.int .i64 0),.v (.bool false),.v (.int .i64 0),.v (.int .i64 0)],.st [(0,3),(1,3),(2,4),(3,2),(4,2)],true⟩
 | 130=>some ⟨5,40,[.v (.int .i64 0),.v (.int .i64 0),.v (.bool false),.v (.int .i64 0),.v (.int .i64 0)],.st [(0,3),(1,3),(2,4),(3,2),(4,2)],true⟩
 | 132=>some ⟨3,40,[.v (.slice none 0 0),.v (.bool false),.v (.int .i64 0)],.st [(0,67),(1,4),(2,3)],false⟩
 | 133=>some ⟨3,40,[.v (.slice none 0 0),.v (.bool false),.v (.int .i64 0)],.st [(0,67),(1,4),(2,3)],false⟩
 | 137=>some ⟨1,8,[.v (.nilFunc)],.fn,false⟩
 | 138=>some ⟨1,8,[.v (.map none)],.mp 3 137,false⟩
 | 140=>some ⟨1,8,[.v (.pointer none)],.ptr 121,false⟩
 | 144=>some ⟨3,64,[.v (.slice none 0 0),.v (.string ⟨#[]⟩),.v (.slice none 0 0)],.st [(0,48),(1,9),(2,48)],false⟩
 | 145=>some ⟨3,64,[.v (.slice none 0 0),.v (.string ⟨#[]⟩),.v (.slice none 0 0)],.st [(0,48),(1,9),(2,48)],false⟩
 | 148=>some ⟨1,8,[.v (.pointer none)],.ptr 29,false⟩
 | 149=>some ⟨1,8,[.v (.pointer none)],.ptr 3,false⟩
 | 150=>some ⟨1,8,[.v (.nilFunc)],.fn,false⟩
 | 152=>some ⟨1,8,[.v (.map none)],.mp 5 150,false⟩
 | 158=>some ⟨256,256,List.replicate 256 (.v (.bool false)),.arr 256 4,false⟩
 | 159=>some ⟨256,256,List.replicate 256 (.v (.bool false)),.arr 256 4,false⟩
 | 163=>some ⟨1,8,[.v (.pointer none)],.ptr 159,false⟩
 | 164=>some ⟨1,8,[.v (.pointer none)],.ptr 5,false⟩
 | 168=>some ⟨1,8,[.v (.nilFunc)],.fn,false⟩
 | 169=>some ⟨3,48,[.v (.string ⟨#[]⟩),.v (.string ⟨#[]⟩),.v (.string ⟨#[]⟩)],.st [(0,9),(1,9),(2,9)],true⟩
 | 170=>some ⟨3,48,[.v (.string ⟨#[]⟩),.v (.string ⟨#[]⟩),.v (.string ⟨#[]⟩)],.st [(0,9),(1,9),(2,9)],true⟩
 | 182=>some ⟨1,8,[.v (.pointer none)],.oth,false⟩
 | 188=>some ⟨90,1440,List.replicate 90 (.v (.string ⟨#[]⟩)),.arr 30 170,false⟩
 | 190=>some ⟨177,2832,List.replicate 177 (.v (.string ⟨#[]⟩)),.arr 59 170,false⟩
 | 197=>some ⟨78,1248,List.replicate 78 (.v (.string ⟨#[]⟩)),.arr 26 170,false⟩
 | 205=>some ⟨1,8,[.v (.int .i64 0)],.int .i64,false⟩
 | 215=>some ⟨1,8,[.v (.int .u64 0)],.int .u64,false⟩
 | 222=>some ⟨256,256,List.replicate 256 (.v (.int .u8 0)),.arr 256 5,false⟩
 | 224=>some ⟨1,8,[.v (.nilFunc)],.fn,false⟩
 | 226=>some ⟨1,8,[.v (.int .u64 0)],.int .u64,false⟩
 | 234=>some ⟨1,24,[.v (.slice none 0 0)],.sl 236,false⟩
 | 235=>some ⟨2,16,[.v (.int .i64 0),.v (.int .i64 0)],.st [(0,3),(1,3)],true⟩
 | 236=>some ⟨2,16,[.v (.int .i64 0),.v (.int .i64 0)],.st [(0,3),(1,3)],true⟩
 | 238=>some ⟨1,8,[.v (.pointer none)],.ptr 247,false⟩
 | 239=>some ⟨1,8,[.v (.pointer none)],.ptr 226,false⟩
 | 241=>some ⟨2,2,[.v (.int .u8 0),.v (.int .u8 0)],.st [(0,5),(1,5)],true⟩
 | 242=>some ⟨2,2,[.v (.int .u8 0),.v (.int .u8 0)],.st [(0,5),(1,5)],true⟩
 | 243=>some ⟨32,32,List.replicate 32 (.v (.int .u8 0)),.arr 16 242,false⟩
 | 244=>some ⟨1,24,[.v (.slice none 0 0)],.sl 249,false⟩
 | 245=>some ⟨1,24,[.v (.slice none 0 0)],.sl 252,false⟩
 | _=>none
theorem zfi : TabOk Tryd.prog zfm:=by
 intro t i h
 unfold zfm at h
 split at h
 ·exact Option.some.inj h ▸ ty_127
 ·exact Option.some.inj h ▸ ty_129
 ·exact Option.some.inj h ▸ ty_130
 ·exact Option.some.inj h ▸ ty_132
 ·exact Option.some.inj h ▸ ty_133
 ·exact Option.some.inj h ▸ ty_137
 ·exact Option.some.inj h ▸ ty_138
 ·exact Option.some.inj h ▸ ty_140
 ·exact Option.some.inj h ▸ ty_144
 ·exact Option.some.inj h ▸ ty_145
 ·exact Option.some.inj h ▸ ty_148
 ·exact Option.some.inj h ▸ ty_149
 ·exact Option.some.inj h ▸ ty_150
 ·exact Option.some.inj h ▸ ty_152
 ·exact Option.some.inj h ▸ ty_158
 ·exact Option.some.inj h ▸ ty_159
 ·exact Option.some.inj h ▸ ty_163
 ·exact Option.some.inj h ▸ ty_164
 ·exact Option.some.inj h ▸ ty_168
 ·exact Option.some.inj h ▸ ty_169
 ·exact Option.some.inj h ▸ ty_170
 ·exact Option.some.inj h ▸ ty_182
 ·exact Option.some.inj h ▸ ty_188
 ·exact Option.some.inj h ▸ ty_190
 ·exact Option.some.inj h ▸ ty_197
 ·exact Option.some.inj h ▸ ty_205
 ·exact Option.some.inj h ▸ ty_215
 ·exact Option.some.inj h ▸ ty_222
 ·exact Option.some.inj h ▸ ty_224
 ·exact Option.some.inj h ▸ ty_226
 ·exact Option.some.inj h ▸ ty_234
 ·exact Option.some.inj h ▸ ty_235
 ·exact Option.some.inj h ▸ ty_236
 ·exact Option.some.inj h ▸ ty_238
 ·exact Option.some.inj h ▸ ty_239
 ·exact Option.some.inj h ▸ ty_241
 ·exact Option.some.inj h ▸ ty_242
 ·exact Option.some.inj h ▸ ty_243
 ·exact Option.some.inj h ▸ ty_244
 ·exact Option.some.inj h ▸ ty_245
 ·cases h
def zfl : Nat→Option TyI
 | 246=>some ⟨3,56,[.v (.slice none 0 0),.v (.slice none 0 0),.v (.int .i64 0)],.st [(0,244),(1,245),(2,3)],false⟩
 | 247=>some ⟨3,56,[.v (.slice none 0 0),.v (.slice none 0 0),.v (.int .i64 0)],.st [(0,244),(1,245),(2,3)],false⟩
 | 248=>some ⟨3,6,[.v (.int .u16 0),.v (.int .u16 0),.v (.int .u16 0)],.st [(0,41),(1,41),(2,41)],true⟩
 | 249=>some ⟨3,6,[.v (.int .u16 0),.v (.int .u16 0),.v (.int .u16 0)],.st [(0,41),(1,41),(2,41)],true⟩
 | 251=>some ⟨3,12,[.v (.int .u32 0),.v (.int .u32 0),.v (.int .u32 0)],.st [(0,38),(1,38),(2,38)],true⟩
 | 252=>some ⟨3,12,[.v (.int .u32 0),.v (.int .u32 0),.v (.int .u32 0)],.st [(0,38),(1,38),(2,38)],true⟩
 | 254=>some ⟨1,8,[.v (.pointer none)],.ptr 249,false⟩
 | 255=>some ⟨1,8,[.v (.pointer none)],.ptr 252,false⟩
 | 256=>some ⟨4,40,[.v (.pointer none),.v (.pointer none),.v (.pointer none),.v (.string ⟨#[]⟩)],.st [(0,17),(1,17),(2,17),(3,9)],false⟩
 | 257=>some ⟨4,40,[.v (.pointer none),.v (.pointer none),.v (.pointer none),.v (.string ⟨#[]⟩)],.st [(0,17),(1,17),(2,17),(3,9)],false⟩
 | 258=>some ⟨0,0,[],.arr 0 16,false⟩
 | 259=>some ⟨0,0,[],.st [(0,258)],false⟩
 | 260=>some ⟨0,0,[],.st [(0,258)],false⟩
 | 262=>some ⟨1,1,[.v (.int .u8 0)],.int .u8,false⟩
 | 263=>some ⟨1,1,[.v (.int .u8 0)],.int .u8,false⟩
 | 265=>some ⟨1,4,[.v (.int .i32 0)],.int .i32,false⟩
 | 266=>some ⟨1,4,[.v (.int .i32 0)],.int .i32,false⟩
 | 267=>some ⟨11,48,[.v (.int .u64 0),.v (.int .u64 0),.v (.int .u32 0),.v (.int .u8 0),.v (.int .u8 0),.v (.int .u8 0),.v (.int .u8 0),.v (.nilFunc),.v (.pointer none),.v (.int .i32 0),.v (.int .i32 0)],.st [(0,12),(1,12),(2,38),(3,262),(4,5),(5,5),(6,263),(7,264),(8,164),(9,265),(10,266)],false⟩
 | 268=>some ⟨11,48,[.v (.int .u64 0),.v (.int .u64 0),.v (.int .u32 0),.v (.int .u8 0),.v (.int .u8 0),.v (.int .u8 0),.v (.int .u8 0),.v (.nilFunc),.v (.pointer none),.v (.int .i32 0),.v (.int .i32 0)],.st [(0,12),(1,12),(2,38),(3,262),(4,5),(5,5),(6,263),(7,264),(8,164),(9,265),(10,266)],false⟩
 | _=>none
theorem zfh : TabOk Tryd.prog zfl:=by
 intro t i h
 unfold zfl at h
 split at h
 ·exact Option.some.inj h ▸ ty_246
 ·exact Option.some.inj h ▸ ty_247
 ·exact Option.some.inj h ▸ ty_248
 ·exact Option.some.inj h ▸ ty_249
 ·exact Option.some.inj h ▸ ty_251
 ·exact Option.some.inj h ▸ ty_252
 ·exact Option.some.inj h ▸ ty_254
 ·exact Option.some.inj h ▸ ty_255
 ·exact Option.some.inj h ▸ ty_256
 ·exact Option.some.inj h ▸ ty_257
 ·exact Option.some.inj h ▸ ty_258
 ·exact Option.some.inj h ▸ ty_259
 ·exact Option.some.inj h ▸ ty_260
 ·exact Option.some.inj h ▸ ty_262
 ·exact Option.some.inj h ▸ ty_263
 ·exact Option.some.inj h ▸ ty_265
 ·exact Option.some.inj h ▸ ty_266
 ·exact Option.some.inj h ▸ ty_267
 ·exact Option.some.inj h ▸ ty_268
 ·cases h
def tab (t : Nat) : Option TyI:=(zfo t).or ((zfn t).or ((zfm t).or ((zfl t).or (none))))
theorem zc : TabOk Tryd.prog tab:=by
 intro t i h
 unfold tab at h
 rcases Option.or_eq_some_iff.1 h with h | ⟨-,h⟩
 ·exact zfk t i h
 rcases Option.or_eq_some_iff.1 h with h | ⟨-,h⟩
 ·exact zfj t i h
 rcases Option.or_eq_some_iff.1 h with h | ⟨-,h⟩
 ·exact zfi t i h
 rcases Option.or_eq_some_iff.1 h with h | ⟨-,h⟩
 ·exact zfh t i h
 cases h
end

section
open Go.RowKit
set_option maxRecDepth 10000
end

section
open Go.RowKit
set_option maxRecDepth 10000
end

section
open Go.RowKit
set_option maxRecDepth 10000
/- a byte of a command -/
end

section
open Go.RowKit
set_option maxRecDepth 10000
theorem CallT.empty {P : Program} {f : FuncId} {Q : T→Hp→Prop} (hgo : goB P f = true) (h : ∀ A k,CallT P f [.v (.slice A 0 k)] [] Q) : CallT P f [.islc [] 0 none] [] Q:=
 ⟨hgo,fun X0 M us hS hr=>by
  obtain ⟨u,q,rfl,⟨A,k,rfl,h2⟩,hq⟩:=hr
  exact (h A k).2 X0 M _ hS ⟨_,q,rfl,rfl,hq⟩⟩
end

section
open Go.RowKit
set_option maxRecDepth 10000
theorem zd8 (c : Int) : CallP Tryd.prog 67 [I64 c] (BL (decide (1≤c) && decide (c≤8))):=by
 refine CallP.intro2 yw yw ?_;refine CallT.intro zc Tryd.func67 rfl (by kernel_rfl) (Nat.le_of_ble_eq_true rfl) ?_;refine ze zc [] rfl ?_;refine za rfl ?_;refine zb ?_;refine ze zc [] rfl ?_;iterate 3 refine za rfl ?_
 refine' zx (d:=8) [_,_,_] rfl ?_ rfl ?_
 rotate_left
 ·refine zw rfl rfl (fun hb1_2=>?_) (fun hb1_2=>?_)
  ·have ghb1_2:=hb1_2
   try simp only [zf,Bool.not_true,Bool.not_false] at ghb1_2
   refine za rfl ?_;refine zd rfl rfl hb1_2 ?_;refine za rfl ?_;refine zh rfl (fun _=>rfl) ?_;exact zb ⟨rfl,rfl⟩
  ·refine zl rfl rfl hb1_2 ?_;exact zh rfl (fun h=>absurd (h.symm.trans hb1_2) (by decide)) (zb ⟨rfl,rfl⟩)
 refine za rfl ?_;refine zb ?_;refine yr ?_;exact ⟨trivial,_,rfl,Cv.eq (by cases decide (1≤c) <;> rfl) rfl⟩
theorem base_p (c : Nat) (h1 : 1≤c) (h2 : c≤8) : CallP Tryd.prog 36 [I64 c] (.tup [.v (.int .u32 ((c * 1048576 : Nat) : Int)),BL true]):=by
 have hi : CallP Tryd.prog 67 [I64 c] (BL true):=by
  have:=zd8 c
  rwa [show (decide (1≤(c : Int)) && decide ((c : Int)≤8)) = true from by simp;omega] at this
 have w32 : ∀ {n : Int},0≤n∧n < 4294967296→IntKind.u32.wrap n = n:=fun {n} h=>by show n.emod _ = n;exact Int.emod_eq_of_lt h.1 h.2
 refine CallP.intro2 yw yw ?_;refine CallT.intro zc Tryd.func36 rfl (by kernel_rfl) (Nat.le_of_ble_eq_true rfl) ?_;refine ze zc [] rfl ?_;iterate 2 refine za rfl ?_
 refine zb ?_;refine zo ?_;refine ze zc [] rfl ?_;refine za rfl ?_;refine z6 rfl rfl rfl (hi) ?_;refine za rfl ?_;refine zb ?_;refine zi rfl (fun hc0=>?_) (fun hc0=>?_)
 ·exact absurd hc0 (by decide)
 ·(try simp only [zf] at hc0)
  refine zt ?_;refine ze zc [] rfl ?_;refine za rfl ?_;refine za (t:=.v (.int .u32 (c : Int))) (by show some (T.v (.int .u32 (IntKind.u32.wrap (c : Int))),(none : Option (Nat × List T))) = _;rw [w32 zu]) ?_;refine za (t:=.v (.int .u32 ((c * 1048576 : Nat) : Int))) (by show some (T.v (.int .u32 (IntKind.u32.wrap ((c : Int) * 1048576))),(none : Option (Nat × List T))) = _;rw [w32 zu];rfl) ?_;iterate 2 refine za rfl ?_
  refine zb ?_;refine yr ?_;exact ⟨trivial,_,rfl,Cv.eq (by first | rfl | (simp [*];done)) rfl⟩
end

section
open Go.RowKit
set_option maxRecDepth 10000
set_option maxHeartbeats 1000000
structure Rq where
 code : Int
 n : List Int
 b : List UInt8
 l : List Int
deriving DecidableEq,Inhabited
abbrev cIf (l : List Int) : T:=.islc (encL cI l) l.length none
end

section
open Go.RowKit
set_option maxRecDepth 10000
structure Fr where
 fr : Int
 w : Int
 h : Int
 title : List UInt8
deriving DecidableEq,Inhabited
structure Wt where
 g : Int
 known : Bool
 w : Int
 h : Int
deriving DecidableEq,Inhabited
structure Mg where
 base : Int
 cnt : Int
 made : Int
 w : Int
 h : Int
 fresh : Bool
 F : List (Int × Fr)
 W : List (Int × Wt)
 on : Bool
 df : Int
 dx : Int
 dy : Int
deriving DecidableEq
def posK {α : Type} (l : List (Int × α)) (id : Int) : Option Nat:=l.findIdx? (fun e=>e.1 == id)
def posB {α : Type} (l : List (Int × α)) (p : α→Bool) : Option Nat:=l.findIdx? (fun e=>p e.2)
theorem r9 {α : Type} {l : List α} {p : α→Bool} {i : Nat} (h : l.findIdx? p = some i) : ∃ e,l[i]? = some e∧p e = true:=by
 obtain ⟨h1,h2,-⟩:=List.findIdx?_eq_some_iff_getElem.1 h
 exact ⟨l[i],List.getElem?_eq_getElem h1,h2⟩
theorem vn {α : Type} {l : List (Int × α)} {id : Int} {i : Nat} (h : posK l id = some i) : ∃ v,l[i]? = some (id,v):=by
 obtain ⟨⟨a,v⟩,h1,h2⟩:=r9 h
 have : a = id:=by simpa using h2
 subst this
 exact ⟨v,h1⟩
theorem uy {α : Type} {l : List (Int × α)} {id : Int} (h : posK l id = none) : id∉l.map Prod.fst:=by
 intro hm
 obtain ⟨e,h1,h2⟩:=List.mem_map.1 hm
 have:=List.findIdx?_eq_none_iff.1 h e h1
 simp [h2] at this
theorem w5 {α : Type} {l : List (Int × α)} {p : α→Bool} {i : Nat} (h : posB l p = some i) : ∃ e,l[i]? = some e∧p e.2 = true:=r9 h
theorem zf2 {α : Type} {l : List (Int × α)} {p : α→Bool} (h : posB l p = none) : ∀ e∈l,p e.2 = false:=fun e he=>List.findIdx?_eq_none_iff.1 h e he
def rq (c : Int) (n : List Int) : Rq:=⟨c,n,[],[]⟩
def farI (step all taken : Int) : Int:=if taken ≥ all then 0 else if all - taken≤0∨12582912 < all - taken then step else step % (all - taken + 1)
def spotX (n w X W : Int) : Int:=X + farI (12 * min (max n 0) 1048576) W w
def spotY (n h Y H : Int) : Int:=Y + farI (10 * min (max n 0) 1048576) H h
def titleB (v : Int) : UInt8:=if v < 32∨v > 126 then 63 else UInt8.ofNat v.toNat
def titleL (row : List Int) : List UInt8:=(row.take 32).map titleB
def Mg.mapReq (m : Mg) (id : Int) : Mg × List Rq:=
 match posK m.F id with
 | some i=>({ m with cnt:=m.cnt + 2 },[rq 3 [id],rq 3 [(m.F[i]!).2.fr]])
 | none=>
  match posK m.W id with
  | some _=>(m,[])
  | none=>({ m with cnt:=m.cnt + 2,W:=m.W ++ [(id,⟨m.cnt + 1,false,0,0⟩)] },[rq 9 [id],rq 15 [id,8,0,0,64,0]])
def Mg.refused (m : Mg) (seq : Int) : Mg:=
 match posB m.W (fun k=>k.g == seq || k.g + 1 == seq) with
 | some i=>{ m with W:=m.W.eraseIdx i }
 | none=>m
def Mg.sized (m : Mg) (seq w h : Int) : Mg:=
 match posB m.W (fun k=>k.g == seq) with
 | some i=>{ m with W:=m.W.set i ((m.W[i]!).1,⟨(m.W[i]!).2.g,w != 0,w,h⟩) }
 | none=>m
def Mg.draw (m : Mg) (f : Fr) : Rq:=⟨36,[f.fr,m.base + 1,1,7,1],f.title,[]⟩
def Mg.manage (m : Mg) (id : Int) (k : Wt) (row : List Int) : Mg × List Rq:=
 if k.known = false then (m,[])
 else if 126 < k.w∨118 < k.h then ({ m with cnt:=m.cnt + 1 },[rq 3 [id]])
 else
  let f : Fr:=⟨m.base + 10 + m.made,k.w,k.h,titleL row⟩
  ({ m with cnt:=m.cnt + 7,made:=m.made + 1,F:=m.F ++ [(id,f)] },
   [rq 1 [f.fr,1,spotX m.made (k.w + 2) 0 m.w,spotY m.made (k.h + 10) 0 m.h,k.w + 2,k.h + 10,200,1,1],rq 7 [f.fr,32,0,0,0,0,0,3356],rq 54 [id,1],rq 6 [id,f.fr,1,9],rq 3 [id],rq 3 [f.fr],m.draw f])
def Mg.titled (m : Mg) (seq : Int) (row : List Int) : Mg × List Rq:=
 match posB m.W (fun k=>k.g + 1 == seq) with
 | some i=>Mg.manage { m with W:=m.W.eraseIdx i } (m.W[i]!).1 (m.W[i]!).2 row
 | none=>(m,[])
def bit (mask k : Int) : Bool:=mask / k % 2 == 1
def confW (f : Fr) (mask w : Int) : Int:=if bit mask 4 then w else f.w
def confH (f : Fr) (mask h : Int) : Int:=if bit mask 8 then h else f.h
def confBig (f : Fr) (mask w h : Int) : Bool:=(bit mask 4 || bit mask 8) && (decide (1≤confW f mask w) && decide (confW f mask w≤126) && decide (1≤confH f mask h) && decide (confH f mask h≤118))
def confA (f : Fr) (id mask x y w h mode : Int) : List Rq:=
 (if confBig f mask w h then [rq 5 [id,12,0,0,confW f mask w,confH f mask h,0,0],rq 5 [f.fr,12,0,0,confW f mask w + 2,confH f mask h + 10,0,0]] else [])
  ++ (if bit mask 1 || bit mask 2 then [rq 5 [f.fr,mask % 4,x,y,0,0,0,0]] else []) ++ (if bit mask 16 then [rq 5 [f.fr,16,0,0,0,0,0,mode]] else [])
theorem zbz (f : Fr) (id mask x y w h mode : Int) : (confA f id mask x y w h mode).length≤4:=by
 unfold confA
 rw [List.length_append,List.length_append]
 have h1 : ∀ (b : Bool) (p q : Rq),(if b then [p,q] else []).length≤2:=fun b p q=>by cases b <;> simp
 have h2 : ∀ (b : Bool) (p : Rq),(if b then [p] else []).length≤1:=fun b p=>by cases b <;> simp
 have:=h1 (confBig f mask w h) (rq 5 [id,12,0,0,confW f mask w,confH f mask h,0,0]) (rq 5 [f.fr,12,0,0,confW f mask w + 2,confH f mask h + 10,0,0])
 have:=h2 (bit mask 1 || bit mask 2) (rq 5 [f.fr,mask % 4,x,y,0,0,0,0])
 have:=h2 (bit mask 16) (rq 5 [f.fr,16,0,0,0,0,0,mode])
 omega
def Mg.conf (m : Mg) (id mask x y w h sib mode : Int) : Mg × List Rq:=
 match posK m.F id with
 | none=>({ m with cnt:=m.cnt + 1 },[rq 5 [id,mask,x,y,w,h,sib,mode]])
 | some i=>({ m with cnt:=m.cnt + ((confA (m.F[i]!).2 id mask x y w h mode).length : Nat),F:=if confBig (m.F[i]!).2 mask w h then m.F.set i (id,⟨(m.F[i]!).2.fr,confW (m.F[i]!).2 mask w,confH (m.F[i]!).2 mask h,(m.F[i]!).2.title⟩) else m.F },confA (m.F[i]!).2 id mask x y w h mode)
def Mg.own (m : Mg) (event id : Int) : Option Nat:=
 match posK m.F id with
 | some i=>if (m.F[i]!).2.fr = event then some i else none
 | none=>none
def Mg.unmap (m : Mg) (event id : Int) : Mg × List Rq:=
 match m.own event id with
 | some i=>({ m with cnt:=m.cnt + 1 },[rq 4 [(m.F[i]!).2.fr]])
 | none=>(m,[])
def Mg.forget (m : Mg) (i : Nat) : Mg × List Rq:=
 let f:=(m.F[i]!).2.fr
 let hit:=m.on && (m.df == f)
 ({ m with cnt:=m.cnt + 1,F:=m.F.eraseIdx i,on:=if hit then false else m.on,df:=if hit then 0 else m.df,dx:=if hit then 0 else m.dx,dy:=if hit then 0 else m.dy },[rq 2 [f]])
def Mg.destroy (m : Mg) (event id : Int) : Mg × List Rq:=
 match m.own event id with
 | some i=>m.forget i
 | none=>(m,[])
def Mg.reparent (m : Mg) (event id parent : Int) : Mg × List Rq:=
 match m.own event id with
 | some i=>if parent = (m.F[i]!).2.fr then (m,[]) else m.forget i
 | none=>(m,[])
def Mg.of (m : Mg) (frame : Int) : Option Nat:=posB m.F (fun f=>f.fr == frame)
def Mg.expose (m : Mg) (frame count : Int) : Mg × List Rq:=
 match m.of frame with
 | some i=>if count = 0 then ({ m with cnt:=m.cnt + 1 },[m.draw (m.F[i]!).2]) else (m,[])
 | none=>(m,[])
def Mg.press (m : Mg) (frame x y : Int) : Mg × List Rq:=
 match m.of frame with
 | some i=>({ m with cnt:=m.cnt + 1,on:=true,df:=(m.F[i]!).2.fr,dx:=x,dy:=y },[rq 5 [(m.F[i]!).2.fr,16,0,0,0,0,0,0]])
 | none=>(m,[])
def boundI (v : Int) : Int:=min (max v (-32768)) 32767
def Mg.move (m : Mg) (x y : Int) : Mg × List Rq:=
 if m.on = true then ({ m with cnt:=m.cnt + 1 },[rq 5 [m.df,3,boundI (x - m.dx),boundI (y - m.dy),0,0,0,0]]) else (m,[])
def Mg.release (m : Mg) : Mg:={ m with on:=false,df:=0,dx:=0,dy:=0 }
def needsE (code : Int) : Nat:=
 if code = 17 then 2 else if code = 19 then 9 else if code = 16 then 2 else if code = 14 then 2 else if code = 20 then 6 else if code = 10 then 6 else if code = 3 then 9 else if code = 4 then 9 else if code = 5 then 9 else 0
def Mg.ev (m : Mg) (code : Int) (n : List Int) : Mg × List Rq:=
 if code = 17 then m.mapReq n[1]! else if code = 19 then m.conf n[1]! n[2]! n[3]! n[4]! n[5]! n[6]! n[7]! n[8]! else if code = 16 then m.unmap n[0]! n[1]! else if code = 14 then m.destroy n[0]! n[1]!
 else if code = 20 then m.reparent n[0]! n[1]! n[2]! else if code = 10 then m.expose n[0]! n[5]! else if code = 3 then m.press n[0]! n[4]! n[5]! else if code = 4 then (m.release,[]) else if code = 5 then m.move n[6]! n[7]! else (m,[])
structure Ot where
 kind : Int
 code : Int
 seq : Int
 n : List Int
 b : List UInt8
 l : List Int
deriving DecidableEq
def Mg.step (m : Mg) (o : Ot) : Mg × List Rq:=
 let m:={ m with fresh:=false }
 if o.kind = 0 then (m.refused o.seq,[])
 else if o.kind = 1 then (if o.code = 9∧7≤o.n.length then (m.sized o.seq o.n[3]! o.n[4]!,[]) else if o.code = 15∧3≤o.n.length then m.titled o.seq o.l else (m,[]))
 else if o.kind = 2 then (if needsE o.code≠0∧needsE o.code≤o.n.length then m.ev o.code o.n else (m,[]))
 else (m,[])
def newMg (c w h : Nat) : Mg:=⟨(c * 1048576 : Nat),4,0,w,h,true,[],[],false,0,0,0⟩
/- what holds of every manager -/
def r32 (n : Int) : Prop:=-2147483648≤n∧n≤2147483647
structure Mg.Ok (m : Mg) (top : Int) : Prop where
 base : 1048576≤m.base∧m.base≤8388608
 cnt : 0≤m.made∧m.made≤m.cnt∧m.cnt≤top
 side : 1≤m.w∧m.w≤128∧1≤m.h∧m.h≤128
 fresh : m.fresh = true→m.F = []∧m.W = []
 fk : (m.F.map Prod.fst).Nodup
 wk : (m.W.map Prod.fst).Nodup
 dis : ∀ e∈m.F,e.1∉m.W.map Prod.fst
 fr : ∀ e∈m.F,m.base + 10≤e.2.fr∧e.2.fr < m.base + 10 + m.made
 frs : (m.F.map (fun e=>e.2.fr)).Nodup
 fs : ∀ e∈m.F,r32 e.2.w∧r32 e.2.h∧e.2.title.length≤32
 wg : ∀ e∈m.W,1≤e.2.g∧e.2.g + 1≤m.cnt
 wgs : m.W.Pairwise (fun a b=>a.2.g + 1 < b.2.g)
 wv : ∀ e∈m.W,e.2.known = (e.2.w != 0)∧r32 e.2.w∧r32 e.2.h
 ids : (∀ e∈m.F,0≤e.1∧e.1≤2147483647)∧(∀ e∈m.W,0≤e.1∧e.1≤2147483647)
 dr : r32 m.df∧r32 m.dx∧r32 m.dy
 lens : m.F.length≤m.made∧m.W.length≤m.cnt
theorem zaz (c w h : Nat) (h1 : 1≤c) (h2 : c≤8) (h3 : 1≤w) (h4 : w≤128) (h5 : 1≤h) (h6 : h≤128) : (newMg c w h).Ok 4:=by
 constructor <;> (try simp only [newMg,r32]) <;> (try simp) <;> (try omega)
theorem Mg.Ok.mono {m : Mg} {a b : Int} (ok : m.Ok a) (h : a≤b) : m.Ok b:={ ok with cnt:=⟨ok.cnt.1,ok.cnt.2.1,by have:=ok.cnt.2.2;omega⟩ }
theorem getM {α : Type} [Inhabited α] {l : List α} {i : Nat} {e : α} (h : l[i]? = some e) : l[i]! = e:=by rw [List.getElem!_eq_getElem?_getD,h];rfl
theorem v4 {α : Type} {l : List α} {i : Nat} {e : α} (h : l[i]? = some e) : e∈l:=List.mem_of_getElem? h
theorem tn {α β : Type} {l : List α} {f : α→β} (h : (l.map f).Nodup) {i j : Nat} {a b : α} (ha : l[i]? = some a) (hb : l[j]? = some b) (he : f a = f b) : i = j:=by
 have h1 : (l.map f)[i]? = some (f a):=by rw [List.getElem?_map,ha];rfl
 have h2 : (l.map f)[j]? = some (f a):=by rw [List.getElem?_map,hb,he];rfl
 obtain ⟨k1,k2⟩:=List.getElem?_eq_some_iff.1 h1
 obtain ⟨k3,k4⟩:=List.getElem?_eq_some_iff.1 h2
 exact (List.getElem_inj h).1 (k2.trans k4.symm)
theorem zbn {α : Type} {l : List (Int × α)} {p : α→Bool} {i : Nat} {e : Int × α} (he : l[i]? = some e) (hp : p e.2 = true) (hu : ∀ j e',l[j]? = some e'→p e'.2 = true→j = i) : posB l p = some i:=by
 cases h : posB l p with
 | none=>have:=zf2 h e (v4 he);rw [hp] at this;cases this
 | some j=>
  obtain ⟨e',h1,h2⟩:=w5 h
  rw [hu j e' h1 h2]
theorem zf1 {α : Type} {l : List (Int × α)} {i : Nat} {id : Int} {v : α} (hn : (l.map Prod.fst).Nodup) (he : l[i]? = some (id,v)) : posK l id = some i:=by
 cases h : posK l id with
 | none=>exact absurd (List.mem_map.2 ⟨_,v4 he,rfl⟩) (uy h)
 | some j=>
  obtain ⟨v',h1⟩:=vn h
  rw [tn hn h1 he rfl]
theorem zf5 {α : Type} {r : α→α→Prop} {l : List α} (h : l.Pairwise r) {i j : Nat} {a b : α} (ha : l[i]? = some a) (hb : l[j]? = some b) (hij : i < j) : r a b:=by
 obtain ⟨k1,rfl⟩:=List.getElem?_eq_some_iff.1 ha
 obtain ⟨k2,rfl⟩:=List.getElem?_eq_some_iff.1 hb
 exact List.pairwise_iff_getElem.1 h i j k1 k2 hij
theorem Mg.Ok.one {m : Mg} {top : Int} (ok : m.Ok top) (s : Int) {i j : Nat} {a b : Int × Wt} (ha : m.W[i]? = some a) (hb : m.W[j]? = some b) (h1 : s = a.2.g∨s = a.2.g + 1) (h2 : s = b.2.g∨s = b.2.g + 1) : i = j:=by
 rcases Nat.lt_trichotomy i j with h | h | h
 ·have:=zf5 ok.wgs ha hb h;omega
 ·exact h
 ·have:=zf5 ok.wgs hb ha h;omega
end

section
open Go.RowKit
set_option maxRecDepth 10000
theorem Mg.Ok.tick {m : Mg} {top k : Int} (ok : m.Ok top) (hk : 0≤k) : ({ m with cnt:=m.cnt + k } : Mg).Ok (top + k):=
 { ok with
  cnt:=⟨ok.cnt.1,by have:=ok.cnt.2.1;dsimp only;omega,by have:=ok.cnt.2.2;dsimp only;omega⟩
  wg:=fun e he=>⟨(ok.wg e he).1,by have:=(ok.wg e he).2;dsimp only;omega⟩
  lens:=⟨ok.lens.1,by have:=ok.lens.2;dsimp only;omega⟩ }
theorem Mg.Ok.stale {m : Mg} {top : Int} (ok : m.Ok top) : ({ m with fresh:=false } : Mg).Ok top:={ ok with fresh:=fun h=>by cases h }
theorem Mg.Ok.dropW {m : Mg} {top : Int} (ok : m.Ok top) (hf : m.fresh = false) (i : Nat) : ({ m with W:=m.W.eraseIdx i } : Mg).Ok top:=
 have hs : (m.W.eraseIdx i).Sublist m.W:=List.eraseIdx_sublist _ _
 { ok with
  fresh:=fun h=>by simp [hf] at h
  wk:=ok.wk.sublist (hs.map _)
  dis:=fun e he hm=>ok.dis e he ((hs.map _).subset hm)
  wg:=fun e he=>ok.wg e (hs.subset he)
  wgs:=ok.wgs.sublist hs
  wv:=fun e he=>ok.wv e (hs.subset he)
  ids:=⟨ok.ids.1,fun e he=>ok.ids.2 e (hs.subset he)⟩
  lens:=⟨ok.lens.1,by have:=ok.lens.2;have:=hs.length_le;dsimp only;omega⟩ }
theorem Mg.Ok.dropF {m : Mg} {top : Int} (ok : m.Ok top) (hf : m.fresh = false) (i : Nat) : ({ m with F:=m.F.eraseIdx i } : Mg).Ok top:=
 have hs : (m.F.eraseIdx i).Sublist m.F:=List.eraseIdx_sublist _ _
 { ok with
  fresh:=fun h=>by simp [hf] at h
  fk:=ok.fk.sublist (hs.map _)
  dis:=fun e he=>ok.dis e (hs.subset he)
  fr:=fun e he=>ok.fr e (hs.subset he)
  frs:=ok.frs.sublist (hs.map _)
  fs:=fun e he=>ok.fs e (hs.subset he)
  ids:=⟨fun e he=>ok.ids.1 e (hs.subset he),ok.ids.2⟩
  lens:=⟨by have:=ok.lens.1;have:=hs.length_le;dsimp only;omega,ok.lens.2⟩ }
theorem ro {α : Type} {l : List α} {a : α} (h : l.Nodup) (ha : a∉l) : (l ++ [a]).Nodup:=
 List.nodup_append.2 ⟨h,by simp,fun x hx y hy=>by rw [List.mem_singleton] at hy;subst hy;rintro rfl;exact ha hx⟩
theorem Mg.Ok.mapReq {m : Mg} {top : Int} (ok : m.Ok top) (hf : m.fresh = false) (id : Int) (hid : 0≤id∧id≤2147483647) : (m.mapReq id).1.Ok (top + 7):=by
 unfold Mg.mapReq
 cases h1 : posK m.F id with
 | some i=>exact (ok.tick (k:=2) (by omega)).mono (by omega)
 | none=>
  cases h2 : posK m.W id with
  | some i=>exact ok.mono (by omega)
  | none=>
   have t:=ok.tick (k:=2) (by omega)
   have hnF:=uy h1
   have hnW:=uy h2
   refine Mg.Ok.mono (a:=top + 2) ?_ (by omega)
   exact { t with
    fresh:=fun h=>by simp [hf] at h
    wk:=by
     show ((m.W ++ [_]).map Prod.fst).Nodup
     rw [List.map_append]
     exact ro ok.wk hnW
    dis:=fun e he hm=>by
     simp only [List.map_append,List.mem_append,List.map_cons,List.map_nil,List.mem_singleton] at hm
     rcases hm with hm | hm
     ·exact ok.dis e he hm
     ·exact hnF (List.mem_map.2 ⟨e,he,hm⟩)
    wg:=fun e he=>by
     have hc:=ok.cnt
     simp only [List.mem_append,List.mem_singleton] at he
     rcases he with he | rfl
     ·exact t.wg e he
     ·dsimp only;omega
    wgs:=by
     show (m.W ++ [_]).Pairwise _
     rw [List.pairwise_append]
     refine ⟨ok.wgs,List.pairwise_singleton _ _,fun a ha b hb=>?_⟩
     rw [List.mem_singleton] at hb
     subst hb
     have:=(ok.wg a ha).2
     dsimp only;omega
    wv:=fun e he=>by
     simp only [List.mem_append,List.mem_singleton] at he
     rcases he with he | rfl
     ·exact ok.wv e he
     ·exact ⟨rfl,by unfold r32;dsimp only;omega,by unfold r32;dsimp only;omega⟩
    ids:=⟨ok.ids.1,fun e he=>by
     simp only [List.mem_append,List.mem_singleton] at he
     rcases he with he | rfl
     ·exact ok.ids.2 e he
     ·exact hid⟩
    lens:=⟨ok.lens.1,by have:=ok.lens.2;simp only [List.length_append,List.length_singleton];omega⟩ }
theorem Mg.Ok.refused {m : Mg} {top : Int} (ok : m.Ok top) (hf : m.fresh = false) (s : Int) : (m.refused s).Ok top:=by
 unfold Mg.refused
 split
 ·exact ok.dropW hf _
 ·exact ok
theorem uu {α β : Type} {l : List α} {f : α→β} {i : Nat} {a b : α} (h : l[i]? = some a) (he : f b = f a) : (l.set i b).map f = l.map f:=by
 rw [List.map_set,he]
 refine List.ext_getElem? fun j=>?_
 rw [List.getElem?_set]
 by_cases hj : i = j
 ·subst hj
  rw [if_pos rfl,List.getElem?_map,h]
  have:=(List.getElem?_eq_some_iff.1 h).1
  rw [if_pos (by rw [List.length_map];exact this)];rfl
 ·rw [if_neg hj]
theorem Mg.Ok.sized {m : Mg} {top : Int} (ok : m.Ok top) (hf : m.fresh = false) (s w h : Int) (hw : r32 w) (hh : r32 h) : (m.sized s w h).Ok top:=by
 unfold Mg.sized
 cases hp : posB m.W (fun k=>k.g == s) with
 | none=>exact ok
 | some i=>
  obtain ⟨e,he,-⟩:=w5 hp
  simp only [getM he]
  have hm:=v4 he
  have hk : ∀ x∈m.W.set i (e.1,⟨e.2.g,w != 0,w,h⟩),x∈m.W∨x = (e.1,⟨e.2.g,w != 0,w,h⟩):=fun x hx=>List.mem_or_eq_of_mem_set hx
  have hf1 : (m.W.set i (e.1,⟨e.2.g,w != 0,w,h⟩)).map Prod.fst = m.W.map Prod.fst:=uu he rfl
  have hf2 : (m.W.set i (e.1,⟨e.2.g,w != 0,w,h⟩)).map (fun x=>x.2.g) = m.W.map (fun x=>x.2.g):=uu he rfl
  exact { ok with
   fresh:=fun h=>by simp [hf] at h
   wk:=by show ((m.W.set i _).map Prod.fst).Nodup;rw [hf1];exact ok.wk
   dis:=fun x hx=>by show _∉(m.W.set i _).map Prod.fst;rw [hf1];exact ok.dis x hx
   wg:=fun x hx=>by
    rcases hk x hx with hx | rfl
    ·exact ok.wg x hx
    ·exact ok.wg e hm
   wgs:=by
    have:=ok.wgs
    have h1 : (m.W.map (fun x=>x.2.g)).Pairwise (fun a b=>a + 1 < b):=List.pairwise_map.2 this
    rw [← hf2] at h1
    exact List.pairwise_map.1 h1
   wv:=fun x hx=>by
    rcases hk x hx with hx | rfl
    ·exact ok.wv x hx
    ·exact ⟨rfl,hw,hh⟩
   ids:=⟨ok.ids.1,fun x hx=>by
    rcases hk x hx with hx | rfl
    ·exact ok.ids.2 x hx
    ·exact ok.ids.2 e hm⟩
   lens:=⟨ok.lens.1,by have:=ok.lens.2;simp only [List.length_set];exact this⟩ }
theorem Mg.Ok.manage {m : Mg} {top : Int} (ok : m.Ok top) (hf : m.fresh = false) (id : Int) (k : Wt) (row : List Int) (hid : 0≤id∧id≤2147483647) (hF : id∉m.F.map Prod.fst) (hW : id∉m.W.map Prod.fst) (hw : r32 k.w) (hh : r32 k.h) (htop : top≤1000000) : (m.manage id k row).1.Ok (top + 7):=by
 unfold Mg.manage
 split
 ·exact ok.mono (by omega)
 ·split
  ·exact (ok.tick (k:=1) (by omega)).mono (by omega)
  ·have t:=ok.tick (k:=7) (by omega)
   have hb:=ok.base
   have hc:=ok.cnt
   exact { t with
    cnt:=⟨by dsimp only;omega,by dsimp only;omega,by dsimp only;omega⟩
    fresh:=fun h=>by simp [hf] at h
    fk:=by
     show ((m.F ++ [_]).map Prod.fst).Nodup
     rw [List.map_append]
     exact ro ok.fk hF
    dis:=fun e he=>by
     simp only [List.mem_append,List.mem_singleton] at he
     rcases he with he | rfl
     ·exact ok.dis e he
     ·exact hW
    fr:=fun e he=>by
     simp only [List.mem_append,List.mem_singleton] at he
     rcases he with he | rfl
     ·have:=ok.fr e he;dsimp only;omega
     ·dsimp only;omega
    frs:=by
     show ((m.F ++ [_]).map _).Nodup
     rw [List.map_append]
     refine ro ok.frs fun hm=>?_
     obtain ⟨e,he,h2⟩:=List.mem_map.1 hm
     have:=ok.fr e he
     dsimp only at h2
     omega
    fs:=fun e he=>by
     simp only [List.mem_append,List.mem_singleton] at he
     rcases he with he | rfl
     ·exact ok.fs e he
     ·exact ⟨hw,hh,by unfold titleL;rw [List.length_map,List.length_take];omega⟩
    ids:=⟨fun e he=>by
     simp only [List.mem_append,List.mem_singleton] at he
     rcases he with he | rfl
     ·exact ok.ids.1 e he
     ·exact hid,ok.ids.2⟩
    lens:=⟨by have:=ok.lens.1;simp only [List.length_append,List.length_singleton];omega,t.lens.2⟩ }
theorem zcf {α β : Type} {l : List α} {f : α→β} (h : (l.map f).Nodup) {i : Nat} {e : α} (he : l[i]? = some e) : f e∉(l.eraseIdx i).map f:=by
 intro hm
 obtain ⟨x,h1,h2⟩:=List.mem_map.1 hm
 obtain ⟨j,hj⟩:=List.mem_iff_getElem?.1 h1
 rw [List.getElem?_eraseIdx] at hj
 split at hj
 ·have:=tn h hj he h2;omega
 ·have:=tn h hj he h2;omega
theorem Mg.Ok.titled {m : Mg} {top : Int} (ok : m.Ok top) (hf : m.fresh = false) (s : Int) (row : List Int) (htop : top≤1000000) : (m.titled s row).1.Ok (top + 7):=by
 unfold Mg.titled
 cases hp : posB m.W (fun k=>k.g + 1 == s) with
 | none=>exact ok.mono (by omega)
 | some i=>
  obtain ⟨e,he,-⟩:=w5 hp
  simp only [getM he]
  have hm:=v4 he
  have hv:=ok.wv e hm
  refine (ok.dropW hf i).manage hf e.1 e.2 row (ok.ids.2 e hm) (fun k=>?_) (zcf ok.wk he) hv.2.1 hv.2.2 htop
  obtain ⟨x,h1,h2⟩:=List.mem_map.1 k
  exact ok.dis x h1 (h2 ▸ List.mem_map.2 ⟨e,hm,rfl⟩)
theorem Mg.Ok.setF {m : Mg} {top : Int} (ok : m.Ok top) (hf : m.fresh = false) {i : Nat} {id : Int} {v v' : Fr} (he : m.F[i]? = some (id,v)) (h1 : v'.fr = v.fr) (h2 : r32 v'.w∧r32 v'.h∧v'.title.length≤32) : ({ m with F:=m.F.set i (id,v') } : Mg).Ok top:=by
 have hm:=v4 he
 have hk : ∀ x∈m.F.set i (id,v'),x∈m.F∨x = (id,v'):=fun x hx=>List.mem_or_eq_of_mem_set hx
 have hf1 : (m.F.set i (id,v')).map Prod.fst = m.F.map Prod.fst:=uu he rfl
 have hf2 : (m.F.set i (id,v')).map (fun x=>x.2.fr) = m.F.map (fun x=>x.2.fr):=uu he h1
 exact { ok with
  fresh:=fun h=>by simp [hf] at h
  fk:=by show ((m.F.set i _).map Prod.fst).Nodup;rw [hf1];exact ok.fk
  dis:=fun x hx=>by
   rcases hk x hx with hx | rfl
   ·exact ok.dis x hx
   ·exact ok.dis (id,v) hm
  fr:=fun x hx=>by
   rcases hk x hx with hx | rfl
   ·exact ok.fr x hx
   ·have:=ok.fr _ hm;dsimp only at *;rw [h1];exact this
  frs:=by show ((m.F.set i _).map _).Nodup;rw [hf2];exact ok.frs
  fs:=fun x hx=>by
   rcases hk x hx with hx | rfl
   ·exact ok.fs x hx
   ·exact h2
  ids:=⟨fun x hx=>by
   rcases hk x hx with hx | rfl
   ·exact ok.ids.1 x hx
   ·exact ok.ids.1 (id,v) hm,ok.ids.2⟩
  lens:=⟨by have:=ok.lens.1;simp only [List.length_set];exact this,ok.lens.2⟩ }
theorem Mg.Ok.conf {m : Mg} {top : Int} (ok : m.Ok top) (hf : m.fresh = false) (id mask x y w h sib mode : Int) : (m.conf id mask x y w h sib mode).1.Ok (top + 7):=by
 unfold Mg.conf
 cases hp : posK m.F id with
 | none=>exact (ok.tick (k:=1) (by omega)).mono (by omega)
 | some i=>
  obtain ⟨v,he⟩:=vn hp
  simp only [getM he]
  have hl:=zbz v id mask x y w h mode
  have t:=ok.tick (k:=((confA v id mask x y w h mode).length : Nat)) (by omega)
  refine Mg.Ok.mono (a:=top + ((confA v id mask x y w h mode).length : Nat)) ?_ (by omega)
  cases hb : confBig v mask w h with
  | false=>exact t
  | true=>
   have hb2:=hb
   unfold confBig at hb2
   simp only [Bool.and_eq_true,decide_eq_true_eq] at hb2
   exact t.setF hf he rfl ⟨by unfold r32;dsimp only;omega,by unfold r32;dsimp only;omega,(ok.fs _ (v4 he)).2.2⟩
theorem Mg.Ok.forget {m : Mg} {top : Int} (ok : m.Ok top) (hf : m.fresh = false) (i : Nat) : (m.forget i).1.Ok (top + 7):=by
 unfold Mg.forget
 have t:=(ok.dropF hf i).tick (k:=1) (by omega)
 have hd:=ok.dr
 refine Mg.Ok.mono (a:=top + 1) ?_ (by omega)
 exact { t with
  dr:=by
   unfold r32 at *
   dsimp only
   refine ⟨?_,?_,?_⟩ <;> split <;> omega }
theorem zf7 {m : Mg} {event id : Int} {i : Nat} (h : m.own event id = some i) : ∃ v,m.F[i]? = some (id,v)∧v.fr = event∧posK m.F id = some i:=by
 unfold Mg.own at h
 cases hp : posK m.F id with
 | none=>rw [hp] at h;cases h
 | some j=>
  rw [hp] at h
  obtain ⟨v,he⟩:=vn hp
  simp only [getM he] at h
  split at h
  ·rename_i hv
   cases h
   exact ⟨v,he,hv,rfl⟩
  ·cases h
theorem Mg.Ok.press {m : Mg} {top : Int} (ok : m.Ok top) (fr x y : Int) (hx : r32 x) (hy : r32 y) (htop : top≤1000000) : (m.press fr x y).1.Ok (top + 7):=by
 unfold Mg.press
 cases hp : m.of fr with
 | none=>exact ok.mono (by omega)
 | some i=>
  obtain ⟨e,he,-⟩:=w5 hp
  simp only [getM he]
  have hfr:=ok.fr e (v4 he)
  have hb:=ok.base
  have hc:=ok.cnt
  have t:=ok.tick (k:=1) (by omega)
  refine Mg.Ok.mono (a:=top + 1) ?_ (by omega)
  exact { t with dr:=⟨by unfold r32;dsimp only;omega,hx,hy⟩ }
theorem Mg.Ok.release {m : Mg} {top : Int} (ok : m.Ok top) : m.release.Ok top:=
 { ok with dr:=⟨by unfold r32;simp [Mg.release],by unfold r32;simp [Mg.release],by unfold r32;simp [Mg.release]⟩ }
theorem Mg.Ok.move {m : Mg} {top : Int} (ok : m.Ok top) (x y : Int) : (m.move x y).1.Ok (top + 7):=by
 unfold Mg.move
 split
 ·exact (ok.tick (k:=1) (by omega)).mono (by omega)
 ·exact ok.mono (by omega)
theorem Mg.Ok.unmap {m : Mg} {top : Int} (ok : m.Ok top) (a b : Int) : (m.unmap a b).1.Ok (top + 7):=by
 unfold Mg.unmap
 split
 ·exact (ok.tick (k:=1) (by omega)).mono (by omega)
 ·exact ok.mono (by omega)
theorem Mg.Ok.destroy {m : Mg} {top : Int} (ok : m.Ok top) (hf : m.fresh = false) (a b : Int) : (m.destroy a b).1.Ok (top + 7):=by
 unfold Mg.destroy
 split
 ·exact ok.forget hf _
 ·exact ok.mono (by omega)
theorem Mg.Ok.reparent {m : Mg} {top : Int} (ok : m.Ok top) (hf : m.fresh = false) (a b c : Int) : (m.reparent a b c).1.Ok (top + 7):=by
 unfold Mg.reparent
 split
 ·split
  ·exact ok.mono (by omega)
  ·exact ok.forget hf _
 ·exact ok.mono (by omega)
theorem Mg.Ok.expose {m : Mg} {top : Int} (ok : m.Ok top) (a b : Int) : (m.expose a b).1.Ok (top + 7):=by
 unfold Mg.expose
 split
 ·split
  ·exact (ok.tick (k:=1) (by omega)).mono (by omega)
  ·exact ok.mono (by omega)
 ·exact ok.mono (by omega)
structure Ot.Few (o : Ot) : Prop where
 n : ∀ v∈o.n,r32 v
 l : ∀ v∈o.l,r32 v
 pos : o.kind = 2→∀ v∈o.n.take 3,0≤v
theorem Ot.Few.at {o : Ot} (h : o.Few) {i : Nat} (hi : i < o.n.length) : r32 o.n[i]!:=by rw [getElem!_pos o.n i hi];exact h.n _ (List.getElem_mem hi)
theorem Ot.Few.first {o : Ot} (h : o.Few) (hk : o.kind = 2) {i : Nat} (hi : i < o.n.length) (h3 : i < 3) : 0≤o.n[i]!∧o.n[i]!≤2147483647:=by
 refine ⟨?_,(h.at hi).2⟩
 rw [getElem!_pos o.n i hi]
 exact h.pos hk _ (List.mem_iff_getElem?.2 ⟨i,by rw [List.getElem?_take_of_lt h3];exact List.getElem?_eq_getElem hi⟩)
theorem Mg.Ok.step {m : Mg} {top : Int} (ok : m.Ok top) (o : Ot) (ho : o.Few) (htop : top≤1000000) : (m.step o).1.Ok (top + 7):=by
 have ok2:=ok.stale
 have hf : ({ m with fresh:=false } : Mg).fresh = false:=rfl
 unfold Mg.step
 generalize ({ m with fresh:=false } : Mg) = x at *
 dsimp only
 split
 ·exact (ok2.refused hf _).mono (by omega)
 split
 ·split
  ·rename_i h;exact (ok2.sized hf _ _ _ (ho.at (by omega)) (ho.at (by omega))).mono (by omega)
  ·split
   ·exact ok2.titled hf _ _ htop
   ·exact ok2.mono (by omega)
 split
 ·rename_i hk
  split
  ·rename_i h
   have hl:=h.2
   unfold needsE at hl
   unfold Mg.ev
   split
   ·rename_i hc;rw [if_pos hc] at hl;exact ok2.mapReq hf _ (ho.first hk (by omega) (by omega))
   rename_i c1;rw [if_neg c1] at hl
   split
   ·rename_i hc;rw [if_pos hc] at hl;exact ok2.conf hf _ _ _ _ _ _ _ _
   rename_i c2;rw [if_neg c2] at hl
   split
   ·exact ok2.unmap _ _
   rename_i c3;rw [if_neg c3] at hl
   split
   ·exact ok2.destroy hf _ _
   rename_i c4;rw [if_neg c4] at hl
   split
   ·exact ok2.reparent hf _ _ _
   rename_i c5;rw [if_neg c5] at hl
   split
   ·exact ok2.expose _ _
   rename_i c6;rw [if_neg c6] at hl
   split
   ·rename_i hc;rw [if_pos hc] at hl;exact ok2.press _ _ _ (ho.at (by omega)) (ho.at (by omega)) htop
   split
   ·exact ok2.release.mono (by omega)
   split
   ·exact ok2.move _ _
   ·exact ok2.mono (by omega)
  ·exact ok2.mono (by omega)
 ·exact ok2.mono (by omega)
end

section
open Go.RowKit
set_option maxRecDepth 10000
set_option maxHeartbeats 1000000
section
variable {q : Bool} {P : Program} {tab : Tab} {im : List Nat} {ds : List (Option Nat)} {l : List Oper} {E : Env} {H Hm F : Hp} {K : Env→Hp→Prop} {d : Nat} {ty : TypeId} {pos : String} {after : Array Edge}
theorem pt [Dr] {ops : Array Oper} {wd : List Bool} {x y : Operand} {t1 t2 : TypeId} {b o n z e n2 : Nat} {c : Option Nat} {tyv : T} {i j : TyI} {cs ys : List T} (hT : tab t1 = some i) (hk : i.k = .sl e) (hj : tab e = some j) (hx : E.opd x = some (.slc b o n z c)) (hy : E.opd y = some tyv) (hc : lookH F b = some cs)
  (hs : srcCells tab (lookH F) t2 j.sz tyv = some (ys,n2)) (hz : z = j.sz) (h1 : o + n * z≤cs.length) (h2 : (n + n2) * j.by_≤2 ^ 47) (h3 : n + n2≤2 ^ 47) (h4 : n2 * j.sz = ys.length) (h5 : ys.all cellB = true) (hsn : seenL Hm (setH F b .d ++ [.c ((cs.drop o).take (n * z) ++ ys)]))
  (k : VD P tab im ops Hm l wd ((d,.slc F.length 0 (n + n2) z none) :: E) (setH F b .d ++ [.c ((cs.drop o).take (n * z) ++ ys)]) K) : VD P tab im ops Hm (⟨some d,.call ⟨.builtin .append,#[x,y],#[t1,t2]⟩,ty,pos,after,none⟩ :: l) (true :: wd) E F K:=by
 refine VD.app hx hy ?_ hsn k
 simp only [mAppend,hT,hk,hj,hs,hc]
 rw [if_pos ⟨hz,h1,h2,h3,h4,h5⟩]
end
def cRn : Cd Rq:=⟨4,fun r=>[I64 r.code,cIf r.n,strT r.b,NIL],fun _=>rfl,fun r=>by simp only [T.pureL,T.pure,zg];rfl,fun _=>rfl,by decide⟩
theorem zan : cRn.sz = 4:=rfl
abbrev frC (f : Fr) : List T:=[I64 f.fr,I64 f.w,I64 f.h,strT f.title]
abbrev frT (f : Fr) : T:=.agg (frC f)
abbrev wtC (k : Wt) : List T:=[I64 k.g,I64 (k.g + 1),BL k.known,I64 k.w,I64 k.h]
abbrev wtT (k : Wt) : T:=.agg (wtC k)
abbrev kF {α : Type} (l : List (Int × α)) : List Value:=l.map fun e=>Value.int .i64 e.1
abbrev tF (l : List (Int × Fr)) : List T:=l.map fun e=>frT e.2
abbrev tW (l : List (Int × Wt)) : List T:=l.map fun e=>wtT e.2
abbrev tnC (m : Mg) (a : T) : List T:=[.v (.int .u32 m.base),I64 m.cnt,I64 m.made,I64 m.w,I64 m.h,.om 1,.om 2,BL m.on,I64 m.df,I64 m.dx,I64 m.dy,a]
abbrev askT (b : Nat) (l : List Rq) : T:=.slc b 0 l.length 4 none
abbrev cLn (n : List Int) (c : Option Nat) : T:=.islc (encL cI n) n.length c
theorem zdk (r : Int) (l : List Int) (c : Option Nat) (hl : l.length≤1000) : CallP Tryd.prog 80 [cLn (r :: l) c] (cIf (r :: l)):=by
 refine CallP.intro2 yw yw ?_;refine CallT.intro zc Tryd.func80 rfl (by kernel_rfl) (Nat.le_of_ble_eq_true rfl) ?_;refine ze zc [] rfl ?_;refine za rfl ?_;refine zb ?_;refine zo ?_;refine ze zc [] rfl ?_;iterate 2 refine za rfl ?_
 refine zb ?_;refine yq rfl ?_;refine zt ?_;refine ze zc [] rfl ?_;refine yk rfl rfl ?_;refine za rfl ?_;refine u4 rfl rfl rfl rfl rfl rfl (zjz cI (l:=r :: l) rfl rfl rfl rfl) rfl (Nat.le_refl _) (by dsimp only [List.length_cons];omega) (by simp only [List.length_cons];omega) (by rw [xa];rfl) (za9 cI _) ?_;refine za rfl ?_;refine zb ?_;refine yr ?_;refine ⟨trivial,_,rfl,?_⟩;show Cv _ (.slc _ 0 (0 + (r :: l).length) 1 none) _;rw [Nat.zero_add];exact Cv.fslc0 ⟨rfl,by simp⟩ (CvL.pure (zg cI _))
theorem zja (m : Mg) (p q : OP) (b : List UInt8) (code r : Int) (n : List Int) (c : Option Nat) (l : List Rq) (hn : n.length≤100) (hl : l.length≤100) (hc : 0≤m.cnt∧m.cnt≤2000000) (hp : p.pi = true) (hq : q.pi = true) :
  CallT Tryd.prog 55 [.ptr 0 0,strT b,I64 code,cLn (r :: n) c] [.c (tnC m (askT 3 l)),.o p,.o q,.c (encL cRn l)]
   (fun t H'=>t = .tup []∧H' = [.c (tnC { m with cnt:=m.cnt + 1 } (askT 4 (l ++ [⟨code,r :: n,b,[]⟩]))),.o p,.o q,.d,.c (encL cRn (l ++ [⟨code,r :: n,b,[]⟩]))]):=by
 have hcl:=zdk r n c (by omega)
 refine CallT.intro zc Tryd.func55 rfl (by kernel_rfl) (Nat.le_of_ble_eq_true rfl) ?_;refine ug zc [18] [_,_,_,_,_,_,_,_,_,_,_,_] ([.c (tnC m (askT 3 l)),.o p,.o q,.d]) [false,false,false,false,false,false,false,false,false,false,false,true] rfl yj yj yj (by repeat' first | exact xe | refine xc ?_ | refine y8 ?_) ?_;refine yp rfl ?_;refine yp rfl ?_;refine yp rfl ?_;refine yp rfl ?_;first | refine yp rfl ?_ | refine wm rfl rfl yn ?_
 refine yp rfl ?_;refine yp rfl ?_;refine zbg rfl rfl (hcl) ?_;refine yp rfl ?_;refine yp rfl ?_;refine zcs rfl ?_;refine' pt rfl rfl rfl rfl rfl rfl rfl rfl ?h1 ?h2 ?h3 ?h4 ?h5 (y8 (y8 (y8 (xc xe)))) ?_
 case h1=>rw [xa,zan];omega
 case h2=>exact Nat.le_trans (Nat.mul_le_mul_right _ (show l.length + 1≤1000 by omega)) (by decide)
 case h3=>show l.length + 1≤_;omega
 case h4=>rfl
 case h5=>rfl
 refine tt ?_;iterate 2 refine za rfl ?_
 refine zp rfl rfl rfl rfl rfl xf rfl ?_;refine zb ?_;refine z4 zc [] rfl ?_;iterate 5 refine za rfl ?_
 first | refine za rfl ?_ | refine zm rfl rfl yn ?_ | refine yh rfl rfl rfl yn ?_
 first | refine xg rfl rfl (by omega) ?_ | refine za rfl ?_
 iterate 4 refine za rfl ?_
 refine zp rfl rfl rfl rfl rfl xf rfl ?_;refine zb ?_;refine ⟨trivial,_,rfl,rfl,?_⟩;simp only [askT,setH,wy,List.length_append,List.length_singleton,List.drop_zero,List.cons_append,List.nil_append];rw [List.take_of_length_le (by rw [xa,zan];exact Nat.le_refl _)];rfl
end

section
open Go.RowKit
set_option maxRecDepth 10000
set_option maxHeartbeats 1000000
section
variable {q : Bool} {P : Program} {tab : Tab} {im : List Nat} {ds : List (Option Nat)} {l : List Oper} {E : Env} {H Hm F : Hp} {K : Env→Hp→Prop} {d : Nat} {ty : TypeId} {pos : String} {after : Array Edge}
theorem VX.remN [Dr] {x y : Operand} {t t2 : Nat} {a c : Int} (hx : E.opd x = some (I64 a)) (hy : E.opd y = some (I64 c)) (ha : 0≤a) (hc : 0 < c) (k : VX q P tab im ds l ((d,I64 (a % c)) :: E) H K) : VX q P tab im ds (⟨some d,.binOp .rem t x y t2,ty,pos,after,none⟩ :: l) E H K:=by
 refine za (t:=I64 (a % c)) ?_ k
 have hc' : ¬ c = 0:=by omega
 simp only [opM,hx,hy,mBin,binInt]
 rw [if_neg hc',Int.tmod_eq_emod_of_nonneg ha]
 rfl
end
abbrev tnH (m : Mg) (p q : OP) (l : List Rq) : Hp:=[.c (tnC m (askT 3 l)),.o p,.o q,.c (encL cRn l)]
abbrev Mg.up (m : Mg) (k : Int) : Mg:={ m with cnt:=m.cnt + k }
abbrev tnH1 (m : Mg) (p q : OP) (l : List Rq) : Hp:=[.c (tnC m (askT 4 l)),.o p,.o q,.d,.c (encL cRn l)]
theorem ze9 (m : Mg) (p q : OP) (code r : Int) (n : List Int) (c : Option Nat) (l : List Rq) (hn : n.length≤100) (hl : l.length≤100) (hc : 0≤m.cnt∧m.cnt≤2000000) (hp : p.pi = true) (hq : q.pi = true) :
  CallT Tryd.prog 54 [.ptr 0 0,I64 code,cLn (r :: n) c] (tnH m p q l)
   (fun t H'=>t = .tup []∧H' = tnH1 (m.up 1) p q (l ++ [rq code (r :: n)])):=by
 have ht:=zja m p q [] code r n c l hn hl hc hp hq
 refine CallT.intro zc Tryd.func54 rfl (by kernel_rfl) (Nat.le_of_ble_eq_true rfl) ?_;refine z4 zc [] rfl ?_;iterate 3 refine za rfl ?_
 refine zq rfl rfl (CallT.frame (ht) [0,1,2,3] rfl z3 z3 ?_)
 rintro _ _ ⟨rfl,rfl⟩;refine frK zy zy ?_;refine zb ?_;exact ⟨trivial,_,rfl,rfl,rfl⟩
theorem qc (m : Mg) (p q : OP) (code : Int) (a : Int) (l : List Rq) (hl : l.length≤100) (hc : 0≤m.cnt∧m.cnt≤2000000) (hp : p.pi = true) (hq : q.pi = true) :
  CallT Tryd.prog 54 [.ptr 0 0,I64 code,.islc [I64 a] 1 (some 1)] (tnH m p q l)
   (fun t H'=>t = .tup []∧H' = tnH1 (m.up 1) p q (l ++ [rq code [a]])):=ze9 m p q code a [] (some 1) l (by simp) hl hc hp hq
theorem ask2_t (m : Mg) (p q : OP) (code : Int) (a b : Int) (l : List Rq) (hl : l.length≤100) (hc : 0≤m.cnt∧m.cnt≤2000000) (hp : p.pi = true) (hq : q.pi = true) :
  CallT Tryd.prog 54 [.ptr 0 0,I64 code,.islc [I64 a,I64 b] 2 (some 2)] (tnH m p q l)
   (fun t H'=>t = .tup []∧H' = tnH1 (m.up 1) p q (l ++ [rq code [a,b]])):=ze9 m p q code a [b] (some 2) l (by simp) hl hc hp hq
theorem ask4_t (m : Mg) (p q : OP) (code : Int) (a b c d : Int) (l : List Rq) (hl : l.length≤100) (hc : 0≤m.cnt∧m.cnt≤2000000) (hp : p.pi = true) (hq : q.pi = true) :
  CallT Tryd.prog 54 [.ptr 0 0,I64 code,.islc [I64 a,I64 b,I64 c,I64 d] 4 (some 4)] (tnH m p q l)
   (fun t H'=>t = .tup []∧H' = tnH1 (m.up 1) p q (l ++ [rq code [a,b,c,d]])):=ze9 m p q code a [b,c,d] (some 4) l (by simp) hl hc hp hq
theorem ask6_t (m : Mg) (p q : OP) (code : Int) (a b c d e f : Int) (l : List Rq) (hl : l.length≤100) (hc : 0≤m.cnt∧m.cnt≤2000000) (hp : p.pi = true) (hq : q.pi = true) :
  CallT Tryd.prog 54 [.ptr 0 0,I64 code,.islc [I64 a,I64 b,I64 c,I64 d,I64 e,I64 f] 6 (some 6)] (tnH m p q l)
   (fun t H'=>t = .tup []∧H' = tnH1 (m.up 1) p q (l ++ [rq code [a,b,c,d,e,f]])):=ze9 m p q code a [b,c,d,e,f] (some 6) l (by simp) hl hc hp hq
theorem zjm (m : Mg) (p q : OP) (code : Int) (a b c d e f g h : Int) (l : List Rq) (hl : l.length≤100) (hc : 0≤m.cnt∧m.cnt≤2000000) (hp : p.pi = true) (hq : q.pi = true) :
  CallT Tryd.prog 54 [.ptr 0 0,I64 code,.islc [I64 a,I64 b,I64 c,I64 d,I64 e,I64 f,I64 g,I64 h] 8 (some 8)] (tnH m p q l)
   (fun t H'=>t = .tup []∧H' = tnH1 (m.up 1) p q (l ++ [rq code [a,b,c,d,e,f,g,h]])):=ze9 m p q code a [b,c,d,e,f,g,h] (some 8) l (by simp) hl hc hp hq
theorem ask9_t (m : Mg) (p q : OP) (code : Int) (a b c d e f g h i : Int) (l : List Rq) (hl : l.length≤100) (hc : 0≤m.cnt∧m.cnt≤2000000) (hp : p.pi = true) (hq : q.pi = true) :
  CallT Tryd.prog 54 [.ptr 0 0,I64 code,.islc [I64 a,I64 b,I64 c,I64 d,I64 e,I64 f,I64 g,I64 h,I64 i] 9 (some 9)] (tnH m p q l)
   (fun t H'=>t = .tup []∧H' = tnH1 (m.up 1) p q (l ++ [rq code [a,b,c,d,e,f,g,h,i]])):=ze9 m p q code a [b,c,d,e,f,g,h,i] (some 9) l (by simp) hl hc hp hq
theorem yi (m : Mg) (p q : OP) (id mask x y w h mode : Int) (l : List Rq) (hl : l.length≤100) (hc : 0≤m.cnt∧m.cnt≤2000000) (hp : p.pi = true) (hq : q.pi = true) :
  CallT Tryd.prog 125 [.ptr 0 0,I64 id,I64 mask,I64 x,I64 y,I64 w,I64 h,I64 mode] (tnH m p q l)
   (fun t H'=>t = .tup []∧H' = tnH1 (m.up 1) p q (l ++ [rq 5 [id,mask,x,y,w,h,0,mode]])):=by
 have ht:=zjm m p q 5 id mask x y w h 0 mode l hl hc hp hq
 refine CallT.intro zc Tryd.func125 rfl (by kernel_rfl) (Nat.le_of_ble_eq_true rfl) ?_;refine z4 zc [24] rfl ?_;iterate 8 refine za rfl ?_
 refine yx rfl rfl ?_;refine zq rfl rfl (CallT.frame (ht) [0,1,2,3] rfl z3 z3 ?_)
 rintro _ _ ⟨rfl,rfl⟩;refine frK zy zy ?_;refine zb ?_;exact ⟨trivial,_,rfl,rfl,rfl⟩
abbrev idsT (m : Mg) : T:=.agg [.v (.int .u32 m.base),I64 m.cnt,I64 m.made]
theorem zcv {a : Int} (h : 0≤a∧a < 4294967296) : IntKind.u32.wrap a = a:=by
 show (a % 4294967296) = a
 omega
theorem zka (m : Mg) (hb : 1048576≤m.base∧m.base≤8388608) : CallP Tryd.prog 57 [idsT m] (I64 (m.base + 1)):=by
 refine CallP.intro2 yw yw ?_;refine CallT.intro zc Tryd.func57 rfl (by kernel_rfl) (Nat.le_of_ble_eq_true rfl) ?_;refine ze zc [1] rfl ?_;refine yx rfl rfl ?_;refine za rfl ?_;refine zb ?_;refine ze zc [] rfl ?_;iterate 2 refine za rfl ?_
 refine za (t:=.v (.int .u32 (m.base + 1))) (by show some (T.v (.int .u32 (IntKind.u32.wrap (m.base + 1))),(none : Option (Nat × List T))) = _;rw [zcv zu]) ?_;refine za (t:=I64 (m.base + 1)) (by show some (T.v (.int .i64 (IntKind.i64.wrap (m.base + 1))),(none : Option (Nat × List T))) = _;rw [w4 zu]) ?_;refine za rfl ?_;refine zb ?_;refine yr ?_;exact ⟨trivial,_,rfl,Cv.eq (by first | rfl | (simp [*];done)) rfl⟩
theorem zjk (m : Mg) (hb : 1048576≤m.base∧m.base≤8388608) : CallP Tryd.prog 56 [idsT m] (I64 (m.base + 2)):=by
 refine CallP.intro2 yw yw ?_;refine CallT.intro zc Tryd.func56 rfl (by kernel_rfl) (Nat.le_of_ble_eq_true rfl) ?_;refine ze zc [1] rfl ?_;refine yx rfl rfl ?_;refine za rfl ?_;refine zb ?_;refine ze zc [] rfl ?_;iterate 2 refine za rfl ?_
 refine za (t:=.v (.int .u32 (m.base + 2))) (by show some (T.v (.int .u32 (IntKind.u32.wrap (m.base + 2))),(none : Option (Nat × List T))) = _;rw [zcv zu]) ?_;refine za (t:=I64 (m.base + 2)) (by show some (T.v (.int .i64 (IntKind.i64.wrap (m.base + 2))),(none : Option (Nat × List T))) = _;rw [w4 zu]) ?_;refine za rfl ?_;refine zb ?_;refine yr ?_;exact ⟨trivial,_,rfl,Cv.eq (by first | rfl | (simp [*];done)) rfl⟩
theorem frame_p (m : Mg) (hb : 1048576≤m.base∧m.base≤8388608) (hm : 0≤m.made∧m.made≤2000000) : CallP Tryd.prog 122 [idsT m] (I64 (m.base + 10 + m.made)):=by
 refine CallP.intro2 yw yw ?_;refine CallT.intro zc Tryd.func122 rfl (by kernel_rfl) (Nat.le_of_ble_eq_true rfl) ?_;refine ze zc [1] rfl ?_;refine yx rfl rfl ?_;refine za rfl ?_;refine zb ?_;refine ze zc [] rfl ?_;iterate 2 refine za rfl ?_
 refine za (t:=I64 m.base) (by show some (T.v (.int .i64 (IntKind.i64.wrap m.base)),(none : Option (Nat × List T))) = _;rw [w4 zu]) ?_;refine xg rfl rfl zu ?_;iterate 2 refine za rfl ?_
 refine xg rfl rfl zu ?_;refine za rfl ?_;refine zb ?_;refine yr ?_;exact ⟨trivial,_,rfl,Cv.eq (by first | rfl | (simp [*];done)) rfl⟩
theorem far_p (step all taken : Int) (h1 : 0≤step∧step≤100000000) (h2 : -4294967296≤all∧all≤4294967296) (h3 : -4294967296≤taken∧taken≤4294967296) : CallP Tryd.prog 52 [I64 step,I64 all,I64 taken] (I64 (farI step all taken)):=by
 unfold farI
 refine CallP.intro2 yw yw ?_;refine CallT.intro zc Tryd.func52 rfl (by kernel_rfl) (Nat.le_of_ble_eq_true rfl) ?_;refine ze zc [] rfl ?_;refine za rfl ?_;refine zb ?_;refine ze zc [] rfl ?_;iterate 2 refine za rfl ?_
 refine pq rfl rfl zu ?_;refine za rfl ?_;refine zb ?_;refine zo ?_;refine yf ?_;refine ze zc [] rfl ?_;iterate 4 refine za rfl ?_
 refine zb ?_;refine zi rfl (fun hc0=>?_) (fun hc0=>?_)
 ·(try simp only [zf] at hc0);rw [if_pos (by omega)]
  refine ze zc [] rfl ?_;refine za rfl ?_;refine zb ?_;refine yr ?_;exact ⟨trivial,_,rfl,Cv.eq (by first | rfl | (simp [*];done)) rfl⟩
 ·(try simp only [zf] at hc0);rw [if_neg (by omega)]
  refine ze zc [] rfl ?_;iterate 3 refine za rfl ?_
  refine' zx (d:=21) [_,_,_] rfl ?_ rfl ?_
  rotate_left
  ·refine zw rfl rfl (fun hb4_2=>?_) (fun hb4_2=>?_)
   ·have ghb4_2:=hb4_2
    try simp only [zf,Bool.not_true,Bool.not_false] at ghb4_2
    refine za rfl ?_;refine zd rfl rfl hb4_2 ?_;refine za rfl ?_;refine yz rfl (fun _=>rfl) ?_;exact zb ⟨rfl,rfl⟩
   ·refine zl rfl rfl hb4_2 ?_;exact yz rfl (fun h=>absurd (h.symm.trans hb4_2) (by decide)) (zb ⟨rfl,rfl⟩)
  refine za rfl ?_;refine zb ?_;refine zi rfl (fun hc1=>?_) (fun hc1=>?_)
  ·(try simp only [zf] at hc1);rw [if_pos (by omega)]
   refine ze zc [] rfl ?_;iterate 2 refine za rfl ?_
   refine zb ?_;refine yr ?_;exact ⟨trivial,_,rfl,Cv.eq (by first | rfl | (simp [*];done)) rfl⟩
  ·(try simp only [zf] at hc1);rw [if_neg (by omega)]
   refine zt ?_;refine ze zc [] rfl ?_;iterate 2 refine za rfl ?_
   refine xg rfl rfl zu ?_;refine VX.remN rfl rfl zu zu ?_;refine za rfl ?_;refine zb ?_;refine yr ?_;exact ⟨trivial,_,rfl,Cv.eq (by first | rfl | (simp [*];done)) rfl⟩
theorem zb2 (v : Int) : CallP Tryd.prog 129 [I64 v] (I64 (boundI v)):=by
 refine CallP.intro2 yw yw ?_;refine CallT.intro zc Tryd.func129 rfl (by kernel_rfl) (Nat.le_of_ble_eq_true rfl) ?_;refine ze zc [] rfl ?_;refine za rfl ?_;refine zb ?_;refine ze zc [] rfl ?_;refine za rfl ?_;refine zhq rfl rfl ?_;refine zbd rfl rfl ?_;refine za rfl ?_;refine zb ?_;refine yr ?_;exact ⟨trivial,_,rfl,Cv.eq (by first | rfl | (simp [*];done)) rfl⟩
theorem spot_p (n w h X Y W H : Int) (h1 : r32 w) (h2 : r32 h) (h3 : r32 X) (h4 : r32 Y) (h5 : r32 W) (h6 : r32 H) : CallP Tryd.prog 27 [I64 n,I64 w,I64 h,.agg [I64 X,I64 Y,I64 W,I64 H]] (.agg [I64 (spotX n w X W),I64 (spotY n h Y H)]):=by
 unfold r32 at *
 have hm : 0≤min (max n 0) 1048576∧min (max n 0) 1048576≤1048576:=by omega
 have ha:=far_p (12 * min (max n 0) 1048576) W w (by omega) (by omega) (by omega)
 have hb:=far_p (10 * min (max n 0) 1048576) H h (by omega) (by omega) (by omega)
 have hf : ∀ s a b : Int,0≤s∧s≤100000000→-4294967296≤a∧a≤4294967296→-4294967296≤b∧b≤4294967296→0≤farI s a b∧farI s a b≤100000000:=fun s a b k1 k2 k3=>by
  unfold farI
  split
  ·omega
  ·split
   ·omega
   ·have:=Int.emod_nonneg s (b:=a - b + 1) (by omega)
    have:=Int.emod_lt_of_pos s (b:=a - b + 1) (by omega)
    omega
 have hfa:=hf (12 * min (max n 0) 1048576) W w (by omega) (by omega) (by omega)
 have hfb:=hf (10 * min (max n 0) 1048576) H h (by omega) (by omega) (by omega)
 unfold spotX spotY
 generalize farI (12 * min (max n 0) 1048576) W w = A at *
 generalize farI (10 * min (max n 0) 1048576) H h = B at *
 refine CallP.intro2 yw yw ?_;refine CallT.intro zc Tryd.func27 rfl (by kernel_rfl) (Nat.le_of_ble_eq_true rfl) ?_;refine ze zc [7] rfl ?_;refine yx rfl rfl ?_;refine yk rfl rfl ?_;refine zb ?_;refine ze zc [] rfl ?_;refine za rfl ?_;refine zhq rfl rfl ?_;refine zbd rfl rfl ?_;refine za rfl ?_;refine zb ?_;refine yu zc [] [_,_,_,_,_,_,_,_,_,_,_,_,_,_,_,_,_,_,_] rfl yj yj ?_;iterate 3 refine za rfl ?_
 refine zhp rfl rfl zu ?_;iterate 3 refine za rfl ?_
 refine z6 rfl rfl rfl (ha) ?_;refine xg rfl rfl zu ?_;iterate 3 refine za rfl ?_
 refine zhp rfl rfl zu ?_;iterate 3 refine za rfl ?_
 refine z6 rfl rfl rfl (hb) ?_;refine xg rfl rfl zu ?_;refine za rfl ?_;refine zb ?_;refine zp rfl rfl rfl rfl rfl xf rfl ?_;refine zb ?_;refine yr ?_;exact ⟨trivial,_,rfl,Cv.eq (by first | rfl | (simp [*];done)) rfl⟩
theorem zdy (v : Int) : (v < 32∨v > 126→((titleB v).toNat : Int) = 63)∧(¬ (v < 32∨v > 126)→((titleB v).toNat : Int) = v):=by
 unfold titleB
 refine ⟨fun h=>by rw [if_pos h];rfl,fun h=>?_⟩
 rw [if_neg h,UInt8.toNat_ofNat_of_lt' (by show v.toNat < 256;omega)]
 omega
end

section
open Go.RowKit
set_option maxRecDepth 10000
set_option maxHeartbeats 1000000
theorem zdz {α β : Type} [Inhabited α] {l : List α} {i : Nat} (h : i < l.length) (f : α→β) : (l.take (i + 1)).map f = (l.take i).map f ++ [f l[i]!]:=by
 rw [List.take_add_one,List.map_append,List.getElem?_eq_getElem h,getElem!_pos l i h];rfl
theorem zaq {v : Int} (h : 0≤v∧v < 256) : IntKind.u8.wrap v = v:=by
 show v % 256 = v
 omega
theorem zjq (row : List Int) (hl : row.length≤100000) : CallP Tryd.prog 123 [cIf row] (strT (titleL row)):=by
 have hres : ∀ N : Nat,N = min row.length 32→titleL row = (row.take N).map titleB:=fun N hN=>by
  unfold titleL
  rw [hN]
  congr 1
  rcases Nat.le_total row.length 32 with h | h
  ·rw [Nat.min_eq_left h,List.take_of_length_le h,List.take_of_length_le (Nat.le_refl _)]
  ·rw [Nat.min_eq_right h]
 obtain ⟨N,hN⟩ : ∃ N,N = min row.length 32:=⟨_,rfl⟩
 have hNi : min (row.length : Int) 32 = (N : Int):=by omega
 rw [hres N hN]
 refine CallP.intro2 yw yw ?_;refine CallT.intro zc Tryd.func123 rfl (by kernel_rfl) (Nat.le_of_ble_eq_true rfl) ?_;refine ze zc [] rfl ?_;refine za rfl ?_;refine zb ?_;refine ze zc [] rfl ?_;refine za rfl ?_;refine zb ?_;refine zo ?_;refine ze zc [] rfl ?_;iterate 3 refine za rfl ?_
 refine zbd rfl rfl ?_;rw [hNi]
 refine zdt rfl rfl rfl rfl rfl (by first | rfl | exact (Int.toNat_of_nonneg zu).symm) zu ?_;iterate 2 refine za rfl ?_
 refine zb ?_;refine yf ?_;refine xo (σ:=Nat) (fun i=>N - i) (fun i=>i≤N) (fun i=>[(12,I64 i),(3,.slc 0 0 i 1 none)]) (fun i=>[.c (encL cY ((row.take i).map titleB))]) [10,11] rfl (0) ?_ ?_ ?_
 ·refine ⟨[none],rfl,yb,ya,?_,?_⟩ <;> (repeat' first | exact trivial | exact yc | exact yd | exact z9 rfl | refine zn ?_ ?_ | refine zk rfl ?_ ?_ | refine zj ?_ ?_ | refine ye rfl ?_ | fail) <;> first | exact yv | (skip)
 ·(try dsimp only);omega
 rintro i hi;refine ze zc [] rfl ?_;refine za rfl ?_;refine zb ?_;refine zo ?_;refine zi rfl (fun hc0=>?_) (fun hc0=>?_)
 ·(try simp only [zf] at hc0);have hil : i < N:=(by omega);have hrl : i < row.length:=(by omega);have htl : ((row.take i).map titleB).length = i:=(by rw [List.length_map,List.length_take];omega)
  have hsn:=zdz hrl titleB;have hen:=zdy row[i]!
  refine zt ?_;refine zo ?_;refine yf ?_;refine ze zc [] rfl ?_;refine zr rfl rfl rfl rfl rfl rfl zu ?_;refine zm rfl rfl yn ?_;refine za rfl ?_;refine zb ?_;refine zo ?_;refine ze zc [] rfl ?_;iterate 3 refine za rfl ?_
  refine' zx (d:=21) [_,_,_] rfl ?_ rfl ?_
  rotate_left
  ·refine zw rfl rfl (fun hb5_2=>?_) (fun hb5_2=>?_)
   ·have ghb5_2:=hb5_2
    try simp only [zf,Bool.not_true,Bool.not_false] at ghb5_2
    refine za rfl ?_;refine zd rfl rfl hb5_2 ?_;refine za rfl ?_;refine yz rfl (fun _=>rfl) ?_;exact zb ⟨rfl,rfl⟩
   ·refine zl rfl rfl hb5_2 ?_;exact yz rfl (fun h=>absurd (h.symm.trans hb5_2) (by decide)) (zb ⟨rfl,rfl⟩)
  refine zb ?_;refine zi rfl (fun hc1=>?_) (fun hc1=>?_)
  ·(try simp only [zf] at hc1);have hu:=hen.1 (by simpa using hc1)
   refine z4 zc [] rfl ?_;refine za rfl ?_;refine zb ?_;refine z4 zc [25] rfl ?_;iterate 2 refine za rfl ?_
   refine za (t:=U8 ((titleB row[i]!).toNat : Int)) (by rw [hu];first | rfl | (show some (T.v (.int .u8 (IntKind.u8.wrap row[i]!)),(none : Option (Nat × List T))) = _;rw [zaq zu])) ?_;refine yx rfl rfl ?_;refine u4 rfl rfl rfl rfl rfl rfl rfl rfl (by rw [xa,htl,zbb];omega) (by show (i + 1) * 1≤_;omega) zu rfl rfl ?_;refine za rfl ?_;refine zb ?_;refine z4 zc [] rfl ?_;refine xg rfl rfl zu ?_;refine za rfl ?_;refine zb ?_;refine ⟨i + 1,by (try dsimp only);omega,?_,(by refine ⟨[some 1],rfl,yb,ya,?_,?_⟩ <;> (repeat' first | exact trivial | exact yc | exact yd | exact z9 rfl | refine zn ?_ ?_ | refine zk rfl ?_ ?_ | refine zj ?_ ?_ | refine ye rfl ?_ | fail) <;> first | exact yv | (first | exact Cv.slc rfl (.inr rfl) | exact CvL.eq (by rw [hsn,wy,List.drop_zero,List.take_of_length_le (by rw [xa,htl,zbb];exact Nat.le_refl _)];rfl) (zg _ _)))⟩
   (try dsimp only);omega
  ·(try simp only [zf] at hc1);have hu:=hen.2 (by simpa using hc1)
   refine zt ?_;refine z4 zc [25] rfl ?_;iterate 2 refine za rfl ?_
   refine za (t:=U8 ((titleB row[i]!).toNat : Int)) (by rw [hu];first | rfl | (show some (T.v (.int .u8 (IntKind.u8.wrap row[i]!)),(none : Option (Nat × List T))) = _;rw [zaq zu])) ?_;refine yx rfl rfl ?_;refine u4 rfl rfl rfl rfl rfl rfl rfl rfl (by rw [xa,htl,zbb];omega) (by show (i + 1) * 1≤_;omega) zu rfl rfl ?_;refine za rfl ?_;refine zb ?_;refine z4 zc [] rfl ?_;refine xg rfl rfl zu ?_;refine za rfl ?_;refine zb ?_;refine ⟨i + 1,by (try dsimp only);omega,?_,(by refine ⟨[some 1],rfl,yb,ya,?_,?_⟩ <;> (repeat' first | exact trivial | exact yc | exact yd | exact z9 rfl | refine zn ?_ ?_ | refine zk rfl ?_ ?_ | refine zj ?_ ?_ | refine ye rfl ?_ | fail) <;> first | exact yv | (first | exact Cv.slc rfl (.inr rfl) | exact CvL.eq (by rw [hsn,wy,List.drop_zero,List.take_of_length_le (by rw [xa,htl,zbb];exact Nat.le_refl _)];rfl) (zg _ _)))⟩
   (try dsimp only);omega
 ·(try simp only [zf] at hc0);obtain rfl : i = N:=(by omega);have htl : ((row.take i).map titleB).length = i:=(by rw [List.length_map,List.length_take];omega)
  refine y7 ?_;refine ze zc [] rfl ?_;refine za rfl ?_;refine VX.strY rfl rfl rfl rfl rfl rfl rfl rfl (by rw [xa,htl,zbb];omega) (by rw [List.drop_zero,List.take_of_length_le (by rw [xa,htl,zbb];omega)]) ?_;refine za rfl ?_;refine zb ?_;refine yr ?_;exact ⟨trivial,_,rfl,Cv.eq (by first | rfl | (simp [*];done)) rfl⟩
abbrev tzC (m : Mg) (a : T) : List T:=[.v (.int .u32 m.base),I64 m.cnt,I64 m.made,I64 m.w,I64 m.h,.mp (kF m.F) (tF m.F),.mp (kF m.W) (tW m.W),BL m.on,I64 m.df,I64 m.dx,I64 m.dy,a]
theorem pF (l : List (Int × Fr)) : T.pureL (tF l) = true:=vf fun t ht=>by obtain ⟨e,-,rfl⟩:=List.mem_map.1 ht;rfl
theorem pW (l : List (Int × Wt)) : T.pureL (tW l) = true:=vf fun t ht=>by obtain ⟨e,-,rfl⟩:=List.mem_map.1 ht;rfl
theorem piF (l : List (Int × Fr)) : (mapP (kF l) (tF l)).pi = true:=pF l
theorem piW (l : List (Int × Wt)) : (mapP (kF l) (tW l)).pi = true:=pW l
theorem zcb (m : Mg) (a : T) (ha : a.pure = true) : T.pureL (tzC m a) = true:=by
 have h1:=pF m.F
 have h2:=pW m.W
 show (true && (true && (true && (true && (true && (T.pureL (tF m.F) && (T.pureL (tW m.W) && (true && (true && (true && (true && (a.pure && true)))))))))))) = true
 rw [h1,h2,ha];rfl
theorem zgu {α : Type} {l : List (Int × α)} {i : Nat} {k : Value} (h : (kF l)[i]? = some k) : ∃ e,l[i]? = some e∧k = .int .i64 e.1:=by
 rw [List.getElem?_map] at h
 cases he : l[i]? with
 | none=>rw [he] at h;cases h
 | some e=>rw [he] at h;exact ⟨e,rfl,by injection h with h;exact h.symm⟩
theorem tW_at {l : List (Int × Wt)} {i : Nat} {e : Int × Wt} {t : T} (h : l[i]? = some e) (k : (tW l)[i]? = some t) : t = wtT e.2:=by rw [List.getElem?_map,h] at k;injection k with k;exact k.symm
theorem zjt {l : List (Int × Fr)} {i : Nat} {e : Int × Fr} {t : T} (h : l[i]? = some e) (k : (tF l)[i]? = some t) : t = frT e.2:=by rw [List.getElem?_map,h] at k;injection k with k;exact k.symm
theorem qz {α : Type} : ∀ {l : List α} {i : Nat} {a x : α},l[i]? = some a→x∈l→x≠a→x∈l.eraseIdx i
 | [],_,_,_,h,_,_=>by simp at h
 | y :: l,0,a,x,h,hx,hn=>by
  simp at h;subst h
  rcases List.mem_cons.1 hx with rfl | hx
  ·exact absurd rfl hn
  ·simpa using hx
 | y :: l,i + 1,a,x,h,hx,hn=>by
  simp at h
  rw [List.eraseIdx_cons_succ]
  rcases List.mem_cons.1 hx with rfl | hx
  ·exact List.mem_cons_self
  ·exact List.mem_cons_of_mem _ (qz h hx hn)
def foundW (m : Mg) (is : Wt→Bool) : T:=match posB m.W is with | some i=>.tup [I64 (m.W[i]!).1,BL true] | none=>.tup [I64 0,BL false]
theorem zfd (m : Mg) (a : T) (f : FuncId) (cs : List T) (is : Wt→Bool) (ha : a.pure = true) (hcs : T.pureL cs = true) (hu : ∀ (i j : Nat) (x y : Int × Wt),m.W[i]? = some x→m.W[j]? = some y→is x.2 = true→is y.2 = true→i = j)
  (hcl : ∀ k,CallP Tryd.prog f ([] ++ [wtT k] ++ cs) (BL (is k))) :
  CallP Tryd.prog 81 [.iptr (tzC m a) 0,.clo f [] cs] (foundW m is):=by
 have htz:=zcb m a ha
 have hF:=pF m.F
 have hW:=pW m.W
 have hfp : (foundW m is).pure = true:=by unfold foundW;split <;> rfl
 have hpi0 : (iterP none (kF m.W) (tW m.W)).pi = true:=by show (T.pureL (tW m.W) && true) = true;rw [pW];rfl
 refine CallP.intro2 yw yw ?_;refine CallT.intro zc Tryd.func81 rfl (by kernel_rfl) (Nat.le_of_ble_eq_true rfl) ?_;refine ze zc [] rfl ?_;iterate 2 refine za rfl ?_
 refine zb ?_;refine zo ?_;refine ze zc [] rfl ?_;iterate 5 refine za rfl ?_
 refine tg zc rfl rfl rfl (.inl rfl) ?_;refine zb ?_;refine yf ?_;refine wa (σ1:=List (Int × Wt)) (σ2:=Option (Value × T)) (fun R _=>R.length) (fun R c=>(∀ e∈R,e∈m.W)∧(∀ e∈m.W,is e.2 = true→e∈R)∧(iterP c (kF R) (tW R)).pi = true) (fun _ _=>[(13,.ptr 0 0)]) (fun R c=>[.o (iterP c (kF R) (tW R))]) [1] rfl (m.W) (none) ?_ ?_ ?_
 ·refine ⟨[some 0],rfl,yb,ya,?_,?_⟩ <;> (repeat' first | exact trivial | exact yc | exact yd | exact z9 rfl | refine zn ?_ ?_ | refine zk rfl ?_ ?_ | refine zj ?_ ?_ | refine ye rfl ?_ | fail) <;> first | exact yv | (skip)
 ·exact ⟨fun e h=>h,fun e h _=>h,hpi0⟩
 rintro R c ⟨hR1,hR2,hpi⟩;refine ze zc [] rfl ?_;refine sk rfl rfl (fun hz2=>?_) (fun i2 k2 t2 hk2 ht2=>?_)
 ·have hRn : R = []:=(by simpa using hz2)
  refine za rfl ?_;refine zb ?_;refine zo ?_;refine yq rfl ?_;refine y7 ?_;refine ze zc [] rfl ?_;iterate 2 refine za rfl ?_
  refine zb ?_;refine yr ?_;subst hRn;exact ⟨trivial,_,rfl,Cv.eq (by have hn : posB m.W is = none:=(List.findIdx?_eq_none_iff.2 fun x hx=>(by cases hi : is x.2 with | false=>rfl | true=>exact absurd (hR2 x hx hi) (by simp)));unfold foundW;rw [hn];rfl) hfp⟩
 ·obtain ⟨e,he,rfl⟩:=zgu hk2;obtain rfl:=tW_at he ht2;rw [show (kF R).eraseIdx i2 = kF (R.eraseIdx i2) from (xp _ _ _).symm,show (tW R).eraseIdx i2 = tW (R.eraseIdx i2) from (xp _ _ _).symm]
  have hlen : (R.eraseIdx i2).length < R.length:=(by have:=(List.getElem?_eq_some_iff.1 he).1;rw [List.length_eraseIdx_of_lt this];omega)
  have hpi1 : (iterP (some (Value.int .i64 e.1,wtT e.2)) (kF (R.eraseIdx i2)) (tW (R.eraseIdx i2))).pi = true:=(by show (T.pureL (tW _) && true) = true;rw [pW];rfl)
  refine za rfl ?_;refine zb ?_;refine zo ?_;refine xv rfl ?_;refine zt ?_;refine yf ?_;refine ze zc [] rfl ?_;refine ri rfl rfl ?_;iterate 2 refine za rfl ?_
  refine yk rfl rfl ?_;refine za rfl ?_;refine zp rfl rfl rfl rfl rfl zhl rfl ?_;refine zb ?_;refine ze zc [] rfl ?_;iterate 2 refine za rfl ?_
  refine z6 rfl rfl rfl (hcl e.2) ?_;refine zb ?_;refine zi rfl (fun hc1=>?_) (fun hc1=>?_)
  ·(try simp only [zf] at hc1)
   refine ze zc [] rfl ?_;iterate 3 refine za rfl ?_
   refine zb ?_;refine yr ?_;exact ⟨trivial,_,rfl,Cv.eq (by obtain ⟨j,hj⟩:=List.mem_iff_getElem?.1 (hR1 e (v4 he));unfold foundW;rw [zbn hj hc1 (fun j' e' h1 h2=>hu j' j e' e h1 hj h2 hc1)];simp only [getM hj];rfl) hfp⟩
  ·(try simp only [zf] at hc1)
   refine zt ?_;refine ⟨R.eraseIdx i2,some (Value.int .i64 e.1,wtT e.2),by (try dsimp only);omega,?_,(by refine ⟨[some 0],rfl,yb,ya,?_,?_⟩ <;> (repeat' first | exact trivial | exact yc | exact yd | exact z9 rfl | refine zn ?_ ?_ | refine zk rfl ?_ ?_ | refine zj ?_ ?_ | refine ye rfl ?_ | fail) <;> first | exact yv | (fail))⟩
   exact ⟨fun x hx=>hR1 x (List.mem_of_mem_eraseIdx hx),fun x hx hi=>qz he (hR2 x hx hi) (by rintro rfl;rw [hi] at hc1;cases hc1),hpi1⟩
/- looks at a map -/
theorem likeF {α : Type} (l : List (Int × α)) (id : Int) : ((kF l).all fun x=>(likeK (.int .i64) (.int .i64 id) x).isSome) = true:=by
 rw [List.all_map,List.all_eq_true]
 intro e _
 simp [likeK]
theorem ph {α : Type} (f : α→T) : ∀ {l : List (Int × α)} {id : Int},posK l id = none→mFind (.int .i64) (.int .i64 id) (kF l) (l.map fun e=>f e.2) = none
 | [],_,_=>rfl
 | e :: l,id,h=>by
  have h1:=uy h
  simp only [List.map_cons,List.mem_cons,not_or] at h1
  have h2 : posK l id = none:=List.findIdx?_eq_none_iff.2 fun x hx=>by
   have : id≠x.1:=fun k=>h1.2 (k ▸ List.mem_map.2 ⟨x,hx,rfl⟩)
   simpa using fun k=>this k.symm
  show (if likeK (.int .i64) (.int .i64 id) (.int .i64 e.1) = some true then _ else mFind _ _ (kF l) _) = none
  rw [if_neg (by simp only [likeK,if_true];intro k;injection k with k;exact h1.1 (by simpa using k))]
  exact ph f h2
theorem pf {α : Type} (f : α→T) : ∀ {l : List (Int × α)} {id : Int} {i : Nat} {v : α},(l.map Prod.fst).Nodup→l[i]? = some (id,v)→mFind (.int .i64) (.int .i64 id) (kF l) (l.map fun e=>f e.2) = some (f v)
 | [],_,_,_,_,h=>by simp at h
 | e :: l,id,0,v,_,h=>by
  simp at h;subst h
  show (if likeK (.int .i64) (.int .i64 id) (.int .i64 id) = some true then _ else _) = _
  rw [if_pos (by simp [likeK])]
 | e :: l,id,i + 1,v,hn,h=>by
  simp at h
  rw [List.map_cons,List.nodup_cons] at hn
  have hne : ¬ id = e.1:=fun k=>hn.1 (k ▸ List.mem_map.2 ⟨_,v4 h,rfl⟩)
  show (if likeK (.int .i64) (.int .i64 id) (.int .i64 e.1) = some true then _ else mFind _ _ (kF l) _) = _
  rw [if_neg (by simp only [likeK,if_true];intro k;injection k with k;exact hne (by simpa using k))]
  exact pf f hn.2 h
def zFr : Fr:=⟨0,0,0,[]⟩
def lkF (F : List (Int × Fr)) (id : Int) : Fr × Bool:=match posK F id with | some i=>((F[i]!).2,true) | none=>(zFr,false)
theorem s0 {F : List (Int × Fr)} {id : Int} (h : posK F id = none) : lkF F id = (zFr,false):=by unfold lkF;rw [h]
theorem xb {F : List (Int × Fr)} {id : Int} {i : Nat} {v : Fr} (h : posK F id = some i) (he : F[i]? = some (id,v)) : lkF F id = (v,true):=by unfold lkF;rw [h];simp only [getM he]
abbrev okT (ok : Bool) (r : T) (b : Bool) : T:=if ok then .tup [r,BL b] else r
theorem lookF {F : List (Int × Fr)} (hn : (F.map Prod.fst).Nodup) (id : Int) (ok : Bool) : mLook2 tab 76 (kF F) (tF F) (.int .i64 id) ok = some (okT ok (frT (lkF F id).1) (lkF F id).2):=by
 have e : mLook2 tab 76 (kF F) (tF F) (.int .i64 id) ok = (if ((kF F).all fun x=>(likeK (.int .i64) (.int .i64 id) x).isSome) && true then (match mFind (.int .i64) (.int .i64 id) (kF F) (tF F) with | some r=>some (if ok then .tup [r,.v (.bool true)] else r) | none=>some (if ok then .tup [frT zFr,.v (.bool false)] else frT zFr)) else none):=rfl
 rw [e,likeF]
 cases h : posK F id with
 | none=>rw [ph frT h,s0 h];rfl
 | some i=>
  obtain ⟨v,he⟩:=vn h
  rw [pf frT hn he,xb h he];rfl
theorem rv {W : List (Int × Wt)} (hn : (W.map Prod.fst).Nodup) {id : Int} {i : Nat} {v : Wt} (he : W[i]? = some (id,v)) (ok : Bool) : mLook2 tab 77 (kF W) (tW W) (.int .i64 id) ok = some (okT ok (wtT v) true):=by
 have e : mLook2 tab 77 (kF W) (tW W) (.int .i64 id) ok = (if ((kF W).all fun x=>(likeK (.int .i64) (.int .i64 id) x).isSome) && true then (match mFind (.int .i64) (.int .i64 id) (kF W) (tW W) with | some r=>some (if ok then .tup [r,.v (.bool true)] else r) | none=>some (if ok then .tup [.agg [I64 0,I64 0,BL false,I64 0,I64 0],.v (.bool false)] else .agg [I64 0,I64 0,BL false,I64 0,I64 0])) else none):=rfl
 rw [e,likeF,pf wtT hn he];rfl
theorem zd6 {W : List (Int × Wt)} {id : Int} (h : posK W id = none) (ok : Bool) : mLook2 tab 77 (kF W) (tW W) (.int .i64 id) ok = some (okT ok (.agg [I64 0,I64 0,BL false,I64 0,I64 0]) false):=by
 have e : mLook2 tab 77 (kF W) (tW W) (.int .i64 id) ok = (if ((kF W).all fun x=>(likeK (.int .i64) (.int .i64 id) x).isSome) && true then (match mFind (.int .i64) (.int .i64 id) (kF W) (tW W) with | some r=>some (if ok then .tup [r,.v (.bool true)] else r) | none=>some (if ok then .tup [.agg [I64 0,I64 0,BL false,I64 0,I64 0],.v (.bool false)] else .agg [I64 0,I64 0,BL false,I64 0,I64 0])) else none):=rfl
 rw [e,likeF,ph wtT h];rfl
abbrev mF (m : Mg) : OP:=mapP (kF m.F) (tF m.F)
abbrev mW (m : Mg) : OP:=mapP (kF m.W) (tW m.W)
theorem ui {look : Look} {nx : Nat} {ρ : EnvF} {t : TypeId} {x y : Operand} {ok : Bool} {ks : List Value} {ts : List T} {kv : Value} {r : T} (h1 : ρ x = some (.mp ks ts)) (h2 : ρ y = some (.v kv)) (h : mLook2 tab t ks ts kv ok = some r) : opM tab look nx ρ (.lookup t x y ok) = some (r,none):=by
 simp only [opM,h1,h2,mLookup,h]
theorem zkb (m : Mg) (a : T) (event id : Int) (ha : a.pure = true) (hn : (m.F.map Prod.fst).Nodup) :
  CallP Tryd.prog 126 [.iptr (tzC m a) 0,I64 event,I64 id] (.tup [frT (lkF m.F id).1,BL ((lkF m.F id).2 && ((lkF m.F id).1.fr == event))]):=by
 have hlk:=lookF hn id true
 have htz:=zcb m a ha
 have hF:=pF m.F
 have hW:=pW m.W
 generalize lkF m.F id = r at hlk ⊢
 refine CallP.intro2 yw yw ?_;refine CallT.intro zc Tryd.func126 rfl (by kernel_rfl) (Nat.le_of_ble_eq_true rfl) ?_;refine ze zc [] rfl ?_;refine yk rfl rfl ?_;refine za rfl ?_;refine zb ?_;refine ze zc [] rfl ?_;iterate 6 refine za rfl ?_
 refine za (t:=.tup [frT r.1,BL r.2]) (ui rfl rfl hlk) ?_;iterate 3 refine za rfl ?_
 refine yk rfl rfl ?_;refine zp rfl rfl rfl rfl rfl zhl rfl ?_;refine za rfl ?_;refine zb ?_;refine vu zc [] [_,_,_,_,_,_,_,_,_] (_) rfl yj yj yj (x0 (b:=0) (xz _) (by rw [xw];simp)) ?_;refine uq (l1:=[_,_,_,_,_,_,_,_]) rfl ?_;iterate 3 refine za rfl ?_
 refine' zx (d:=27) [_,_,_,_,_] rfl ?_ rfl ?_
 rotate_left
 ·refine zw rfl rfl (fun hb2_2=>?_) (fun hb2_2=>?_)
  ·have ghb2_2:=hb2_2
   try simp only [zf,Bool.not_true,Bool.not_false] at ghb2_2
   refine za rfl ?_;refine zd rfl rfl hb2_2 ?_;refine za rfl ?_;refine zd rfl rfl hb2_2 ?_;refine za rfl ?_;refine zd rfl rfl hb2_2 ?_;refine za rfl ?_;refine zh rfl (fun _=>rfl) ?_;exact zb ⟨rfl,rfl⟩
  ·refine zl rfl rfl hb2_2 ?_;iterate 2 refine zl rfl rfl hb2_2 ?_
   exact zh rfl (fun h=>absurd (h.symm.trans hb2_2) (by decide)) (zb ⟨rfl,rfl⟩)
 refine zb ?_;refine uo rfl rfl rfl rfl ?_;refine ur (⟨rfl,Nat.le_of_ble_eq_true rfl,rfl,trivial⟩) ?_;refine za rfl ?_;refine zb ?_;refine yr ?_;exact ⟨trivial,_,rfl,Cv.eq (by first | rfl | (simp [*];done)) rfl⟩
abbrev askZ (l : List Rq) : T:=.islc (encL cRn l) l.length none
theorem u7 (m : Mg) (l : List Rq) : Cv (vwL (tnH m (mF m) (mW m) l) []) (.ptr 0 0) (.iptr (tzC m (askZ l)) 0):=
 Cv.fptr ⟨rfl,by simp⟩ (CvL.cons (Cv.pure rfl) (CvL.cons (Cv.pure rfl) (CvL.cons (Cv.pure rfl) (CvL.cons (Cv.pure rfl) (CvL.cons (Cv.pure rfl) (CvL.cons (Cv.fom ⟨rfl,by simp⟩ (CvL.pure (pF m.F))) (CvL.cons (Cv.fom ⟨rfl,by simp⟩ (CvL.pure (pW m.W))) (CvL.cons (Cv.pure rfl) (CvL.cons (Cv.pure rfl) (CvL.cons (Cv.pure rfl) (CvL.cons (Cv.pure rfl) (CvL.cons (Cv.fslc0 ⟨rfl,by simp⟩ (CvL.pure (zg _ _))) CvL.nil))))))))))))
theorem tr (l : List Rq) : (askZ l).pure = true:=by simp only [T.pure,zg]
def foundF (m : Mg) (frame : Int) : T:=match m.of frame with | some i=>.tup [frT (m.F[i]!).2,BL true] | none=>.tup [frT zFr,BL false]
theorem of_p (m : Mg) (a : T) (frame : Int) (ha : a.pure = true) (hu : (m.F.map (fun e=>e.2.fr)).Nodup) :
  CallP Tryd.prog 128 [.iptr (tzC m a) 0,I64 frame] (foundF m frame):=by
 have htz:=zcb m a ha
 have hF:=pF m.F
 have hW:=pW m.W
 have hfp : (foundF m frame).pure = true:=by unfold foundF;split <;> rfl
 have hpi0 : (iterP none (kF m.F) (tF m.F)).pi = true:=by show (T.pureL (tF m.F) && true) = true;rw [pF];rfl
 refine CallP.intro2 yw yw ?_;refine CallT.intro zc Tryd.func128 rfl (by kernel_rfl) (Nat.le_of_ble_eq_true rfl) ?_;refine ze zc [] rfl ?_;refine yk rfl rfl ?_;refine za rfl ?_;refine zb ?_;refine zo ?_;refine ze zc [] rfl ?_;iterate 5 refine za rfl ?_
 refine tg zc rfl rfl rfl (.inl rfl) ?_;refine zb ?_;refine yf ?_;refine wa (σ1:=List (Int × Fr)) (σ2:=Option (Value × T)) (fun R _=>R.length) (fun R c=>(∀ e∈R,e∈m.F)∧(∀ e∈m.F,e.2.fr = frame→e∈R)∧(iterP c (kF R) (tF R)).pi = true) (fun _ _=>[(13,.ptr 1 0),(4,.ptr 0 0)]) (fun R c=>[.c (frC zFr),.o (iterP c (kF R) (tF R))]) [1] rfl (m.F) (none) ?_ ?_ ?_
 ·refine ⟨[some 0,some 1],rfl,yb,ya,?_,?_⟩ <;> (repeat' first | exact trivial | exact yc | exact yd | exact z9 rfl | refine zn ?_ ?_ | refine zk rfl ?_ ?_ | refine zj ?_ ?_ | refine ye rfl ?_ | fail) <;> first | exact yv | (skip)
 ·exact ⟨fun e h=>h,fun e h _=>h,hpi0⟩
 rintro R c ⟨hR1,hR2,hpi⟩;refine ze zc [] rfl ?_;refine sk rfl rfl (fun hz2=>?_) (fun i2 k2 t2 hk2 ht2=>?_)
 ·have hRn : R = []:=(by simpa using hz2)
  refine za rfl ?_;refine zb ?_;refine zo ?_;refine yq rfl ?_;refine y7 ?_;refine ze zc [] rfl ?_;refine za rfl ?_;refine zp rfl rfl rfl rfl rfl zhl rfl ?_;refine za rfl ?_;refine zb ?_;refine yr ?_;subst hRn;exact ⟨trivial,_,rfl,Cv.eq (by have hn : m.of frame = none:=(List.findIdx?_eq_none_iff.2 fun x hx=>(by cases hi : (x.2.fr == frame) with | false=>exact hi | true=>exact absurd (hR2 x hx (by simpa using hi)) (by simp)));unfold foundF;rw [hn];rfl) hfp⟩
 ·obtain ⟨e,he,rfl⟩:=zgu hk2;obtain rfl:=zjt he ht2;rw [show (kF R).eraseIdx i2 = kF (R.eraseIdx i2) from (xp _ _ _).symm,show (tF R).eraseIdx i2 = tF (R.eraseIdx i2) from (xp _ _ _).symm]
  have hlen : (R.eraseIdx i2).length < R.length:=(by have:=(List.getElem?_eq_some_iff.1 he).1;rw [List.length_eraseIdx_of_lt this];omega)
  have hpi1 : (iterP (some (Value.int .i64 e.1,frT e.2)) (kF (R.eraseIdx i2)) (tF (R.eraseIdx i2))).pi = true:=(by show (T.pureL (tF _) && true) = true;rw [pF];rfl)
  refine za rfl ?_;refine zb ?_;refine zo ?_;refine xv rfl ?_;refine zt ?_;refine yf ?_;refine ze zc [] rfl ?_;refine ri rfl rfl ?_;refine za rfl ?_;refine yk rfl rfl ?_;refine zp rfl rfl rfl rfl rfl zhl rfl ?_;refine zb ?_;refine ze zc [] rfl ?_;iterate 4 refine za rfl ?_
  refine zb ?_;refine zi rfl (fun hc1=>?_) (fun hc1=>?_)
  ·(try simp only [zf] at hc1);have hfr : e.2.fr = frame:=(by simpa using hc1)
   refine ze zc [] rfl ?_;refine za rfl ?_;refine zp rfl rfl rfl rfl rfl zhl rfl ?_;refine za rfl ?_;refine zb ?_;refine yr ?_;exact ⟨trivial,_,rfl,Cv.eq (by obtain ⟨j,hj⟩:=List.mem_iff_getElem?.1 (hR1 e (v4 he));unfold foundF Mg.of;rw [zbn hj (by simpa using hfr) (fun j' e' h1 h2=>tn hu h1 hj ((by simpa using h2 : e'.2.fr = frame).trans hfr.symm))];simp only [getM hj];rfl) hfp⟩
  ·(try simp only [zf] at hc1);have hfr : ¬ e.2.fr = frame:=(by simpa using hc1)
   refine zt ?_;refine ⟨R.eraseIdx i2,some (Value.int .i64 e.1,frT e.2),by (try dsimp only);omega,?_,(by refine ⟨[some 0,some 1],rfl,yb,ya,?_,?_⟩ <;> (repeat' first | exact trivial | exact yc | exact yd | exact z9 rfl | refine zn ?_ ?_ | refine zk rfl ?_ ?_ | refine zj ?_ ?_ | refine ye rfl ?_ | fail) <;> first | exact yv | (fail))⟩
   exact ⟨fun x hx=>hR1 x (List.mem_of_mem_eraseIdx hx),fun x hx hi=>qz he (hR2 x hx hi) (by rintro rfl;exact hfr hi),hpi1⟩
theorem of_t (m : Mg) (frame : Int) (l : List Rq) (hu : (m.F.map (fun e=>e.2.fr)).Nodup) :
  CallT Tryd.prog 128 [.ptr 0 0,I64 frame] (tnH m (mF m) (mW m) l) (fun t H'=>t = foundF m frame∧H' = tnH m (mF m) (mW m) l):=
 (of_p m (askZ l) frame (tr l) hu).look (by unfold foundF;split <;> rfl) (CvL.cons (u7 m l) (CvL.cons (Cv.pure rfl) CvL.nil))
theorem ql (m : Mg) (f : FuncId) (cs : List T) (is : Wt→Bool) (l : List Rq) (hcs : T.pureL cs = true) (hu : ∀ (i j : Nat) (x y : Int × Wt),m.W[i]? = some x→m.W[j]? = some y→is x.2 = true→is y.2 = true→i = j)
  (hcl : ∀ k,CallP Tryd.prog f ([] ++ [wtT k] ++ cs) (BL (is k))) :
  CallT Tryd.prog 81 [.ptr 0 0,.clo f [] cs] (tnH m (mF m) (mW m) l) (fun t H'=>t = foundW m is∧H' = tnH m (mF m) (mW m) l):=
 (zfd m (askZ l) f cs is (tr l) hcs hu hcl).look (by unfold foundW;split <;> rfl) (CvL.cons (u7 m l) (CvL.cons (Cv.pure (by simp only [T.pure,hcs];rfl)) CvL.nil))
theorem zjl (m : Mg) (p q : OP) (f : Fr) (l : List Rq) (hl : l.length≤100) (hc : 0≤m.cnt∧m.cnt≤2000000) (hb : 1048576≤m.base∧m.base≤8388608) (hp : p.pi = true) (hq : q.pi = true) :
  CallT Tryd.prog 124 [.ptr 0 0,frT f] (tnH m p q l) (fun t H'=>t = .tup []∧H' = tnH1 (m.up 1) p q (l ++ [m.draw f])):=by
 have ht : CallT Tryd.prog 55 [.ptr 0 0,strT f.title,I64 36,.islc [I64 f.fr,I64 (m.base + 1),I64 1,I64 7,I64 1] 5 (some 5)] (tnH m p q l) (fun t H'=>t = .tup []∧H' = tnH1 (m.up 1) p q (l ++ [m.draw f])):=zja m p q f.title 36 f.fr [m.base + 1,1,7,1] (some 5) l (by simp) hl hc hp hq
 refine CallT.intro zc Tryd.func124 rfl (by kernel_rfl) (Nat.le_of_ble_eq_true rfl) ?_;refine ze zc [3] rfl ?_;refine yx rfl rfl ?_;refine zb ?_;refine wc zc [15] [_,_,_,_,_,_,_,_,_,_,_,_] rfl yj yj ?_;iterate 10 refine za rfl ?_
 refine z6 rfl rfl rfl (zka m hb) ?_;refine yx rfl rfl ?_;refine zb ?_;refine zq rfl rfl (CallT.frame (ht) [0,1,2,3] rfl z3 z3 ?_)
 rintro _ _ ⟨rfl,rfl⟩;refine frK zy zy ?_;refine zb ?_;exact ⟨trivial,_,rfl,rfl,rfl⟩
end

section
open Go.RowKit
set_option maxRecDepth 10000
set_option maxHeartbeats 1000000
abbrev tnH2 (m : Mg) (p q : OP) (l : List Rq) : Hp:=[.c (tnC m (askT 5 l)),.o p,.o q,.d,.d,.c (encL cRn l)]
def ranH (m : Mg) (rs l : List Rq) : Hp:=match rs with | []=>tnH m (mF m) (mW m) l | [r]=>tnH1 m (mF m) (mW m) (l ++ [r]) | r :: r2 :: rs=>tnH2 m (mF m) (mW m) (l ++ r :: r2 :: rs)
theorem keyNew {α : Type} {l : List (Int × α)} {id : Int} (h : id∉l.map Prod.fst) : Value.int .i64 id∉kF l:=fun k=>by
 obtain ⟨e,h1,h2⟩:=List.mem_map.1 k
 injection h2 with _ h2
 exact h (List.mem_map.2 ⟨e,h1,h2⟩)
theorem keyAt {α : Type} {l : List (Int × α)} {i : Nat} {id : Int} {v : α} (h : l[i]? = some (id,v)) : (kF l)[i]? = some (.int .i64 id):=by rw [List.getElem?_map,h];rfl
theorem addF (l : List (Int × Fr)) (id : Int) (v : Fr) : mapP (kF l ++ [.int .i64 id]) (tF l ++ [frT v]) = mapP (kF (l ++ [(id,v)])) (tF (l ++ [(id,v)])):=by rw [kF,kF,tF,tF,List.map_append,List.map_append];rfl
theorem addW (l : List (Int × Wt)) (id : Int) (v : Wt) : mapP (kF l ++ [.int .i64 id]) (tW l ++ [wtT v]) = mapP (kF (l ++ [(id,v)])) (tW (l ++ [(id,v)])):=by rw [kF,kF,tW,tW,List.map_append,List.map_append];rfl
theorem zji {α : Type} {l : List (Int × α)} {i : Nat} {id : Int} {v v' : α} (h : l[i]? = some (id,v)) : kF (l.set i (id,v')) = kF l:=uu h rfl
theorem setF {l : List (Int × Fr)} {i : Nat} {id : Int} {v v' : Fr} (h : l[i]? = some (id,v)) : mapP (kF l) ((tF l).set i (frT v')) = mapP (kF (l.set i (id,v'))) (tF (l.set i (id,v'))):=by rw [zji h,tF,tF,List.map_set]
theorem setW {l : List (Int × Wt)} {i : Nat} {id : Int} {v v' : Wt} (h : l[i]? = some (id,v)) : mapP (kF l) ((tW l).set i (wtT v')) = mapP (kF (l.set i (id,v'))) (tW (l.set i (id,v'))):=by rw [zji h,tW,tW,List.map_set]
theorem delF (l : List (Int × Fr)) (i : Nat) : mapP ((kF l).eraseIdx i) ((tF l).eraseIdx i) = mapP (kF (l.eraseIdx i)) (tF (l.eraseIdx i)):=by rw [kF,kF,tF,tF,xp,xp]
theorem delW (l : List (Int × Wt)) (i : Nat) : mapP ((kF l).eraseIdx i) ((tW l).eraseIdx i) = mapP (kF (l.eraseIdx i)) (tW (l.eraseIdx i)):=by rw [kF,kF,tW,tW,xp,xp]
theorem yg {v : Vw} {m : Mg} {a a' : T} (h1 : Cv v (.om 1) (.om 1)) (h2 : Cv v (.om 2) (.om 2)) (h3 : Cv v a a') : CvL v (tnC m a) (tnC m a'):=
 CvL.cons (Cv.pure rfl) (CvL.cons (Cv.pure rfl) (CvL.cons (Cv.pure rfl) (CvL.cons (Cv.pure rfl) (CvL.cons (Cv.pure rfl) (CvL.cons h1 (CvL.cons h2 (CvL.cons (Cv.pure rfl) (CvL.cons (Cv.pure rfl) (CvL.cons (Cv.pure rfl) (CvL.cons (Cv.pure rfl) (CvL.cons h3 CvL.nil)))))))))))
theorem up2 (m : Mg) : (m.up 1).up 1 = m.up 2:=by
 have : m.cnt + 1 + 1 = m.cnt + 2:=by omega
 simp only [Mg.up,this]
theorem zig (m : Mg) (n : List Int) (top : Int) (ok : m.Ok top) (htop : top≤1000000) (hn : 2≤n.length) :
  CallT Tryd.prog 89 [.ptr 0 0,cIf n] (tnH m (mF m) (mW m) []) (fun t H'=>t = .tup []∧H' = ranH (m.mapReq n[1]!).1 (m.mapReq n[1]!).2 []):=by
 have hc:=ok.cnt
 have hpF:=piF m.F
 have hpW:=piW m.W
 cases h1 : posK m.F n[1]! with
 | some i=>
  obtain ⟨v,he⟩:=vn h1
  have hr : m.mapReq n[1]! = (m.up 2,[rq 3 [n[1]!],rq 3 [v.fr]]):=by unfold Mg.mapReq;rw [h1];simp only [getM he]
  have hlk:=lookF ok.fk n[1]! true
  rw [xb h1 he] at hlk
  rw [hr]
  have ha:=qc m (mF m) (mW m) 3 n[1]! [] (by simp) (by omega) hpF hpW
  have hb:=qc (m.up 1) (mF m) (mW m) 3 v.fr [rq 3 [n[1]!]] (by simp) (by show 0≤m.cnt + 1∧m.cnt + 1≤2000000;omega) hpF hpW
  rw [up2] at hb
  refine CallT.intro zc Tryd.func89 rfl (by kernel_rfl) (Nat.le_of_ble_eq_true rfl) ?_;refine ze zc [] rfl ?_;refine za rfl ?_;refine zr rfl rfl rfl rfl rfl y9 zu ?_;refine zm rfl rfl yn ?_;refine za rfl ?_;refine zb ?_;refine zo ?_;refine ze zc [] rfl ?_;iterate 6 refine za rfl ?_
  refine yy zc rfl rfl rfl hlk ?_;iterate 3 refine za rfl ?_
  refine yk rfl rfl ?_;refine zp rfl rfl rfl rfl rfl xf rfl ?_;refine za rfl ?_;refine zb ?_;refine z7 ([(0,.ptr 0 0),(5,.iptr (frC v) 0)]) (tnH m (mF m) (mW m) []) [4,6] rfl (by refine ⟨[some 0,some 1,some 2,some 3],rfl,yb,ya,?_,?_⟩ <;> (repeat' first | exact trivial | exact yc | exact yd | exact z9 rfl | refine zn ?_ ?_ | refine zk rfl ?_ ?_ | refine zj ?_ ?_ | refine ye rfl ?_ | fail) <;> first | exact yv | (first | exact yg (Cv.om rfl) (Cv.om rfl) (Cv.slc rfl (.inr rfl)) | exact yg (Cv.om rfl) (Cv.om rfl) (Cv.slc rfl (.inl rfl)) | exact CvL.pure (zg _ _) | exact Cv.ptr rfl | exact Cv.fptr ⟨rfl,(by simp)⟩ (CvL.pure rfl))) ?_
  refine ze zc [] rfl ?_;refine za rfl ?_;refine zb ?_;refine xv rfl ?_;refine ze zc [26] rfl ?_;iterate 2 refine za rfl ?_
  refine yx rfl rfl ?_;refine zq rfl rfl (CallT.frame (ha) [0,1,2,3] rfl z3 z3 ?_)
  rintro _ _ ⟨rfl,rfl⟩;refine frK zy zy ?_;refine zb ?_;refine ze zc [31] rfl ?_;iterate 3 refine za rfl ?_
  refine yx rfl rfl ?_;refine zq rfl rfl (CallT.frame (hb) [0,1,2,4] rfl z3 z3 ?_)
  rintro _ _ ⟨rfl,rfl⟩;refine frK zy zy ?_;refine zb ?_;refine z7 ([]) (tnH2 (m.up 2) (mF m) (mW m) [rq 3 [n[1]!],rq 3 [v.fr]]) [] rfl (by refine ⟨[some 0,some 1,some 2,some 3,some 4,some 5],rfl,yb,ya,?_,?_⟩ <;> (repeat' first | exact trivial | exact yc | exact yd | exact z9 rfl | refine zn ?_ ?_ | refine zk rfl ?_ ?_ | refine zj ?_ ?_ | refine ye rfl ?_ | fail) <;> first | exact yv | (first | exact yg (Cv.om rfl) (Cv.om rfl) (Cv.slc rfl (.inr rfl)) | exact yg (Cv.om rfl) (Cv.om rfl) (Cv.slc rfl (.inl rfl)) | exact CvL.pure (zg _ _) | exact Cv.ptr rfl | exact Cv.fptr ⟨rfl,(by simp)⟩ (CvL.pure rfl))) ?_
  refine yr ?_;exact ⟨trivial,_,rfl,rfl,rfl⟩
 | none=>
  have hnF:=uy h1
  have hlk:=lookF ok.fk n[1]! true
  rw [s0 h1] at hlk
  cases h2 : posK m.W n[1]! with
  | some i=>
   obtain ⟨v,he⟩:=vn h2
   have hr : m.mapReq n[1]! = (m,[]):=by unfold Mg.mapReq;rw [h1,h2]
   have hlw:=rv ok.wk he true
   rw [hr]
   refine CallT.intro zc Tryd.func89 rfl (by kernel_rfl) (Nat.le_of_ble_eq_true rfl) ?_;refine ze zc [] rfl ?_;refine za rfl ?_;refine zr rfl rfl rfl rfl rfl y9 zu ?_;refine zm rfl rfl yn ?_;refine za rfl ?_;refine zb ?_;refine zo ?_;refine ze zc [] rfl ?_;iterate 6 refine za rfl ?_
   refine yy zc rfl rfl rfl hlk ?_;iterate 3 refine za rfl ?_
   refine yk rfl rfl ?_;refine zp rfl rfl rfl rfl rfl xf rfl ?_;refine za rfl ?_;refine zb ?_;refine ze zc [] rfl ?_;refine za rfl ?_;refine zb ?_;refine yq rfl ?_;refine zt ?_;refine zo ?_;refine ze zc [] rfl ?_;iterate 6 refine za rfl ?_
   refine yy zc rfl rfl rfl hlw ?_;iterate 3 refine za rfl ?_
   refine yk rfl rfl ?_;refine zp rfl rfl rfl rfl rfl xf rfl ?_;refine za rfl ?_;refine zb ?_;refine z7 ([(0,.ptr 0 0)]) (tnH m (mF m) (mW m) []) [4,8] rfl (by refine ⟨[some 0,some 1,some 2,some 3],rfl,yb,ya,?_,?_⟩ <;> (repeat' first | exact trivial | exact yc | exact yd | exact z9 rfl | refine zn ?_ ?_ | refine zk rfl ?_ ?_ | refine zj ?_ ?_ | refine ye rfl ?_ | fail) <;> first | exact yv | (first | exact yg (Cv.om rfl) (Cv.om rfl) (Cv.slc rfl (.inr rfl)) | exact yg (Cv.om rfl) (Cv.om rfl) (Cv.slc rfl (.inl rfl)) | exact CvL.pure (zg _ _) | exact Cv.ptr rfl | exact Cv.fptr ⟨rfl,(by simp)⟩ (CvL.pure rfl))) ?_
   refine ze zc [] rfl ?_;refine za rfl ?_;refine zb ?_;refine xv rfl ?_;refine yr ?_;exact ⟨trivial,_,rfl,rfl,rfl⟩
  | none=>
   have hnW:=uy h2
   have hr : m.mapReq n[1]! = ({ m with cnt:=m.cnt + 2,W:=m.W ++ [(n[1]!,⟨m.cnt + 1,false,0,0⟩)] },[rq 9 [n[1]!],rq 15 [n[1]!,8,0,0,64,0]]):=by unfold Mg.mapReq;rw [h1,h2]
   have hlw:=zd6 h2 true
   rw [hr]
   have ha:=qc m (mF m) (mW m) 9 n[1]! [] (by simp) (by omega) hpF hpW
   have hb:=ask6_t (m.up 1) (mF m) (mW m) 15 n[1]! 8 0 0 64 0 [rq 9 [n[1]!]] (by simp) (by show 0≤m.cnt + 1∧m.cnt + 1≤2000000;omega) hpF hpW
   rw [up2] at hb
   have hfin : mapP (kF m.W ++ [.int .i64 n[1]!]) (tW m.W ++ [T.agg [I64 (m.cnt + 1),I64 (m.cnt + 2),BL false,I64 0,I64 0]]) = mapP (kF (m.W ++ [(n[1]!,⟨m.cnt + 1,false,0,0⟩)])) (tW (m.W ++ [(n[1]!,⟨m.cnt + 1,false,0,0⟩)])):=by rw [show m.cnt + 2 = m.cnt + 1 + 1 from by omega];exact addW m.W n[1]! ⟨m.cnt + 1,false,0,0⟩
   refine CallT.intro zc Tryd.func89 rfl (by kernel_rfl) (Nat.le_of_ble_eq_true rfl) ?_;refine ze zc [] rfl ?_;refine za rfl ?_;refine zr rfl rfl rfl rfl rfl y9 zu ?_;refine zm rfl rfl yn ?_;refine za rfl ?_;refine zb ?_;refine zo ?_;refine ze zc [] rfl ?_;iterate 6 refine za rfl ?_
   refine yy zc rfl rfl rfl hlk ?_;iterate 3 refine za rfl ?_
   refine yk rfl rfl ?_;refine zp rfl rfl rfl rfl rfl xf rfl ?_;refine za rfl ?_;refine zb ?_;refine ze zc [] rfl ?_;refine za rfl ?_;refine zb ?_;refine yq rfl ?_;refine zt ?_;refine zo ?_;refine ze zc [] rfl ?_;iterate 6 refine za rfl ?_
   refine yy zc rfl rfl rfl hlw ?_;iterate 3 refine za rfl ?_
   refine yk rfl rfl ?_;refine zp rfl rfl rfl rfl rfl xf rfl ?_;refine za rfl ?_;refine zb ?_;refine z7 ([(0,.ptr 0 0)]) (tnH m (mF m) (mW m) []) [4,8] rfl (by refine ⟨[some 0,some 1,some 2,some 3],rfl,yb,ya,?_,?_⟩ <;> (repeat' first | exact trivial | exact yc | exact yd | exact z9 rfl | refine zn ?_ ?_ | refine zk rfl ?_ ?_ | refine zj ?_ ?_ | refine ye rfl ?_ | fail) <;> first | exact yv | (first | exact yg (Cv.om rfl) (Cv.om rfl) (Cv.slc rfl (.inr rfl)) | exact yg (Cv.om rfl) (Cv.om rfl) (Cv.slc rfl (.inl rfl)) | exact CvL.pure (zg _ _) | exact Cv.ptr rfl | exact Cv.fptr ⟨rfl,(by simp)⟩ (CvL.pure rfl))) ?_
   refine ze zc [] rfl ?_;refine za rfl ?_;refine zb ?_;refine yq rfl ?_;refine zt ?_;refine ze zc [46] rfl ?_;iterate 2 refine za rfl ?_
   refine yx rfl rfl ?_;refine zq rfl rfl (CallT.frame (ha) [0,1,2,3] rfl z3 z3 ?_)
   rintro _ _ ⟨rfl,rfl⟩;refine frK zy zy ?_;refine zb ?_;refine ze zc [] rfl ?_;iterate 7 refine za rfl ?_
   refine zb ?_;refine ze zc [56] rfl ?_;iterate 2 refine za rfl ?_
   refine yx rfl rfl ?_;refine zq rfl rfl (CallT.frame (hb) [0,1,2,4] rfl z3 z3 ?_)
   rintro _ _ ⟨rfl,rfl⟩;refine frK zy zy ?_;refine zb ?_;refine z7 ([(0,.ptr 0 0)]) (tnH2 (m.up 2) (mF m) (mW m) [rq 9 [n[1]!],rq 15 [n[1]!,8,0,0,64,0]]) [4,9] rfl (by refine ⟨[some 0,some 1,some 2,some 3,some 4,some 5],rfl,yb,ya,?_,?_⟩ <;> (repeat' first | exact trivial | exact yc | exact yd | exact z9 rfl | refine zn ?_ ?_ | refine zk rfl ?_ ?_ | refine zj ?_ ?_ | refine ye rfl ?_ | fail) <;> first | exact yv | (first | exact yg (Cv.om rfl) (Cv.om rfl) (Cv.slc rfl (.inr rfl)) | exact yg (Cv.om rfl) (Cv.om rfl) (Cv.slc rfl (.inl rfl)) | exact CvL.pure (zg _ _) | exact Cv.ptr rfl | exact Cv.fptr ⟨rfl,(by simp)⟩ (CvL.pure rfl))) ?_
   refine wc zc [] [_,_,_,_,_,_,_,_,_,_,_,_,_,_] rfl yj yj ?_;iterate 14 refine za rfl ?_
   refine zb ?_;refine u1 zc rfl rfl rfl rfl rfl rfl rfl rfl (by exact likeF _ _) (keyNew hnW) ?_;refine zb ?_;refine ⟨trivial,_,rfl,rfl,?_⟩;exact congrArg (fun p=>([.c (tnC (m.up 2) (askT 5 [rq 9 [n[1]!],rq 15 [n[1]!,8,0,0,64,0]])),.o (mF m),.o p,.d,.d,.c (encL cRn [rq 9 [n[1]!],rq 15 [n[1]!,8,0,0,64,0]])] : Hp)) hfin
end

section
open Go.RowKit
set_option maxRecDepth 10000
set_option maxHeartbeats 1000000
abbrev otC (o : Ot) : List T:=[I64 o.kind,I64 o.code,I64 o.seq,cIf o.n,strT o.b,cIf o.l]
abbrev otT (o : Ot) : T:=.agg (otC o)
theorem x8 (o : Ot) : T.pureL (otC o) = true:=by simp only [T.pureL,T.pure,zg];rfl
def isR (seq : Int) (k : Wt) : Bool:=k.g == seq || k.g + 1 == seq
theorem clo_r (seq : Int) (k : Wt) : CallP Tryd.prog 82 ([] ++ [wtT k] ++ [.iptr [I64 seq] 0]) (BL (isR seq k)):=by
 show CallP Tryd.prog 82 [wtT k,.iptr [I64 seq] 0] (BL (isR seq k))
 unfold isR
 refine CallP.intro2 yw yw ?_;refine CallT.intro zc Tryd.func82 rfl (by kernel_rfl) (Nat.le_of_ble_eq_true rfl) ?_;refine ze zc [2] rfl ?_;refine yx rfl rfl ?_;refine za rfl ?_;refine zb ?_;refine ze zc [] rfl ?_;iterate 5 refine za rfl ?_
 refine' zx (d:=13) [_,_,_,_,_] rfl ?_ rfl ?_
 rotate_left
 ·refine zw rfl rfl (fun hb1_4=>?_) (fun hb1_4=>?_)
  ·have ghb1_4:=hb1_4
   try simp only [zf,Bool.not_true,Bool.not_false] at ghb1_4
   refine za rfl ?_;refine zd rfl rfl hb1_4 ?_;refine za rfl ?_;refine zd rfl rfl hb1_4 ?_;refine za rfl ?_;refine zd rfl rfl hb1_4 ?_;refine za rfl ?_;refine yz rfl (fun _=>rfl) ?_;exact zb ⟨rfl,rfl⟩
  ·refine zl rfl rfl hb1_4 ?_;iterate 2 refine zl rfl rfl hb1_4 ?_
   exact yz rfl (fun h=>absurd (h.symm.trans hb1_4) (by decide)) (zb ⟨rfl,rfl⟩)
 refine za rfl ?_;refine zb ?_;refine yr ?_;exact ⟨trivial,_,rfl,Cv.eq (by first | rfl | (simp [*];done)) rfl⟩
theorem clo_a (o : Ot) (k : Wt) : CallP Tryd.prog 85 ([] ++ [wtT k] ++ [.iptr (otC o) 0]) (BL (k.g == o.seq)):=by
 show CallP Tryd.prog 85 [wtT k,.iptr (otC o) 0] (BL (k.g == o.seq))
 have ho:=x8 o
 refine CallP.intro2 yw yw ?_;refine CallT.intro zc Tryd.func85 rfl (by kernel_rfl) (Nat.le_of_ble_eq_true rfl) ?_;refine ze zc [2] rfl ?_;refine yx rfl rfl ?_;refine za rfl ?_;refine zb ?_;refine ze zc [] rfl ?_;iterate 6 refine za rfl ?_
 refine zb ?_;refine yr ?_;exact ⟨trivial,_,rfl,Cv.eq (by first | rfl | (simp [*];done)) rfl⟩
theorem clo_b (o : Ot) (k : Wt) : CallP Tryd.prog 86 ([] ++ [wtT k] ++ [.iptr (otC o) 0]) (BL (k.g + 1 == o.seq)):=by
 show CallP Tryd.prog 86 [wtT k,.iptr (otC o) 0] (BL (k.g + 1 == o.seq))
 have ho:=x8 o
 refine CallP.intro2 yw yw ?_;refine CallT.intro zc Tryd.func86 rfl (by kernel_rfl) (Nat.le_of_ble_eq_true rfl) ?_;refine ze zc [2] rfl ?_;refine yx rfl rfl ?_;refine za rfl ?_;refine zb ?_;refine ze zc [] rfl ?_;iterate 6 refine za rfl ?_
 refine zb ?_;refine yr ?_;exact ⟨trivial,_,rfl,Cv.eq (by first | rfl | (simp [*];done)) rfl⟩
theorem zf0 (m : Mg) (seq top : Int) (ok : m.Ok top) :
  CallT Tryd.prog 60 [.ptr 0 0,I64 seq] (tnH m (mF m) (mW m) []) (fun t H'=>t = .tup []∧H' = tnH (m.refused seq) (mF (m.refused seq)) (mW (m.refused seq)) []):=by
 have hpF:=piF m.F
 have hpW:=piW m.W
 have hwt:=ql m 82 [.iptr [I64 seq] 0] (isR seq) [] rfl (fun i j x y hx hy h1 h2=>ok.one seq hx hy (by unfold isR at h1;simp at h1;omega) (by unfold isR at h2;simp at h2;omega)) (clo_r seq)
 cases h1 : posB m.W (isR seq) with
 | none=>
  have hr : m.refused seq = m:=by unfold Mg.refused;rw [show posB m.W (fun k=>k.g == seq || k.g + 1 == seq) = none from h1]
  have hfw : foundW m (isR seq) = .tup [I64 0,BL false]:=by unfold foundW;rw [h1]
  rw [hfw] at hwt
  rw [hr]
  refine CallT.intro zc Tryd.func60 rfl (by kernel_rfl) (Nat.le_of_ble_eq_true rfl) ?_;refine ze zc [3] rfl ?_;refine yx rfl rfl ?_;refine zb ?_;refine ze zc [] rfl ?_;iterate 2 refine za rfl ?_
  refine zq rfl rfl (CallT.frame (hwt) [0,1,2,3] rfl z3 z3 ?_)
  rintro _ _ ⟨rfl,rfl⟩;refine frK zy zy ?_;iterate 5 refine za rfl ?_
  refine zb ?_;refine ze zc [] rfl ?_;refine za rfl ?_;refine zb ?_;refine yq rfl ?_;refine zt ?_;exact ⟨trivial,_,rfl,rfl,rfl⟩
 | some i=>
  obtain ⟨⟨id,v⟩,he,-⟩:=w5 h1
  have hr : m.refused seq = { m with W:=m.W.eraseIdx i }:=by unfold Mg.refused;rw [show posB m.W (fun k=>k.g == seq || k.g + 1 == seq) = some i from h1]
  have hfw : foundW m (isR seq) = .tup [I64 id,BL true]:=by unfold foundW;rw [h1];simp only [getM he]
  rw [hfw] at hwt
  rw [hr]
  refine CallT.intro zc Tryd.func60 rfl (by kernel_rfl) (Nat.le_of_ble_eq_true rfl) ?_;refine ze zc [3] rfl ?_;refine yx rfl rfl ?_;refine zb ?_;refine ze zc [] rfl ?_;iterate 2 refine za rfl ?_
  refine zq rfl rfl (CallT.frame (hwt) [0,1,2,3] rfl z3 z3 ?_)
  rintro _ _ ⟨rfl,rfl⟩;refine frK zy zy ?_;iterate 5 refine za rfl ?_
  refine zb ?_;refine ze zc [] rfl ?_;refine za rfl ?_;refine zb ?_;refine xv rfl ?_;refine z4 zc [] rfl ?_;iterate 6 refine za rfl ?_
  refine u3 zc rfl rfl rfl rfl rfl rfl rfl (by exact likeF _ _) (keyAt he) ?_;refine zb ?_;refine ⟨trivial,_,rfl,rfl,?_⟩;exact congrArg (fun p=>([.c (tnC m (askT 3 [])),.o (mF m),.o p,.c (encL cRn [])] : Hp)) (delW m.W i)
theorem zj1 (m : Mg) (o : Ot) (top : Int) (ok : m.Ok top) (hc9 : o.code = 9) (hn : 5≤o.n.length) :
  CallT Tryd.prog 62 [.ptr 0 0,otT o] (tnH m (mF m) (mW m) []) (fun t H'=>t = .tup []∧H' = tnH (m.sized o.seq o.n[3]! o.n[4]!) (mF (m.sized o.seq o.n[3]! o.n[4]!)) (mW (m.sized o.seq o.n[3]! o.n[4]!)) []):=by
 have hpF:=piF m.F
 have hpW:=piW m.W
 have hpo:=x8 o
 have hwt:=ql m 85 [.iptr (otC o) 0] (fun k=>k.g == o.seq) [] (by simp only [T.pureL,T.pure,zg];rfl) (fun i j x y hx hy h1 h2=>ok.one o.seq hx hy (by simp at h1;omega) (by simp at h2;omega)) (clo_a o)
 cases h1 : posB m.W (fun k=>k.g == o.seq) with
 | none=>
  have hr : m.sized o.seq o.n[3]! o.n[4]! = m:=by unfold Mg.sized;rw [h1]
  have hfw : foundW m (fun k=>k.g == o.seq) = .tup [I64 0,BL false]:=by unfold foundW;rw [h1]
  rw [hfw] at hwt
  rw [hr]
  refine CallT.intro zc Tryd.func62 rfl (by kernel_rfl) (Nat.le_of_ble_eq_true rfl) ?_;refine ze zc [3] rfl ?_;refine yx rfl rfl ?_;refine zb ?_;refine ze zc [] rfl ?_;iterate 2 refine za rfl ?_
  refine zb ?_;refine yf ?_;refine ze zc [] rfl ?_;iterate 2 refine za rfl ?_
  refine zb ?_;refine zi rfl (fun hc0=>?_) (fun hc0=>?_)
  ·(try simp only [zf] at hc0)
   refine ze zc [] rfl ?_;iterate 2 refine za rfl ?_
   refine zq rfl rfl (CallT.frame (hwt) [0,1,2,3] rfl z3 z3 ?_)
   rintro _ _ ⟨rfl,rfl⟩;refine frK zy zy ?_;iterate 5 refine za rfl ?_
   refine zb ?_;refine ze zc [] rfl ?_;refine za rfl ?_;refine zb ?_;refine yq rfl ?_;refine zt ?_;exact ⟨trivial,_,rfl,rfl,rfl⟩
  ·exact absurd hc0 (by simp [hc9])
 | some i=>
  obtain ⟨⟨id,v⟩,he,-⟩:=w5 h1
  have hr : m.sized o.seq o.n[3]! o.n[4]! = { m with W:=m.W.set i (id,⟨v.g,o.n[3]! != 0,o.n[3]!,o.n[4]!⟩) }:=by unfold Mg.sized;rw [h1];simp only [getM he]
  have hfw : foundW m (fun k=>k.g == o.seq) = .tup [I64 id,BL true]:=by unfold foundW;rw [h1];simp only [getM he]
  have hlw:=rv ok.wk he false
  rw [hfw] at hwt
  rw [hr]
  refine CallT.intro zc Tryd.func62 rfl (by kernel_rfl) (Nat.le_of_ble_eq_true rfl) ?_;refine ze zc [3] rfl ?_;refine yx rfl rfl ?_;refine zb ?_;refine ze zc [] rfl ?_;iterate 2 refine za rfl ?_
  refine zb ?_;refine yf ?_;refine ze zc [] rfl ?_;iterate 2 refine za rfl ?_
  refine zb ?_;refine zi rfl (fun hc0=>?_) (fun hc0=>?_)
  ·(try simp only [zf] at hc0)
   refine ze zc [] rfl ?_;iterate 2 refine za rfl ?_
   refine zq rfl rfl (CallT.frame (hwt) [0,1,2,3] rfl z3 z3 ?_)
   rintro _ _ ⟨rfl,rfl⟩;refine frK zy zy ?_;iterate 5 refine za rfl ?_
   refine zb ?_;refine ze zc [] rfl ?_;refine za rfl ?_;refine zb ?_;refine xv rfl ?_;refine ze zc [] rfl ?_;iterate 6 refine za rfl ?_
   refine yy zc rfl rfl rfl hlw ?_;refine yk rfl rfl ?_;refine zp rfl rfl rfl rfl rfl xf rfl ?_;refine zb ?_;refine vu zc [] [_,_,_,_,_,_,_,_,_,_] (_) rfl yj yj yj (x0 (b:=4) (xz _) (Nat.le_of_ble_eq_true rfl)) ?_;refine uq (l1:=[_,_,_,_,_,_,_,_,_]) rfl ?_;iterate 2 refine za rfl ?_
   refine zr rfl rfl rfl rfl rfl y9 zu ?_;refine zm rfl rfl yn ?_;iterate 2 refine za rfl ?_
   refine zr rfl rfl rfl rfl rfl y9 zu ?_;refine zm rfl rfl yn ?_;refine za rfl ?_;refine zb ?_;refine uo rfl rfl rfl rfl ?_;refine ur (⟨rfl,Nat.le_of_ble_eq_true rfl,rfl,trivial⟩) ?_;refine za rfl ?_;refine zp rfl rfl rfl rfl rfl xf rfl ?_;refine zb ?_;refine z7 ([(0,.ptr 0 0),(6,.ptr 4 0)]) ([.c (tnC m (askT 3 [])),.o (mF m),.o (mW m),.c (encL cRn []),.c [I64 v.g,I64 (v.g + 1),BL v.known,I64 o.n[3]!,I64 o.n[4]!]]) [4] rfl (by refine ⟨[some 0,some 1,some 2,some 3,some 4],rfl,yb,ya,?_,?_⟩ <;> (repeat' first | exact trivial | exact yc | exact yd | exact z9 rfl | refine zn ?_ ?_ | refine zk rfl ?_ ?_ | refine zj ?_ ?_ | refine ye rfl ?_ | fail) <;> first | exact yv | (first | exact CvL.pure rfl | first | exact yg (Cv.om rfl) (Cv.om rfl) (Cv.slc rfl (.inr rfl)) | exact yg (Cv.om rfl) (Cv.om rfl) (Cv.slc rfl (.inl rfl)) | exact CvL.pure (zg _ _) | exact Cv.ptr rfl | exact Cv.fptr ⟨rfl,(by simp)⟩ (CvL.pure rfl))) ?_
   refine ze zc [] rfl ?_;iterate 4 refine za rfl ?_
   refine zp rfl rfl rfl rfl rfl xf rfl ?_;refine zb ?_;refine z7 ([(0,.ptr 0 0),(6,.iptr (wtC ⟨v.g,o.n[3]! != 0,o.n[3]!,o.n[4]!⟩) 0)]) (tnH m (mF m) (mW m) []) [4] rfl (by refine ⟨[some 0,some 1,some 2,some 3],rfl,yb,ya,?_,?_⟩ <;> (repeat' first | exact trivial | exact yc | exact yd | exact z9 rfl | refine zn ?_ ?_ | refine zk rfl ?_ ?_ | refine zj ?_ ?_ | refine ye rfl ?_ | fail) <;> first | exact yv | (first | exact yg (Cv.om rfl) (Cv.om rfl) (Cv.slc rfl (.inr rfl)) | exact yg (Cv.om rfl) (Cv.om rfl) (Cv.slc rfl (.inl rfl)) | exact CvL.pure (zg _ _) | exact Cv.ptr rfl | exact Cv.fptr ⟨rfl,(by simp)⟩ (CvL.pure rfl))) ?_
   refine wc zc [] [_,_,_,_,_,_,_] rfl yj yj ?_;iterate 7 refine za rfl ?_
   refine zb ?_;refine x9 zc rfl rfl rfl rfl rfl rfl rfl rfl (by exact likeF _ _) (keyAt he) ?_;refine zb ?_;refine ⟨trivial,_,rfl,rfl,?_⟩;exact congrArg (fun p=>([.c (tnC m (askT 3 [])),.o (mF m),.o p,.c (encL cRn [])] : Hp)) (setW he)
  ·exact absurd hc0 (by simp [hc9])
end

section
open Go.RowKit
set_option maxRecDepth 10000
set_option maxHeartbeats 2000000
theorem we (m : Mg) (a b c : Int) (h : a + b = c) : (m.up a).up b = m.up c:=by
 subst h
 have : m.cnt + a + b = m.cnt + (a + b):=by omega
 simp only [Mg.up,this]
theorem zih (m : Mg) (id : Int) (k : Wt) (row : List Int) (top : Int) (ok : m.Ok top) (htop : top≤1000000) (hF : id∉m.F.map Prod.fst) (hw : r32 k.w) (hh : r32 k.h) (hrow : row.length≤100000) :
  CallT Tryd.prog 87 [.ptr 0 0,I64 id,wtT k,cIf row] (tnH m (mF m) (mW m) []) (fun t H'=>t = .tup []∧H' = ranH (m.manage id k row).1 (m.manage id k row).2 []):=by
 have hc:=ok.cnt
 have hb:=ok.base
 have hsd:=ok.side
 have hpF:=piF m.F
 have hpW:=piW m.W
 unfold r32 at hw hh
 cases hk : k.known with
 | false=>
  have hr : m.manage id k row = (m,[]):=by unfold Mg.manage;rw [if_pos hk]
  rw [hr]
  refine CallT.intro zc Tryd.func87 rfl (by kernel_rfl) (Nat.le_of_ble_eq_true rfl) ?_;refine ze zc [6] rfl ?_;refine yx rfl rfl ?_;refine zb ?_;refine zo ?_;refine ze zc [] rfl ?_;iterate 3 refine za rfl ?_
  refine zb ?_;refine zi rfl (fun hc0=>?_) (fun hc0=>?_)
  ·(try simp only [zf] at hc0)
   refine yr ?_;exact ⟨trivial,_,rfl,rfl,rfl⟩
  ·exact absurd hc0 (by simp [hk])
 | true=>
  by_cases hbig : 126 < k.w∨118 < k.h
  ·have hr : m.manage id k row = (m.up 1,[rq 3 [id]]):=by unfold Mg.manage;rw [if_neg (by rw [hk];simp),if_pos hbig]
   rw [hr]
   have h0:=qc m (mF m) (mW m) 3 id [] (by simp) (by omega) hpF hpW
   refine CallT.intro zc Tryd.func87 rfl (by kernel_rfl) (Nat.le_of_ble_eq_true rfl) ?_;refine ze zc [6] rfl ?_;refine yx rfl rfl ?_;refine zb ?_;refine zo ?_;refine ze zc [] rfl ?_;iterate 3 refine za rfl ?_
   refine zb ?_;refine zi rfl (fun hc0=>?_) (fun hc0=>?_)
   ·exact absurd hc0 (by simp [hk])
   ·(try simp only [zf] at hc0)
    refine zt ?_;refine zo ?_;refine ze zc [] rfl ?_;iterate 4 refine za rfl ?_
    refine' zx (d:=22) [_,_,_,_] rfl ?_ rfl ?_
    rotate_left
    ·refine zw rfl rfl (fun hb2_3=>?_) (fun hb2_3=>?_)
     ·have ghb2_3:=hb2_3
      try simp only [zf,Bool.not_true,Bool.not_false] at ghb2_3
      refine za rfl ?_;refine zd rfl rfl hb2_3 ?_;refine za rfl ?_;refine zd rfl rfl hb2_3 ?_;refine za rfl ?_;refine yz rfl (fun _=>rfl) ?_;exact zb ⟨rfl,rfl⟩
     ·refine zl rfl rfl hb2_3 ?_;refine zl rfl rfl hb2_3 ?_;exact yz rfl (fun h=>absurd (h.symm.trans hb2_3) (by decide)) (zb ⟨rfl,rfl⟩)
    refine zb ?_;refine zi rfl (fun hc1=>?_) (fun hc1=>?_)
    ·(try simp only [zf] at hc1)
     refine ze zc [25] rfl ?_;iterate 2 refine za rfl ?_
     refine yx rfl rfl ?_;refine zq rfl rfl (CallT.frame (h0) [0,1,2,3] rfl z3 z3 ?_)
     rintro _ _ ⟨rfl,rfl⟩;refine frK zy zy ?_;refine zb ?_;refine yr ?_;exact ⟨trivial,_,rfl,rfl,rfl⟩
    ·exact absurd hc1 (by simp;omega)
  ·obtain ⟨fr,hfr⟩ : ∃ fr,fr = m.base + 10 + m.made:=⟨_,rfl⟩
   obtain ⟨ttl,httl⟩ : ∃ ttl,ttl = titleL row:=⟨_,rfl⟩
   obtain ⟨W,hW⟩ : ∃ W,W = k.w + 2:=⟨_,rfl⟩
   obtain ⟨H,hH⟩ : ∃ H,H = k.h + 10:=⟨_,rfl⟩
   obtain ⟨X,hX⟩ : ∃ X,X = spotX m.made W 0 m.w:=⟨_,rfl⟩
   obtain ⟨Y,hY⟩ : ∃ Y,Y = spotY m.made H 0 m.h:=⟨_,rfl⟩
   obtain ⟨M,hM⟩ : ∃ M : Mg,M = { m with made:=m.made + 1 }:=⟨_,rfl⟩
   obtain ⟨p,hpe⟩ : ∃ p,p = mapP (kF (m.F ++ [(id,⟨fr,k.w,k.h,ttl⟩)])) (tF (m.F ++ [(id,⟨fr,k.w,k.h,ttl⟩)])):=⟨_,rfl⟩
   have hp : p.pi = true:=by rw [hpe];exact piF _
   have hMc : M.cnt = m.cnt:=by rw [hM]
   have htt:=zjq row hrow
   have hfp:=frame_p m hb (by omega)
   have hsp:=spot_p m.made W H 0 0 m.w m.h (by unfold r32;omega) (by unfold r32;omega) (by unfold r32;omega) (by unfold r32;omega) (by unfold r32;omega) (by unfold r32;omega)
   have hadd:=addF m.F id ⟨fr,k.w,k.h,ttl⟩
   rw [← hpe] at hadd
   rw [← httl] at htt
   rw [← hfr] at hfp
   rw [← hX,← hY] at hsp
   obtain ⟨R0,hR0⟩ : ∃ R,R = rq 1 [fr,1,X,Y,W,H,200,1,1]:=⟨_,rfl⟩
   have h0 : CallT Tryd.prog 54 [.ptr 0 0,I64 1,.islc [I64 fr,I64 1,I64 X,I64 Y,I64 W,I64 H,I64 200,I64 1,I64 1] 9 (some 9)] (tnH M p (mW m) []) (fun t H'=>t = .tup []∧H' = tnH1 (M.up 1) p (mW m) [R0]):=by
    have:=ask9_t M p (mW m) 1 fr 1 X Y W H 200 1 1 [] (by simp) (by show 0≤M.cnt∧M.cnt≤2000000;omega) hp hpW
    rw [← hR0] at this
    exact this
   obtain ⟨R1,hR1⟩ : ∃ R,R = rq 7 [fr,32,0,0,0,0,0,3356]:=⟨_,rfl⟩
   have h1 : CallT Tryd.prog 54 [.ptr 0 0,I64 7,.islc [I64 fr,I64 32,I64 0,I64 0,I64 0,I64 0,I64 0,I64 3356] 8 (some 8)] (tnH (M.up 1) p (mW m) [R0]) (fun t H'=>t = .tup []∧H' = tnH1 (M.up 2) p (mW m) [R0,R1]):=by
    have:=zjm (M.up 1) p (mW m) 7 fr 32 0 0 0 0 0 3356 [R0] (by simp) (by show 0≤M.cnt + 1∧M.cnt + 1≤2000000;omega) hp hpW
    rw [we M 1 1 2 (by decide),← hR1] at this
    exact this
   obtain ⟨R2,hR2⟩ : ∃ R,R = rq 54 [id,1]:=⟨_,rfl⟩
   have h2 : CallT Tryd.prog 54 [.ptr 0 0,I64 54,.islc [I64 id,I64 1] 2 (some 2)] (tnH (M.up 2) p (mW m) [R0,R1]) (fun t H'=>t = .tup []∧H' = tnH1 (M.up 3) p (mW m) [R0,R1,R2]):=by
    have:=ask2_t (M.up 2) p (mW m) 54 id 1 [R0,R1] (by simp) (by show 0≤M.cnt + 2∧M.cnt + 2≤2000000;omega) hp hpW
    rw [we M 2 1 3 (by decide),← hR2] at this
    exact this
   obtain ⟨R3,hR3⟩ : ∃ R,R = rq 6 [id,fr,1,9]:=⟨_,rfl⟩
   have h3 : CallT Tryd.prog 54 [.ptr 0 0,I64 6,.islc [I64 id,I64 fr,I64 1,I64 9] 4 (some 4)] (tnH (M.up 3) p (mW m) [R0,R1,R2]) (fun t H'=>t = .tup []∧H' = tnH1 (M.up 4) p (mW m) [R0,R1,R2,R3]):=by
    have:=ask4_t (M.up 3) p (mW m) 6 id fr 1 9 [R0,R1,R2] (by simp) (by show 0≤M.cnt + 3∧M.cnt + 3≤2000000;omega) hp hpW
    rw [we M 3 1 4 (by decide),← hR3] at this
    exact this
   obtain ⟨R4,hR4⟩ : ∃ R,R = rq 3 [id]:=⟨_,rfl⟩
   have h4 : CallT Tryd.prog 54 [.ptr 0 0,I64 3,.islc [I64 id] 1 (some 1)] (tnH (M.up 4) p (mW m) [R0,R1,R2,R3]) (fun t H'=>t = .tup []∧H' = tnH1 (M.up 5) p (mW m) [R0,R1,R2,R3,R4]):=by
    have:=qc (M.up 4) p (mW m) 3 id [R0,R1,R2,R3] (by simp) (by show 0≤M.cnt + 4∧M.cnt + 4≤2000000;omega) hp hpW
    rw [we M 4 1 5 (by decide),← hR4] at this
    exact this
   obtain ⟨R5,hR5⟩ : ∃ R,R = rq 3 [fr]:=⟨_,rfl⟩
   have h5 : CallT Tryd.prog 54 [.ptr 0 0,I64 3,.islc [I64 fr] 1 (some 1)] (tnH (M.up 5) p (mW m) [R0,R1,R2,R3,R4]) (fun t H'=>t = .tup []∧H' = tnH1 (M.up 6) p (mW m) [R0,R1,R2,R3,R4,R5]):=by
    have:=qc (M.up 5) p (mW m) 3 fr [R0,R1,R2,R3,R4] (by simp) (by show 0≤M.cnt + 5∧M.cnt + 5≤2000000;omega) hp hpW
    rw [we M 5 1 6 (by decide),← hR5] at this
    exact this
   have h6 : CallT Tryd.prog 124 [.ptr 0 0,frT ⟨fr,k.w,k.h,ttl⟩] (tnH (M.up 6) p (mW m) [R0,R1,R2,R3,R4,R5]) (fun t H'=>t = .tup []∧H' = tnH1 (M.up 7) p (mW m) [R0,R1,R2,R3,R4,R5,m.draw ⟨fr,k.w,k.h,ttl⟩]):=by
    have:=zjl (M.up 6) p (mW m) ⟨fr,k.w,k.h,ttl⟩ [R0,R1,R2,R3,R4,R5] (by simp) (by show 0≤M.cnt + 6∧M.cnt + 6≤2000000;omega) (by show 1048576≤M.base∧M.base≤8388608;rw [hM];exact hb) hp hpW
    rw [we M 6 1 7 (by decide),show (M.up 6).draw ⟨fr,k.w,k.h,ttl⟩ = m.draw ⟨fr,k.w,k.h,ttl⟩ from by rw [hM];rfl] at this
    exact this
   have hr : m.manage id k row = ({ M.up 7 with F:=m.F ++ [(id,⟨fr,k.w,k.h,ttl⟩)] },[R0,R1,R2,R3,R4,R5,m.draw ⟨fr,k.w,k.h,ttl⟩]):=by
    unfold Mg.manage
    rw [if_neg (by rw [hk];simp),if_neg hbig,hR0,hR1,hR2,hR3,hR4,hR5,hX,hY,hW,hH,hfr,httl,hM]
   have hMi : ∀ a : T,tnC M a = [.v (.int .u32 m.base),I64 m.cnt,I64 (m.made + 1),I64 m.w,I64 m.h,.om 1,.om 2,BL m.on,I64 m.df,I64 m.dx,I64 m.dy,a]:=fun a=>by rw [hM]
   have hMW : M.W = m.W:=by rw [hM]
   rw [hr]
   refine CallT.intro zc Tryd.func87 rfl (by kernel_rfl) (Nat.le_of_ble_eq_true rfl) ?_;refine ze zc [6] rfl ?_;refine yx rfl rfl ?_;refine zb ?_;refine zo ?_;refine ze zc [] rfl ?_;iterate 3 refine za rfl ?_
   refine zb ?_;refine zi rfl (fun hc0=>?_) (fun hc0=>?_)
   ·exact absurd hc0 (by simp [hk])
   ·(try simp only [zf] at hc0)
    refine zt ?_;refine zo ?_;refine ze zc [] rfl ?_;iterate 4 refine za rfl ?_
    refine' zx (d:=22) [_,_,_,_] rfl ?_ rfl ?_
    rotate_left
    ·refine zw rfl rfl (fun hb2_3=>?_) (fun hb2_3=>?_)
     ·have ghb2_3:=hb2_3
      try simp only [zf,Bool.not_true,Bool.not_false] at ghb2_3
      refine za rfl ?_;refine zd rfl rfl hb2_3 ?_;refine za rfl ?_;refine zd rfl rfl hb2_3 ?_;refine za rfl ?_;refine yz rfl (fun _=>rfl) ?_;exact zb ⟨rfl,rfl⟩
     ·refine zl rfl rfl hb2_3 ?_;refine zl rfl rfl hb2_3 ?_;exact yz rfl (fun h=>absurd (h.symm.trans hb2_3) (by decide)) (zb ⟨rfl,rfl⟩)
    refine zb ?_;refine zi rfl (fun hc1=>?_) (fun hc1=>?_)
    ·exact absurd hc1 (by simp;omega)
    ·(try simp only [zf] at hc1)
     refine zt ?_;refine yu zc [] [_,_,_,_,_,_,_,_,_,_,_,_,_,_] rfl yj yj ?_;iterate 5 refine za rfl ?_
     refine z6 rfl rfl rfl (hfp) ?_;iterate 5 refine za rfl ?_
     refine z6 rfl rfl rfl (htt) ?_;refine za rfl ?_;refine yk rfl rfl ?_;refine zb ?_;refine zp rfl rfl rfl rfl rfl xf rfl ?_;refine zb ?_;refine z7 ([(0,.ptr 0 0),(8,.iptr (frC ⟨fr,k.w,k.h,ttl⟩) 0)]) (tnH m (mF m) (mW m) []) [1,6] rfl (by refine ⟨[some 0,some 1,some 2,some 3],rfl,yb,ya,?_,?_⟩ <;> (repeat' first | exact trivial | exact yc | exact yd | exact z9 rfl | refine zn ?_ ?_ | refine zk rfl ?_ ?_ | refine zj ?_ ?_ | refine ye rfl ?_ | fail) <;> first | exact yv | (first | exact yg (Cv.om rfl) (Cv.om rfl) (Cv.slc rfl (.inr rfl)) | exact yg (Cv.om rfl) (Cv.om rfl) (Cv.slc rfl (.inl rfl)) | exact CvL.pure (zg _ _) | exact Cv.ptr rfl | exact Cv.fptr ⟨rfl,(by simp)⟩ (CvL.pure rfl))) ?_
     refine yu zc [] [_,_,_,_,_,_,_,_] rfl yj yj ?_;iterate 2 refine za rfl ?_
     refine xg rfl rfl zu ?_;rw [← hW]
     iterate 2 refine za rfl ?_
     refine xg rfl rfl zu ?_;rw [← hH]
     iterate 2 refine za rfl ?_
     iterate 2 refine zb ?_
     refine yu zc [] [_,_,_,_,_,_,_,_,_,_,_,_,_,_,_,_,_,_,_,_,_] rfl yj yj ?_;iterate 19 refine za rfl ?_
     refine z6 rfl rfl rfl (hsp) ?_;refine yk rfl rfl ?_;refine zb ?_;refine zp rfl rfl rfl rfl rfl xf rfl ?_;refine zb ?_;refine z7 ([(0,.ptr 0 0),(11,.iptr [I64 X,I64 Y] 0)]) (tnH m (mF m) (mW m) []) [1,8,9,10] rfl (by refine ⟨[some 0,some 1,some 2,some 3],rfl,yb,ya,?_,?_⟩ <;> (repeat' first | exact trivial | exact yc | exact yd | exact z9 rfl | refine zn ?_ ?_ | refine zk rfl ?_ ?_ | refine zj ?_ ?_ | refine ye rfl ?_ | fail) <;> first | exact yv | (first | exact yg (Cv.om rfl) (Cv.om rfl) (Cv.slc rfl (.inr rfl)) | exact yg (Cv.om rfl) (Cv.om rfl) (Cv.slc rfl (.inl rfl)) | exact CvL.pure (zg _ _) | exact Cv.ptr rfl | exact Cv.fptr ⟨rfl,(by simp)⟩ (CvL.pure rfl))) ?_
     refine ze zc [] rfl ?_;iterate 6 refine za rfl ?_
     refine xg rfl rfl zu ?_;iterate 4 refine za rfl ?_
     refine zp rfl rfl rfl rfl rfl xf rfl ?_;refine zb ?_;refine yu zc [] [_,_,_,_,_,_,_] rfl yj yj ?_;iterate 7 refine za rfl ?_
     refine zb ?_;refine u1 zc rfl rfl rfl rfl rfl rfl rfl (show _ = some (frT ⟨fr,k.w,k.h,ttl⟩) from rfl) (by exact likeF _ _) (keyNew hF) ?_;rw [hadd]
     refine zb ?_;refine z7 ([(0,.ptr 0 0)]) (tnH M p (mW m) []) [1,8,9,10,11] rfl (by refine ⟨[some 0,some 1,some 2,some 3],rfl,yb,ya,?_,?_⟩ <;> (repeat' first | exact trivial | exact yc | exact yd | exact z9 rfl | refine zn ?_ ?_ | refine zk rfl ?_ ?_ | refine zj ?_ ?_ | refine ye rfl ?_ | fail) <;> first | exact yv | (first | (rw [hM];exact yg (m:={ m with made:=m.made + 1 }) (Cv.om rfl) (Cv.om rfl) (Cv.slc rfl (.inl rfl))) | first | exact yg (Cv.om rfl) (Cv.om rfl) (Cv.slc rfl (.inr rfl)) | exact yg (Cv.om rfl) (Cv.om rfl) (Cv.slc rfl (.inl rfl)) | exact CvL.pure (zg _ _) | exact Cv.ptr rfl | exact Cv.fptr ⟨rfl,(by simp)⟩ (CvL.pure rfl))) ?_
     refine ze zc [93] rfl ?_;iterate 9 refine za rfl ?_
     refine yx (t:=.slc 4 0 9 1 (some 9)) (e:=2) (cs:=[I64 fr,I64 1,I64 X,I64 Y,I64 W,I64 H,I64 200,I64 1,I64 1]) rfl yj ?_;refine zq rfl rfl (CallT.frame (h0) [0,1,2,3] rfl z3 z3 ?_)
     rintro _ _ ⟨rfl,rfl⟩;refine frK zy zy ?_;refine zb ?_;refine z7 ([(0,.ptr 0 0)]) (tnH1 (M.up 1) p (mW m) [R0]) [1,8] rfl (by refine ⟨[some 0,some 1,some 2,some 3,some 4],rfl,yb,ya,?_,?_⟩ <;> (repeat' first | exact trivial | exact yc | exact yd | exact z9 rfl | refine zn ?_ ?_ | refine zk rfl ?_ ?_ | refine zj ?_ ?_ | refine ye rfl ?_ | fail) <;> first | exact yv | (first | exact yg (Cv.om rfl) (Cv.om rfl) (Cv.slc rfl (.inr rfl)) | exact yg (Cv.om rfl) (Cv.om rfl) (Cv.slc rfl (.inl rfl)) | exact CvL.pure (zg _ _) | exact Cv.ptr rfl | exact Cv.fptr ⟨rfl,(by simp)⟩ (CvL.pure rfl))) ?_
     refine ze zc [98] rfl ?_;iterate 3 refine za rfl ?_
     refine yx (t:=.slc 5 0 8 1 (some 8)) (e:=2) (cs:=[I64 fr,I64 32,I64 0,I64 0,I64 0,I64 0,I64 0,I64 3356]) rfl yj ?_;refine zq rfl rfl (CallT.frame (h1) [0,1,2,4] rfl z3 z3 ?_)
     rintro _ _ ⟨rfl,rfl⟩;refine frK zy zy ?_;refine zb ?_;refine z7 ([(0,.ptr 0 0)]) (tnH1 (M.up 2) p (mW m) [R0,R1]) [1,8] rfl (by refine ⟨[some 0,some 1,some 2,some 3,some 5],rfl,yb,ya,?_,?_⟩ <;> (repeat' first | exact trivial | exact yc | exact yd | exact z9 rfl | refine zn ?_ ?_ | refine zk rfl ?_ ?_ | refine zj ?_ ?_ | refine ye rfl ?_ | fail) <;> first | exact yv | (first | exact yg (Cv.om rfl) (Cv.om rfl) (Cv.slc rfl (.inr rfl)) | exact yg (Cv.om rfl) (Cv.om rfl) (Cv.slc rfl (.inl rfl)) | exact CvL.pure (zg _ _) | exact Cv.ptr rfl | exact Cv.fptr ⟨rfl,(by simp)⟩ (CvL.pure rfl))) ?_
     refine ze zc [102] rfl ?_;iterate 2 refine za rfl ?_
     refine yx rfl rfl ?_;refine zq rfl rfl (CallT.frame (h2) [0,1,2,4] rfl z3 z3 ?_)
     rintro _ _ ⟨rfl,rfl⟩;refine frK zy zy ?_;refine zb ?_;refine z7 ([(0,.ptr 0 0)]) (tnH1 (M.up 3) p (mW m) [R0,R1,R2]) [1,8] rfl (by refine ⟨[some 0,some 1,some 2,some 3,some 5],rfl,yb,ya,?_,?_⟩ <;> (repeat' first | exact trivial | exact yc | exact yd | exact z9 rfl | refine zn ?_ ?_ | refine zk rfl ?_ ?_ | refine zj ?_ ?_ | refine ye rfl ?_ | fail) <;> first | exact yv | (first | exact yg (Cv.om rfl) (Cv.om rfl) (Cv.slc rfl (.inr rfl)) | exact yg (Cv.om rfl) (Cv.om rfl) (Cv.slc rfl (.inl rfl)) | exact CvL.pure (zg _ _) | exact Cv.ptr rfl | exact Cv.fptr ⟨rfl,(by simp)⟩ (CvL.pure rfl))) ?_
     refine ze zc [108] rfl ?_;iterate 4 refine za rfl ?_
     refine yx (t:=.slc 5 0 4 1 (some 4)) (e:=2) (cs:=[I64 id,I64 fr,I64 1,I64 9]) rfl yj ?_;refine zq rfl rfl (CallT.frame (h3) [0,1,2,4] rfl z3 z3 ?_)
     rintro _ _ ⟨rfl,rfl⟩;refine frK zy zy ?_;refine zb ?_;refine z7 ([(0,.ptr 0 0)]) (tnH1 (M.up 4) p (mW m) [R0,R1,R2,R3]) [1,8] rfl (by refine ⟨[some 0,some 1,some 2,some 3,some 5],rfl,yb,ya,?_,?_⟩ <;> (repeat' first | exact trivial | exact yc | exact yd | exact z9 rfl | refine zn ?_ ?_ | refine zk rfl ?_ ?_ | refine zj ?_ ?_ | refine ye rfl ?_ | fail) <;> first | exact yv | (first | exact yg (Cv.om rfl) (Cv.om rfl) (Cv.slc rfl (.inr rfl)) | exact yg (Cv.om rfl) (Cv.om rfl) (Cv.slc rfl (.inl rfl)) | exact CvL.pure (zg _ _) | exact Cv.ptr rfl | exact Cv.fptr ⟨rfl,(by simp)⟩ (CvL.pure rfl))) ?_
     refine ze zc [112] rfl ?_;iterate 2 refine za rfl ?_
     refine yx rfl rfl ?_;refine zq rfl rfl (CallT.frame (h4) [0,1,2,4] rfl z3 z3 ?_)
     rintro _ _ ⟨rfl,rfl⟩;refine frK zy zy ?_;refine zb ?_;refine z7 ([(0,.ptr 0 0)]) (tnH1 (M.up 5) p (mW m) [R0,R1,R2,R3,R4]) [8] rfl (by refine ⟨[some 0,some 1,some 2,some 3,some 5],rfl,yb,ya,?_,?_⟩ <;> (repeat' first | exact trivial | exact yc | exact yd | exact z9 rfl | refine zn ?_ ?_ | refine zk rfl ?_ ?_ | refine zj ?_ ?_ | refine ye rfl ?_ | fail) <;> first | exact yv | (first | exact yg (Cv.om rfl) (Cv.om rfl) (Cv.slc rfl (.inr rfl)) | exact yg (Cv.om rfl) (Cv.om rfl) (Cv.slc rfl (.inl rfl)) | exact CvL.pure (zg _ _) | exact Cv.ptr rfl | exact Cv.fptr ⟨rfl,(by simp)⟩ (CvL.pure rfl))) ?_
     refine ze zc [117] rfl ?_;iterate 3 refine za rfl ?_
     refine yx rfl rfl ?_;refine zq rfl rfl (CallT.frame (h5) [0,1,2,4] rfl z3 z3 ?_)
     rintro _ _ ⟨rfl,rfl⟩;refine frK zy zy ?_;refine zb ?_;refine z7 ([(0,.ptr 0 0)]) (tnH1 (M.up 6) p (mW m) [R0,R1,R2,R3,R4,R5]) [8] rfl (by refine ⟨[some 0,some 1,some 2,some 3,some 5],rfl,yb,ya,?_,?_⟩ <;> (repeat' first | exact trivial | exact yc | exact yd | exact z9 rfl | refine zn ?_ ?_ | refine zk rfl ?_ ?_ | refine zj ?_ ?_ | refine ye rfl ?_ | fail) <;> first | exact yv | (first | exact yg (Cv.om rfl) (Cv.om rfl) (Cv.slc rfl (.inr rfl)) | exact yg (Cv.om rfl) (Cv.om rfl) (Cv.slc rfl (.inl rfl)) | exact CvL.pure (zg _ _) | exact Cv.ptr rfl | exact Cv.fptr ⟨rfl,(by simp)⟩ (CvL.pure rfl))) ?_
     refine z4 zc [] rfl ?_;iterate 2 refine za rfl ?_
     refine zq rfl rfl (CallT.frame (h6) [0,1,2,4] rfl z3 z3 ?_)
     rintro _ _ ⟨rfl,rfl⟩;refine frK zy zy ?_;refine zb ?_;refine ⟨trivial,_,rfl,rfl,?_⟩;show [Blk.c (tnC (M.up 7) (askT 5 [R0,R1,R2,R3,R4,R5,m.draw ⟨fr,k.w,k.h,ttl⟩])),.o p,.o (mW m),.d,.d,.c (encL cRn [R0,R1,R2,R3,R4,R5,m.draw ⟨fr,k.w,k.h,ttl⟩])] = _;rw [hpe];unfold ranH;rw [hM];rfl
end

section
open Go.RowKit
set_option maxRecDepth 10000
set_option maxHeartbeats 2000000
theorem zh1 (m : Mg) (o : Ot) (top : Int) (ok : m.Ok top) (hf : m.fresh = false) (htop : top≤1000000) (hc15 : o.code = 15) (hl : o.l.length≤100000) :
  CallT Tryd.prog 62 [.ptr 0 0,otT o] (tnH m (mF m) (mW m) []) (fun t H'=>t = .tup []∧H' = ranH (m.titled o.seq o.l).1 (m.titled o.seq o.l).2 []):=by
 have hpF:=piF m.F
 have hpW:=piW m.W
 have hpo:=x8 o
 have hwt:=ql m 86 [.iptr (otC o) 0] (fun k=>k.g + 1 == o.seq) [] (by simp only [T.pureL,T.pure,zg];rfl) (fun i j x y hx hy h1 h2=>ok.one o.seq hx hy (by simp at h1;omega) (by simp at h2;omega)) (clo_b o)
 cases h1 : posB m.W (fun k=>k.g + 1 == o.seq) with
 | none=>
  have hr : m.titled o.seq o.l = (m,[]):=by unfold Mg.titled;rw [h1]
  have hfw : foundW m (fun k=>k.g + 1 == o.seq) = .tup [I64 0,BL false]:=by unfold foundW;rw [h1]
  rw [hfw] at hwt
  rw [hr]
  refine CallT.intro zc Tryd.func62 rfl (by kernel_rfl) (Nat.le_of_ble_eq_true rfl) ?_;refine ze zc [3] rfl ?_;refine yx rfl rfl ?_;refine zb ?_;refine ze zc [] rfl ?_;iterate 2 refine za rfl ?_
  refine zb ?_;refine yf ?_;refine ze zc [] rfl ?_;iterate 2 refine za rfl ?_
  refine zb ?_;refine zi rfl (fun hc0=>?_) (fun hc0=>?_)
  ·exact absurd hc0 (by simp [hc15])
  ·(try simp only [zf] at hc0)
   refine ze zc [] rfl ?_;iterate 2 refine za rfl ?_
   refine zb ?_;refine zi rfl (fun hc2=>?_) (fun hc2=>?_)
   ·(try simp only [zf] at hc2)
    refine ze zc [] rfl ?_;iterate 2 refine za rfl ?_
    refine zq rfl rfl (CallT.frame (hwt) [0,1,2,3] rfl z3 z3 ?_)
    rintro _ _ ⟨rfl,rfl⟩;refine frK zy zy ?_;iterate 5 refine za rfl ?_
    refine zb ?_;refine ze zc [] rfl ?_;refine za rfl ?_;refine zb ?_;refine yq rfl ?_;refine zt ?_;exact ⟨trivial,_,rfl,rfl,rfl⟩
   ·exact absurd hc2 (by simp [hc15])
 | some i=>
  obtain ⟨⟨id,v⟩,he,-⟩:=w5 h1
  have hr : m.titled o.seq o.l = Mg.manage { m with W:=m.W.eraseIdx i } id v o.l:=by unfold Mg.titled;rw [h1];simp only [getM he]
  have hfw : foundW m (fun k=>k.g + 1 == o.seq) = .tup [I64 id,BL true]:=by unfold foundW;rw [h1];simp only [getM he]
  have hlw:=rv ok.wk he false
  have hv:=ok.wv _ (v4 he)
  have ok1:=ok.dropW hf i
  have hmg:=zih { m with W:=m.W.eraseIdx i } id v o.l top ok1 htop (fun k=>by obtain ⟨x,k1,k2⟩:=List.mem_map.1 k;exact ok.dis x k1 (k2 ▸ List.mem_map.2 ⟨_,v4 he,rfl⟩)) hv.2.1 hv.2.2 hl
  rw [hfw] at hwt
  rw [hr]
  generalize Mg.manage { m with W:=m.W.eraseIdx i } id v o.l = r at *
  have hpW1:=piW (m.W.eraseIdx i)
  obtain ⟨m2,rs⟩:=r
  have hpF2:=piF m2.F
  have hpW2:=piW m2.W
  obtain ⟨m1,hm1⟩ : ∃ m1 : Mg,m1 = { m with W:=m.W.eraseIdx i }:=⟨_,rfl⟩
  match rs,hmg with
  | [],hmg=>
   have hmg : CallT Tryd.prog 87 [.ptr 0 0,I64 id,wtT v,cIf o.l] (tnH { m with W:=m.W.eraseIdx i } (mF { m with W:=m.W.eraseIdx i }) (mW { m with W:=m.W.eraseIdx i }) []) (fun t H'=>t = .tup []∧H' = tnH m2 (mF m2) (mW m2) []):=hmg
   refine CallT.intro zc Tryd.func62 rfl (by kernel_rfl) (Nat.le_of_ble_eq_true rfl) ?_;refine ze zc [3] rfl ?_;refine yx rfl rfl ?_;refine zb ?_;refine ze zc [] rfl ?_;iterate 2 refine za rfl ?_
   refine zb ?_;refine yf ?_;refine ze zc [] rfl ?_;iterate 2 refine za rfl ?_
   refine zb ?_;refine zi rfl (fun hc0=>?_) (fun hc0=>?_)
   ·exact absurd hc0 (by simp [hc15])
   ·(try simp only [zf] at hc0)
    refine ze zc [] rfl ?_;iterate 2 refine za rfl ?_
    refine zb ?_;refine zi rfl (fun hc2=>?_) (fun hc2=>?_)
    ·(try simp only [zf] at hc2)
     refine ze zc [] rfl ?_;iterate 2 refine za rfl ?_
     refine zq rfl rfl (CallT.frame (hwt) [0,1,2,3] rfl z3 z3 ?_)
     rintro _ _ ⟨rfl,rfl⟩;refine frK zy zy ?_;iterate 5 refine za rfl ?_
     refine zb ?_;refine ze zc [] rfl ?_;refine za rfl ?_;refine zb ?_;refine xv rfl ?_;refine ze zc [] rfl ?_;iterate 6 refine za rfl ?_
     refine yy zc rfl rfl rfl hlw ?_;refine yk rfl rfl ?_;refine zp rfl rfl rfl rfl rfl xf rfl ?_;refine zb ?_;refine z7 ([(0,.ptr 0 0),(9,.iptr (wtC v) 0)]) (tnH m (mF m) (mW m) []) [3,7] rfl (by refine ⟨[some 0,some 1,some 2,some 3],rfl,yb,ya,?_,?_⟩ <;> (repeat' first | exact trivial | exact yc | exact yd | exact z9 rfl | refine zn ?_ ?_ | refine zk rfl ?_ ?_ | refine zj ?_ ?_ | refine ye rfl ?_ | fail) <;> first | exact yv | (first | exact yg (Cv.om rfl) (Cv.om rfl) (Cv.slc rfl (.inr rfl)) | exact yg (Cv.om rfl) (Cv.om rfl) (Cv.slc rfl (.inl rfl)) | exact CvL.pure (zg _ _) | exact Cv.ptr rfl | exact Cv.fptr ⟨rfl,(show some 4∉[some 0,some 1,some 2,some 3] by simp)⟩ (CvL.pure rfl))) ?_
     refine ze zc [] rfl ?_;iterate 6 refine za rfl ?_
     refine u3 zc rfl rfl rfl rfl rfl rfl rfl (by exact likeF _ _) (keyAt he) ?_;rw [delW]
     refine zb ?_;refine z4 zc [] rfl ?_;iterate 5 refine za rfl ?_
     refine zq rfl rfl (CallT.frame (hmg) [0,1,2,3] rfl z3 z3 ?_)
     rintro _ _ ⟨rfl,rfl⟩;refine frK zy zy ?_;refine zb ?_;exact ⟨trivial,_,rfl,rfl,rfl⟩
    ·exact absurd hc2 (by simp [hc15])
  | [r1],hmg=>
   have hmg : CallT Tryd.prog 87 [.ptr 0 0,I64 id,wtT v,cIf o.l] (tnH { m with W:=m.W.eraseIdx i } (mF { m with W:=m.W.eraseIdx i }) (mW { m with W:=m.W.eraseIdx i }) []) (fun t H'=>t = .tup []∧H' = tnH1 m2 (mF m2) (mW m2) [r1]):=hmg
   refine CallT.intro zc Tryd.func62 rfl (by kernel_rfl) (Nat.le_of_ble_eq_true rfl) ?_;refine ze zc [3] rfl ?_;refine yx rfl rfl ?_;refine zb ?_;refine ze zc [] rfl ?_;iterate 2 refine za rfl ?_
   refine zb ?_;refine yf ?_;refine ze zc [] rfl ?_;iterate 2 refine za rfl ?_
   refine zb ?_;refine zi rfl (fun hc0=>?_) (fun hc0=>?_)
   ·exact absurd hc0 (by simp [hc15])
   ·(try simp only [zf] at hc0)
    refine ze zc [] rfl ?_;iterate 2 refine za rfl ?_
    refine zb ?_;refine zi rfl (fun hc2=>?_) (fun hc2=>?_)
    ·(try simp only [zf] at hc2)
     refine ze zc [] rfl ?_;iterate 2 refine za rfl ?_
     refine zq rfl rfl (CallT.frame (hwt) [0,1,2,3] rfl z3 z3 ?_)
     rintro _ _ ⟨rfl,rfl⟩;refine frK zy zy ?_;iterate 5 refine za rfl ?_
     refine zb ?_;refine ze zc [] rfl ?_;refine za rfl ?_;refine zb ?_;refine xv rfl ?_;refine ze zc [] rfl ?_;iterate 6 refine za rfl ?_
     refine yy zc rfl rfl rfl hlw ?_;refine yk rfl rfl ?_;refine zp rfl rfl rfl rfl rfl xf rfl ?_;refine zb ?_;refine z7 ([(0,.ptr 0 0),(9,.iptr (wtC v) 0)]) (tnH m (mF m) (mW m) []) [3,7] rfl (by refine ⟨[some 0,some 1,some 2,some 3],rfl,yb,ya,?_,?_⟩ <;> (repeat' first | exact trivial | exact yc | exact yd | exact z9 rfl | refine zn ?_ ?_ | refine zk rfl ?_ ?_ | refine zj ?_ ?_ | refine ye rfl ?_ | fail) <;> first | exact yv | (first | exact yg (Cv.om rfl) (Cv.om rfl) (Cv.slc rfl (.inr rfl)) | exact yg (Cv.om rfl) (Cv.om rfl) (Cv.slc rfl (.inl rfl)) | exact CvL.pure (zg _ _) | exact Cv.ptr rfl | exact Cv.fptr ⟨rfl,(show some 4∉[some 0,some 1,some 2,some 3] by simp)⟩ (CvL.pure rfl))) ?_
     refine ze zc [] rfl ?_;iterate 6 refine za rfl ?_
     refine u3 zc rfl rfl rfl rfl rfl rfl rfl (by exact likeF _ _) (keyAt he) ?_;rw [delW]
     refine zb ?_;refine z4 zc [] rfl ?_;iterate 5 refine za rfl ?_
     refine zq rfl rfl (CallT.frame (hmg) [0,1,2,3] rfl z3 z3 ?_)
     rintro _ _ ⟨rfl,rfl⟩;refine frK zy zy ?_;refine zb ?_;exact ⟨trivial,_,rfl,rfl,rfl⟩
    ·exact absurd hc2 (by simp [hc15])
  | r1 :: r2 :: rs,hmg=>
   have hmg : CallT Tryd.prog 87 [.ptr 0 0,I64 id,wtT v,cIf o.l] (tnH { m with W:=m.W.eraseIdx i } (mF { m with W:=m.W.eraseIdx i }) (mW { m with W:=m.W.eraseIdx i }) []) (fun t H'=>t = .tup []∧H' = tnH2 m2 (mF m2) (mW m2) (r1 :: r2 :: rs)):=hmg
   refine CallT.intro zc Tryd.func62 rfl (by kernel_rfl) (Nat.le_of_ble_eq_true rfl) ?_;refine ze zc [3] rfl ?_;refine yx rfl rfl ?_;refine zb ?_;refine ze zc [] rfl ?_;iterate 2 refine za rfl ?_
   refine zb ?_;refine yf ?_;refine ze zc [] rfl ?_;iterate 2 refine za rfl ?_
   refine zb ?_;refine zi rfl (fun hc0=>?_) (fun hc0=>?_)
   ·exact absurd hc0 (by simp [hc15])
   ·(try simp only [zf] at hc0)
    refine ze zc [] rfl ?_;iterate 2 refine za rfl ?_
    refine zb ?_;refine zi rfl (fun hc2=>?_) (fun hc2=>?_)
    ·(try simp only [zf] at hc2)
     refine ze zc [] rfl ?_;iterate 2 refine za rfl ?_
     refine zq rfl rfl (CallT.frame (hwt) [0,1,2,3] rfl z3 z3 ?_)
     rintro _ _ ⟨rfl,rfl⟩;refine frK zy zy ?_;iterate 5 refine za rfl ?_
     refine zb ?_;refine ze zc [] rfl ?_;refine za rfl ?_;refine zb ?_;refine xv rfl ?_;refine ze zc [] rfl ?_;iterate 6 refine za rfl ?_
     refine yy zc rfl rfl rfl hlw ?_;refine yk rfl rfl ?_;refine zp rfl rfl rfl rfl rfl xf rfl ?_;refine zb ?_;refine z7 ([(0,.ptr 0 0),(9,.iptr (wtC v) 0)]) (tnH m (mF m) (mW m) []) [3,7] rfl (by refine ⟨[some 0,some 1,some 2,some 3],rfl,yb,ya,?_,?_⟩ <;> (repeat' first | exact trivial | exact yc | exact yd | exact z9 rfl | refine zn ?_ ?_ | refine zk rfl ?_ ?_ | refine zj ?_ ?_ | refine ye rfl ?_ | fail) <;> first | exact yv | (first | exact yg (Cv.om rfl) (Cv.om rfl) (Cv.slc rfl (.inr rfl)) | exact yg (Cv.om rfl) (Cv.om rfl) (Cv.slc rfl (.inl rfl)) | exact CvL.pure (zg _ _) | exact Cv.ptr rfl | exact Cv.fptr ⟨rfl,(show some 4∉[some 0,some 1,some 2,some 3] by simp)⟩ (CvL.pure rfl))) ?_
     refine ze zc [] rfl ?_;iterate 6 refine za rfl ?_
     refine u3 zc rfl rfl rfl rfl rfl rfl rfl (by exact likeF _ _) (keyAt he) ?_;rw [delW]
     refine zb ?_;refine z4 zc [] rfl ?_;iterate 5 refine za rfl ?_
     refine zq rfl rfl (CallT.frame (hmg) [0,1,2,3] rfl z3 z3 ?_)
     rintro _ _ ⟨rfl,rfl⟩;refine frK zy zy ?_;refine zb ?_;exact ⟨trivial,_,rfl,rfl,rfl⟩
    ·exact absurd hc2 (by simp [hc15])
theorem zdg (m : Mg) (i : Nat) (id : Int) (v : Fr) (top : Int) (ok : m.Ok top) (htop : top≤1000000) (he : m.F[i]? = some (id,v)) :
  CallT Tryd.prog 127 [.ptr 0 0,I64 id,frT v] (tnH m (mF m) (mW m) []) (fun t H'=>t = .tup []∧H' = tnH1 (m.forget i).1 (mF (m.forget i).1) (mW (m.forget i).1) (m.forget i).2):=by
 have hc:=ok.cnt
 have hpF:=piF m.F
 have hpW:=piW m.W
 have hpF1:=piF (m.F.eraseIdx i)
 have ha:=qc m (mF m) (mW m) 2 v.fr [] (by simp) (by omega) hpF hpW
 cases hhit : (m.on && (m.df == v.fr)) with
 | false=>
  have hr : m.forget i = ({ m.up 1 with F:=m.F.eraseIdx i },[rq 2 [v.fr]]):=by unfold Mg.forget;simp only [getM he,hhit,Bool.false_eq_true,if_false]
  rw [hr]
  refine CallT.intro zc Tryd.func127 rfl (by kernel_rfl) (Nat.le_of_ble_eq_true rfl) ?_;refine ze zc [5] rfl ?_;refine yx rfl rfl ?_;refine zb ?_;refine ze zc [9] rfl ?_;iterate 3 refine za rfl ?_
  refine yx rfl rfl ?_;refine zq rfl rfl (CallT.frame (ha) [0,1,2,3] rfl z3 z3 ?_)
  rintro _ _ ⟨rfl,rfl⟩;refine frK zy zy ?_;refine zb ?_;refine ze zc [] rfl ?_;iterate 6 refine za rfl ?_
  refine u3 zc rfl rfl rfl rfl rfl rfl rfl (by exact likeF _ _) (keyAt he) ?_;rw [delF]
  refine zb ?_;refine yu zc [] [_,_,_,_,_,_,_,_,_,_,_,_,_,_,_,_,_] rfl yj yj ?_;iterate 7 refine za rfl ?_
  refine' zx (d:=33) [_,_,_,_,_,_,_,_,_,_] rfl ?_ rfl ?_
  rotate_left
  ·refine zw rfl rfl (fun hb3_6=>?_) (fun hb3_6=>?_)
   ·have ghb3_6:=hb3_6
    try simp only [zf,Bool.not_true,Bool.not_false] at ghb3_6
    refine za rfl ?_;refine zd rfl rfl hb3_6 ?_;refine za rfl ?_;refine zd rfl rfl hb3_6 ?_;refine za rfl ?_;refine zd rfl rfl hb3_6 ?_;refine za rfl ?_;refine zd rfl rfl hb3_6 ?_;refine za rfl ?_;refine zd rfl rfl hb3_6 ?_;refine za rfl ?_;refine zd rfl rfl hb3_6 ?_;refine za rfl ?_;refine zd rfl rfl hb3_6 ?_;refine za rfl ?_;refine zd rfl rfl hb3_6 ?_;refine za rfl ?_;refine zh rfl (fun _=>rfl) ?_;exact zb ⟨rfl,rfl⟩
   ·refine zl rfl rfl hb3_6 ?_;iterate 7 refine zl rfl rfl hb3_6 ?_
    exact zh rfl (fun h=>absurd (h.symm.trans hb3_6) (by decide)) (zb ⟨rfl,rfl⟩)
  iterate 2 refine zb ?_
  refine zi rfl (fun hc0=>?_) (fun hc0=>?_)
  ·exact absurd hc0 (by have:=hhit;revert this;generalize m.on = b;generalize m.df = d;cases b <;> simp)
  ·(try simp only [zf] at hc0)
   refine zt ?_;exact ⟨trivial,_,rfl,rfl,rfl⟩
 | true=>
  have hr : m.forget i = ({ m.up 1 with F:=m.F.eraseIdx i,on:=false,df:=0,dx:=0,dy:=0 },[rq 2 [v.fr]]):=by unfold Mg.forget;simp only [getM he,hhit,if_true]
  rw [hr]
  refine CallT.intro zc Tryd.func127 rfl (by kernel_rfl) (Nat.le_of_ble_eq_true rfl) ?_;refine ze zc [5] rfl ?_;refine yx rfl rfl ?_;refine zb ?_;refine ze zc [9] rfl ?_;iterate 3 refine za rfl ?_
  refine yx rfl rfl ?_;refine zq rfl rfl (CallT.frame (ha) [0,1,2,3] rfl z3 z3 ?_)
  rintro _ _ ⟨rfl,rfl⟩;refine frK zy zy ?_;refine zb ?_;refine ze zc [] rfl ?_;iterate 6 refine za rfl ?_
  refine u3 zc rfl rfl rfl rfl rfl rfl rfl (by exact likeF _ _) (keyAt he) ?_;rw [delF]
  refine zb ?_;refine yu zc [] [_,_,_,_,_,_,_,_,_,_,_,_,_,_,_,_,_] rfl yj yj ?_;iterate 7 refine za rfl ?_
  refine' zx (d:=33) [_,_,_,_,_,_,_,_,_,_] rfl ?_ rfl ?_
  rotate_left
  ·refine zw rfl rfl (fun hb3_6=>?_) (fun hb3_6=>?_)
   ·have ghb3_6:=hb3_6
    try simp only [zf,Bool.not_true,Bool.not_false] at ghb3_6
    refine za rfl ?_;refine zd rfl rfl hb3_6 ?_;refine za rfl ?_;refine zd rfl rfl hb3_6 ?_;refine za rfl ?_;refine zd rfl rfl hb3_6 ?_;refine za rfl ?_;refine zd rfl rfl hb3_6 ?_;refine za rfl ?_;refine zd rfl rfl hb3_6 ?_;refine za rfl ?_;refine zd rfl rfl hb3_6 ?_;refine za rfl ?_;refine zd rfl rfl hb3_6 ?_;refine za rfl ?_;refine zd rfl rfl hb3_6 ?_;refine za rfl ?_;refine zh rfl (fun _=>rfl) ?_;exact zb ⟨rfl,rfl⟩
   ·refine zl rfl rfl hb3_6 ?_;iterate 7 refine zl rfl rfl hb3_6 ?_
    exact zh rfl (fun h=>absurd (h.symm.trans hb3_6) (by decide)) (zb ⟨rfl,rfl⟩)
  iterate 2 refine zb ?_
  refine zi rfl (fun hc0=>?_) (fun hc0=>?_)
  ·(try simp only [zf] at hc0)
   refine z4 zc [] rfl ?_;iterate 5 refine za rfl ?_
   refine zp rfl rfl rfl rfl rfl xf rfl ?_;refine zb ?_;exact ⟨trivial,_,rfl,rfl,rfl⟩
  ·exact absurd hc0 (by have:=hhit;revert this;generalize m.on = b;generalize m.df = d;cases b <;> simp)
end

section
open Go.RowKit
set_option maxRecDepth 10000
set_option maxHeartbeats 1000000
theorem CallP.of_glo {P : Program} {f : FuncId} {args : List T} {r : T} (hp : T.pureL args = true) (hr : r.pure = true) (hgo : goB P f = true)
  (h : ∀ (M : Mp) vs,Glo M→(∀ B,M.X B→B < M.w.heap.size)→RepL M args vs→Calls P f vs.toArray M.w (fun e w'=>∃ u,e = .returned u∧Below M.w.heap.size M.w w'∧Rep ⟨M.β,M.X,w'⟩ r u)) : CallP P f args r:=by
 refine ⟨hp,hr,hgo,fun X0 M vs hS hrep=>?_⟩
 refine (h M vs hS.glo hS.bnd hrep).mono ?_;rintro e w' ⟨u,rfl,hb,hu⟩;have hk : ∀ B,B < M.w.heap.size→w'.heap[B]? = M.w.heap[B]?:=fun B hB=>hb.block B hB
 have hE : Evo X0 M ⟨M.β,M.X,w'⟩:=⟨fun _ _ h=>h,fun _ _ h=>h,fun B hB _=>hk B hB,fun B s hs=>by
  have : B < M.w.heap.size:=by
   rcases Nat.lt_or_ge B M.w.heap.size with h1 | h1
   ·exact h1
   ·simp [World.shape?,Array.getElem?_eq_none h1] at hs
  rw [← hs];exact wj (hk B this),hb.os,⟨hb.tape,fun d=>d.elim⟩,hb.output,hb.size⟩
 exact ⟨u,r,[],⟨M.β,M.X,w'⟩,rfl,rfl,rfl,hE,hS.world hE hk,hu⟩
theorem zbk (M : Mp) : ∀ (l : List (List UInt8)) (a : Array Value) (j : Nat),(∀ i s,l[i]? = some s→a[j + i]? = some (.string ⟨s.toArray⟩))→RepA M (encL cStr l) a j
 | [],a,j,h=>trivial
 | s :: l,a,j,h=>⟨_,by simpa using h 0 s rfl,rfl,zbk M l a (j + 1) fun i s' h'=>by
  have:=h (i + 1) s' (by simpa using h')
  rwa [show j + (i + 1) = j + 1 + i from by omega] at this⟩
theorem zin (s : List UInt8) (hs : s.length≤1000) (has : ∀ b∈s,b.toNat < 128) (hn : (Lib.fields s).length≤1000) :
  CallP Tryd.prog 120 [strT s] (.islc (encL cStr (Lib.fields s)) (Lib.fields s).length none):=by
 refine CallP.of_glo rfl (by simp only [T.pure,zg]) (by kernel_rfl) fun M vs hG hX hrep=>?_
 obtain rfl : vs = [.string ⟨s.toArray⟩]:=by obtain ⟨u,q,rfl,rfl,rfl⟩:=hrep;rfl
 have htab : Lib.TabIs Tryd.prog M.w "strings.asciiSpace" .u8 Lib.asciiSpaceTab := by
  obtain ⟨-,e,f,hb⟩:=hG 1 spaceA (show glT 1 = some spaceA from if_pos rfl)
  unfold Lib.TabIs World.var?
  rw [show Tryd.prog.globalNamed "strings.asciiSpace" = some 1 from by kernel_rfl]
  simp only [Option.bind_some,hb]
  rfl
 refine (Tryd.strings_Fields_laid ⟨s.toArray⟩ M.w (by show s.toArray.size < _;rw [List.size_toArray];omega) (fun j b h=>has b (by have:=List.mem_of_getElem? h;simpa using this)) htab).mono ?_;rintro e w' ⟨rfl,rfl⟩;have hl : (⟨s.toArray⟩ : ByteArray).data.toList = s:=by simp
 rw [hl]
 refine ⟨_,rfl,⟨rfl,rfl,rfl,by show _≤(M.w.heap.push _).size;rw [Array.size_push];omega,fun k hk=>by show (M.w.heap.push _)[k]? = _;rw [Array.getElem?_push_lt hk,Array.getElem?_eq_getElem hk]⟩,?_⟩
 refine ⟨some ⟨M.w.heap.size,0,none⟩,(Lib.fields s).length,rfl,Nat.le_refl _,by unfold maxLen;omega,fun q h=>(by cases h),.inr ⟨M.w.heap.size,0,_,rfl,⟨fun hx=>Nat.lt_irrefl _ (hX _ hx),_,_,by show (M.w.heap.push _)[M.w.heap.size]? = _;rw [Array.getElem?_push_size]⟩,?_⟩⟩
 refine zbk _ _ _ _ fun i s' h=>?_
 rw [Nat.zero_add,List.getElem?_toArray,List.getElem?_map,h];rfl
theorem zd9 (s c : List UInt8) (hs : s.length≤1000) (hc : c.length≤1000) (has : ∀ b∈s,b.toNat < 128) (hac : ∀ b∈c,b.toNat < 128) :
  CallP Tryd.prog 149 [strT s,strT c] (I64 (Lib.indexAny s c)):=by
 refine CallP.of_glo rfl rfl (by kernel_rfl) fun M vs hG hX hrep=>?_
 obtain rfl : vs = [.string ⟨s.toArray⟩,.string ⟨c.toArray⟩]:=by obtain ⟨u,q,rfl,rfl,u2,q2,rfl,rfl,rfl⟩:=hrep;rfl
 refine (Tryd.strings_IndexAny_laid ⟨s.toArray⟩ ⟨c.toArray⟩ M.w (by show s.toArray.size < _;rw [List.size_toArray];omega) (by show c.toArray.size < _;rw [List.size_toArray];omega) (fun j b h=>has b (by have:=List.mem_of_getElem? h;simpa using this)) (fun j b h=>hac b (by have:=List.mem_of_getElem? h;simpa using this))).mono ?_;rintro e w' ⟨rfl,hb⟩;refine ⟨_,rfl,hb,?_⟩
 have hl : (⟨s.toArray⟩ : ByteArray).data.toList = s:=by simp
 have hl2 : (⟨c.toArray⟩ : ByteArray).data.toList = c:=by simp
 rw [hl,hl2];rfl
end

section
open Go.RowKit
set_option maxRecDepth 10000
set_option maxHeartbeats 1000000
section
variable {q : Bool} {P : Program} {tab : Tab} {im : List Nat} {ds : List (Option Nat)} {l : List Oper} {E : Env} {H : Hp} {K : Env→Hp→Prop} {d : Nat} {ty : TypeId} {pos : String} {after : Array Edge}
theorem zds [Dr] {x hi : Operand} {t : Nat} {k : IntKind} {m : Nat} {xs : List UInt8} {i : TyI} (hT : tab t = some i) (hk : i.k = .str) (hx : E.opd x = some (strT xs)) (hh : E.opd hi = some (.v (.int k (m : Int)))) (hm : m≤xs.length) (kk : VX q P tab im ds l ((d,strT (xs.take m)) :: E) H K) : VX q P tab im ds (⟨some d,.slice t x none (some hi) none,ty,pos,after,none⟩ :: l) E H K:=by
 refine za (t:=strT (xs.take m)) ?_ kk
 have hs : (m : Int)≤((⟨xs.toArray⟩ : ByteArray).size : Int):=by show (m : Int)≤(xs.length : Int);omega
 have he : (⟨xs.toArray⟩ : ByteArray).extract 0 m = ⟨(xs.take m).toArray⟩:=by
  have : ∀ a b : ByteArray,a.data = b.data→a = b:=fun ⟨_⟩ ⟨_⟩ h=>by simp only at h;subst h;rfl
  apply this
  rw [ByteArray.data_extract]
  simp
 simp only [opM,hx,optI,hh,mSlice,hT,hk,Option.isSome_none,Bool.false_eq_true,if_false,Option.getD_some,Option.getD_none]
 rw [if_pos ⟨Int.le_refl 0,Int.natCast_nonneg m,hs⟩,Int.toNat_natCast,Int.toNat_zero,he]
theorem rh [Dr] {x y : Operand} {t t2 : Nat} {a b : List UInt8} (hx : E.opd x = some (strT a)) (hy : E.opd y = some (strT b)) (k : VX q P tab im ds l ((d,BL (a == b)) :: E) H K) : VX q P tab im ds (⟨some d,.binOp .eql t x y t2,ty,pos,after,none⟩ :: l) E H K:=by
 refine za (t:=BL (a == b)) ?_ k
 simp only [opM,hx,hy,mBin,binStr]
 rw [zjw]
 rfl
end
abbrev digs : List UInt8:=[45,48,49,50,51,52,53,54,55,56,57]
def sizeS (f : List UInt8) : Int:=IntKind.i64.wrap (IntKind.u8.wrap (((f[f.length - 1]?.getD 0).toNat : Int) - 48))
def splitS (f : List UInt8) : List UInt8 × Int:=
 if Lib.indexAny f digs < 0 then (f,0) else (f.take (Lib.indexAny f digs).toNat,if f[(Lib.indexAny f digs).toNat]?.getD 0 = 45 then IntKind.i64.wrap (0 - sizeS f) else sizeS f)
def fieldB (f : List UInt8) : Bool:=decide (f.length≤1000) && f.all (fun b=>decide (b.toNat < 128)) && decide (Lib.indexAny f digs < f.length)
def lineB (s : List UInt8) : Bool:=decide (s.length≤1000) && s.all (fun b=>decide (b.toNat < 128)) && decide ((Lib.fields s).length≤1000) && (Lib.fields s).all fieldB
theorem zj0 (f : List UInt8) (h : fieldB f = true) : CallP Tryd.prog 121 [strT f] (.tup [strT (splitS f).1,I64 (splitS f).2]):=by
 unfold fieldB at h
 simp only [Bool.and_eq_true,decide_eq_true_eq,List.all_eq_true] at h
 obtain ⟨⟨h1,h2⟩,h3⟩:=h
 have hix:=zd9 f digs h1 (by decide) h2 (by decide)
 unfold splitS
 generalize Lib.indexAny f digs = a at *
 by_cases ha : a < 0
 ·rw [if_pos ha]
  refine CallP.intro2 yw yw ?_;refine CallT.intro zc Tryd.func121 rfl (by kernel_rfl) (Nat.le_of_ble_eq_true rfl) ?_;refine ze zc [] rfl ?_;iterate 2 refine za rfl ?_
  refine zb ?_;refine ze zc [] rfl ?_;refine za rfl ?_;refine z6 rfl rfl rfl (hix) ?_;refine za rfl ?_;refine zb ?_;refine zo ?_;refine ze zc [] rfl ?_;iterate 2 refine za rfl ?_
  refine zb ?_;refine zi rfl (fun hc0=>?_) (fun hc0=>?_)
  ·(try simp only [zf] at hc0)
   refine ze zc [] rfl ?_;iterate 3 refine za rfl ?_
   refine zb ?_;refine yr ?_;exact ⟨trivial,_,rfl,Cv.eq (by first | rfl | (simp [*];done)) rfl⟩
  ·exact absurd hc0 (by first | omega | (simp;omega) | simp [ha])
 ·rw [if_neg ha]
  obtain ⟨m,rfl⟩:=Int.eq_ofNat_of_zero_le (show 0≤a by omega)
  rw [Int.toNat_natCast]
  have hm : m < f.length:=by omega
  have hlast : f[f.length - 1]? = some (f[f.length - 1]?.getD 0):=by rw [List.getElem?_eq_getElem (by omega)];rfl
  have hat : f[m]? = some (f[m]?.getD 0):=by rw [List.getElem?_eq_getElem hm];rfl
  have hlc : ((f.length : Int) - 1) = ((f.length - 1 : Nat) : Int):=by omega
  refine CallP.intro2 yw yw ?_;refine CallT.intro zc Tryd.func121 rfl (by kernel_rfl) (Nat.le_of_ble_eq_true rfl) ?_;refine ze zc [] rfl ?_;iterate 2 refine za rfl ?_
  refine zb ?_;refine ze zc [] rfl ?_;refine za rfl ?_;refine z6 rfl rfl rfl (hix) ?_;refine za rfl ?_;refine zb ?_;refine zo ?_;refine ze zc [] rfl ?_;iterate 2 refine za rfl ?_
  refine zb ?_;refine zi rfl (fun hc0=>?_) (fun hc0=>?_)
  ·exact absurd hc0 (by first | omega | (simp;omega) | simp)
  ·(try simp only [zf] at hc0)
   refine zt ?_;refine ze zc [] rfl ?_;iterate 2 refine za rfl ?_
   refine za (t:=I64 (f.length : Nat)) rfl ?_;refine pq rfl rfl zu ?_;refine zhr rfl rfl rfl rfl hlc hlast ?_;iterate 3 refine za rfl ?_
   refine zb ?_;refine zo ?_;refine ze zc [] rfl ?_;iterate 2 refine za rfl ?_
   refine zhr rfl rfl rfl rfl rfl hat ?_;refine za rfl ?_;refine zb ?_;refine zi rfl (fun hc1=>?_) (fun hc1=>?_)
   ·have hx : f[m]?.getD 0 = 45:=(UInt8.toNat_inj.1 (by have : (((f[m]?.getD 0).toNat : Nat) : Int) = 45:=(by simpa using hc1);show (f[m]?.getD 0).toNat = 45;omega))
    refine z4 zc [] rfl ?_;iterate 3 refine za rfl ?_
    refine zb ?_;refine ze zc [] rfl ?_;iterate 2 refine za rfl ?_
    refine zds rfl rfl rfl rfl zu ?_;iterate 3 refine za rfl ?_
    refine zb ?_;refine yr ?_;exact ⟨trivial,_,rfl,Cv.eq (by rw [if_pos hx];rfl) rfl⟩
   ·have hx : ¬ f[m]?.getD 0 = 45:=(fun k=>by rw [k] at hc1;simp at hc1)
    refine zt ?_;refine ze zc [] rfl ?_;iterate 2 refine za rfl ?_
    refine zds rfl rfl rfl rfl zu ?_;iterate 3 refine za rfl ?_
    refine zb ?_;refine yr ?_;exact ⟨trivial,_,rfl,Cv.eq (by rw [if_neg hx];rfl) rfl⟩
structure Fm where
 fx : List Int
 b : Bool
 l : Int
abbrev fmT (m : Fm) : T:=.agg [cIf m.fx,BL m.b,I64 m.l]
def fmAdd (m : Fm) (f : List UInt8) : Fm:=if (splitS f).1 = [66] then { m with b:=true } else if (splitS f).1 = [76] then { m with l:=(splitS f).2 } else { m with fx:=m.fx ++ [(splitS f).2] }
def fmOf (fs : List (List UInt8)) : Fm:=fs.foldl fmAdd ⟨[],false,0⟩
theorem zg2 (fs : List (List UInt8)) (f : List UInt8) : fmOf (fs ++ [f]) = fmAdd (fmOf fs) f:=by unfold fmOf;rw [List.foldl_append];rfl
theorem zim (fs : List (List UInt8)) : (fmOf fs).fx.length≤fs.length:=by
 have : ∀ (fs : List (List UInt8)) (m : Fm),(fs.foldl fmAdd m).fx.length≤m.fx.length + fs.length:=by
  intro fs
  induction fs with
  | nil=>intro m;simp
  | cons f fs ih=>
   intro m
   rw [List.foldl_cons]
   refine Nat.le_trans (ih _) ?_;have : (fmAdd m f).fx.length≤m.fx.length + 1:=by
    unfold fmAdd
    split
    ·simp
    ·split <;> simp
   simp only [List.length_cons];omega
 have h:=this fs ⟨[],false,0⟩
 unfold fmOf
 simpa using h
theorem zjj (s : List UInt8) (h : lineB s = true) : CallP Tryd.prog 84 [strT s] (fmT (fmOf (Lib.fields s))):=by
 unfold lineB at h
 simp only [Bool.and_eq_true,decide_eq_true_eq,List.all_eq_true] at h
 obtain ⟨⟨⟨h1,h2⟩,h3⟩,h4⟩:=h
 have hfp:=zin s h1 h2 h3
 generalize Lib.fields s = fs at *
 have hpu:=zg cI (fmOf fs).fx
 refine CallP.intro2 yw yw ?_;refine CallT.intro zc Tryd.func84 rfl (by kernel_rfl) (Nat.le_of_ble_eq_true rfl) ?_;refine ze zc [] rfl ?_;refine yk rfl rfl ?_;refine zb ?_;refine ze zc [] rfl ?_;refine yk rfl rfl ?_;refine zb ?_;refine zo ?_;refine ze zc [] rfl ?_;refine za rfl ?_;refine z6 rfl rfl rfl (hfp) ?_;iterate 2 refine za rfl ?_
 refine zb ?_;refine yf ?_;refine xo (σ:=Nat) (fun k=>fs.length - k) (fun k=>k≤fs.length) (fun k=>[(11,I64 k),(2,.ptr 0 0),(3,.ptr 1 0)]) (fun k=>[.c [NIL,BL false,I64 0],.c [.slc 2 0 (fmOf (fs.take k)).fx.length 1 none,BL (fmOf (fs.take k)).b,I64 (fmOf (fs.take k)).l],.c (encL cI (fmOf (fs.take k)).fx)]) [9,10] rfl (0) ?_ ?_ ?_
 ·refine ⟨[some 0,some 1,none],rfl,yb,ya,?_,?_⟩ <;> (repeat' first | exact trivial | exact yc | exact yd | exact z9 rfl | refine zn ?_ ?_ | refine zk rfl ?_ ?_ | refine zj ?_ ?_ | refine ye rfl ?_ | fail) <;> first | exact yv | (first | exact CvL.pure rfl | exact CvL.cons (Cv.nilv rfl) (CvL.pure rfl))
 ·(try dsimp only);omega
 rintro k hk;refine ze zc [] rfl ?_;refine za rfl ?_;refine zb ?_;refine zo ?_;refine zi rfl (fun hc0=>?_) (fun hc0=>?_)
 ·(try simp only [zf] at hc0);have hkl : k < fs.length:=(by omega);have hff:=h4 fs[k]! (List.mem_iff_getElem?.2 ⟨k,getE hkl⟩);have hsp:=zj0 fs[k]! hff;have hsn : fmOf (fs.take (k + 1)) = fmAdd (fmOf (fs.take k)) fs[k]!:=(by rw [List.take_add_one,List.getElem?_eq_getElem hkl,getElem!_pos fs k hkl];exact zg2 _ _);have hlen:=zim (fs.take k);have htk : (fs.take k).length = k:=(by rw [List.length_take];omega)
  generalize fmOf (fs.take k) = m at *
  unfold fmAdd at hsn
  generalize splitS fs[k]! = r at *
  refine zt ?_;refine zo ?_;refine yf ?_;refine ze zc [] rfl ?_;refine zr rfl rfl rfl rfl rfl rfl zu ?_;refine zm rfl rfl yn ?_;refine za rfl ?_;refine zb ?_;refine ze zc [] rfl ?_;refine za rfl ?_;refine z6 rfl rfl rfl (hsp) ?_;iterate 5 refine za rfl ?_
  refine zb ?_;refine ze zc [] rfl ?_;refine za rfl ?_;refine zb ?_;refine yf ?_;refine ze zc [] rfl ?_;refine rh rfl rfl ?_;refine za rfl ?_;refine zb ?_;refine zi rfl (fun hc1=>?_) (fun hc1=>?_)
  ·have hb : r.1 = [66]:=(by simpa using hc1);rw [if_pos hb] at hsn
   refine z4 zc [] rfl ?_;refine za rfl ?_;refine zp rfl rfl rfl rfl rfl xf rfl ?_;refine zb ?_;refine z4 zc [] rfl ?_;refine xg rfl rfl zu ?_;refine za rfl ?_;refine zb ?_;refine ⟨k + 1,by (try dsimp only);omega,?_,(by refine ⟨[some 0,some 1,some 2],rfl,yb,ya,?_,?_⟩ <;> (repeat' first | exact trivial | exact yc | exact yd | exact z9 rfl | refine zn ?_ ?_ | refine zk rfl ?_ ?_ | refine zj ?_ ?_ | refine ye rfl ?_ | fail) <;> first | exact yv | (first | exact CvL.pure rfl | (rw [hsn];exact CvL.cons (Cv.slc rfl (.inl rfl)) (CvL.pure rfl)) | exact CvL.eq (by rw [hsn]) (zg _ _)))⟩
   (try dsimp only);omega
  ·have hb : ¬ r.1 = [66]:=(by simpa using hc1);rw [if_neg hb] at hsn
   refine ze zc [] rfl ?_;refine rh rfl rfl ?_;refine za rfl ?_;refine zb ?_;refine zi rfl (fun hc2=>?_) (fun hc2=>?_)
   ·have hb2 : r.1 = [76]:=(by simpa using hc2);rw [if_pos hb2] at hsn
    refine z4 zc [] rfl ?_;iterate 2 refine za rfl ?_
    refine zp rfl rfl rfl rfl rfl xf rfl ?_;refine zb ?_;refine z4 zc [] rfl ?_;refine xg rfl rfl zu ?_;refine za rfl ?_;refine zb ?_;refine ⟨k + 1,by (try dsimp only);omega,?_,(by refine ⟨[some 0,some 1,some 2],rfl,yb,ya,?_,?_⟩ <;> (repeat' first | exact trivial | exact yc | exact yd | exact z9 rfl | refine zn ?_ ?_ | refine zk rfl ?_ ?_ | refine zj ?_ ?_ | refine ye rfl ?_ | fail) <;> first | exact yv | (first | exact CvL.pure rfl | (rw [hsn];exact CvL.cons (Cv.slc rfl (.inl rfl)) (CvL.pure rfl)) | exact CvL.eq (by rw [hsn]) (zg _ _)))⟩
    (try dsimp only);omega
   ·have hb2 : ¬ r.1 = [76]:=(by simpa using hc2);rw [if_neg hb2] at hsn
    refine z4 zc [24] rfl ?_;iterate 3 refine za rfl ?_
    refine yx rfl rfl ?_;refine u4 rfl rfl rfl rfl rfl rfl rfl rfl xf xf xf xf xf ?_;refine za rfl ?_;refine zp rfl rfl rfl rfl rfl xf rfl ?_;refine zb ?_;refine z4 zc [] rfl ?_;refine xg rfl rfl zu ?_;refine za rfl ?_;refine zb ?_;refine ⟨k + 1,by (try dsimp only);omega,?_,(by refine ⟨[some 0,some 1,some 3],rfl,yb,ya,?_,?_⟩ <;> (repeat' first | exact trivial | exact yc | exact yd | exact z9 rfl | refine zn ?_ ?_ | refine zk rfl ?_ ?_ | refine zj ?_ ?_ | refine ye rfl ?_ | fail) <;> first | exact yv | (first | exact CvL.pure rfl | (rw [hsn,List.length_append];exact CvL.cons (Cv.slc rfl (.inr rfl)) (CvL.pure rfl)) | exact CvL.eq (by rw [hsn,wy,List.drop_zero,List.take_of_length_le (by rw [xa,zbc];exact Nat.le_refl _)];rfl) (zg _ _)))⟩
    (try dsimp only);omega
 ·(try simp only [zf] at hc0);obtain rfl : k = fs.length:=(by omega);rw [List.take_length]
  refine y7 ?_;refine ze zc [] rfl ?_;refine za rfl ?_;refine zp rfl rfl rfl rfl rfl xf rfl ?_;refine zb ?_;refine yr ?_;exact ⟨trivial,_,rfl,Cv.agg (CvL.cons (Cv.fslc0 ⟨rfl,by simp⟩ (CvL.pure hpu)) (CvL.pure rfl))⟩
end

section
open Go.RowKit
set_option maxRecDepth 100000
set_option maxHeartbeats 2000000
/- a function's operations one by one, and what the ones that build come to -/
def opsC : Code→List Oper
 | .region _ ops _=>ops.toList
 | .seq a b=>opsC a ++ opsC b
 | .cond _ a b=>opsC a ++ opsC b
 | .block _ a=>opsC a
 | .loop a=>opsC a
 | _=>[]
def isBuild (o : Oper) : Bool:=match o.op with | .build ..=>true | _=>false
def runC : List Oper→Env→Env
 | [],E=>E
 | o :: r,E=>match o.dst,opM tab (fun _=>none) 0 E.opd o.op with | some d,some (t,_)=>runC r ((d,t) :: E) | _,_=>runC r E
def cellsT : Option T→List T
 | some (.agg cs)=>cs
 | _=>[]
def builtC (f : Func) (d : Nat) : List T:=cellsT ((runC ((opsC (f.body.getD .skip)).filter isBuild) []).get d)
noncomputable def evCs : List T:=builtC Tryd.f88 36
noncomputable def rqA : List T:=builtC Tryd.f118 30
noncomputable def rqB : List T:=builtC Tryd.f119 30
theorem zis : evCs.length = 78:=by kernel_rfl
theorem zj6 : rqA.length = 90:=by kernel_rfl
theorem zj5 : rqB.length = 177:=by kernel_rfl
theorem zg8 : T.pureL evCs = true:=by kernel_rfl
theorem zc0 : T.pureL rqA = true:=by kernel_rfl
theorem zcz : T.pureL rqB = true:=by kernel_rfl
def evOne (n : Nat) (e : List T) : Bool:=
 match e with
 | [.v (.string a),.v (.string b),.v (.string c)]=>
  (mEq tab 170 (.agg [.v (.string a),.v (.string b),.v (.string c)]) (.agg [strT [],strT [],strT []]) == some false) && lineB b.data.toList && (needsE n == 0 || (fmOf (Lib.fields b.data.toList)).fx.length == needsE n)
 | _=>false
def evChk (cs : List T) : Bool:=(List.range 25).all fun k=>evOne (k + 1) ((cs.drop ((k + 1) * 3)).take 3)
def needsR (n : Nat) : Nat:=if n = 9 then 7 else if n = 15 then 3 else 0
def rqOne (n : Nat) (e : List T) : Bool:=
 match e with
 | [.v (.string a),.v (.string b),.v (.string c)]=>(c.data.toList == [] && needsR n == 0) || (lineB c.data.toList && (needsR n == 0 || (fmOf (Lib.fields c.data.toList)).fx.length == needsR n) && !(c.data.toList == []))
 | _=>false
def rqChk (cs : List T) (a n : Nat) : Bool:=(List.range n).all fun k=>rqOne (a + k) ((cs.drop ((a + k) * 3)).take 3)
theorem ev_ok : evChk evCs = true:=by kernel_rfl
theorem rqA_ok : rqChk rqA 1 29 = true:=by kernel_rfl
theorem rqB_ok : rqChk rqB 30 29 = true:=by kernel_rfl
end

section
open Go.RowKit
set_option maxRecDepth 100000
set_option maxHeartbeats 2000000
section
variable {q : Bool} {P : Program} {tab : Tab} {im : List Nat} {ds : List (Option Nat)} {l : List Oper} {E : Env} {H : Hp} {K : Env→Hp→Prop} {d : Nat} {ty : TypeId} {pos : String} {after : Array Edge}
def meekL (tab : Tab) (look : Look) (nx : Nat) : List Oper→Env→Option Env
 | [],E=>some E
 | o :: r,E=>match o with
  | ⟨some d,op,_,_,_,none⟩=>match opM tab look nx E.opd op with | some (t,none)=>meekL tab look nx r ((d,t) :: E) | _=>none
  | _=>none
theorem VX.bulk [Dr] {E' : Env} : ∀ (l l2 : List Oper) (E : Env),meekL tab (lookH H) H.length l E = some E'→VX q P tab im ds l2 E' H K→VX q P tab im ds (l ++ l2) E H K
 | [],l2,E,h,k=>by
  injection h with h
  subst h
  exact k
 | o :: r,l2,E,h,k=>by
  obtain ⟨dst,op,ty,pos,after,g⟩:=o
  cases dst with
  | none=>cases h
  | some d=>
   cases g with
   | some g=>cases h
   | none=>
    simp only [meekL] at h
    split at h
    ·rename_i t ht
     exact za ht (VX.bulk r l2 _ h k)
    ·cases h
theorem zi2 [Dr] (n : Nat) {E' : Env} {l : List Oper} (h : meekL tab (lookH H) H.length (l.take n) E = some E') (k : VX q P tab im ds (l.drop n) E' H K) : VX q P tab im ds l E H K:=by
 have:=VX.bulk (im:=im) (ds:=ds) (P:=P) (q:=q) _ _ _ h k
 rwa [List.take_append_drop] at this
theorem zbf [Dr] (n : Nat) (L : Env) {l : List Oper} (h : meekL tab (lookH H) H.length (l.take n) E = some (L ++ E)) (k : VX q P tab im ds (l.drop n) (L ++ E) H K) : VX q P tab im ds l E H K:=zi2 n h k
theorem zi1 [Dr] {t e o m w : Nat} {x ix : Operand} {i j : TyI} {cs : List T} {k : IntKind} (hT : tab t = some i) (hk : i.k = .arr w e) (hj : tab e = some j) (hx : E.opd x = some (.iptr cs o)) (hi : E.opd ix = some (.v (.int k (m : Int)))) (hm : m < w)
  (kk : VX q P tab im ds l ((d,.iptr cs (o + m * j.sz)) :: E) H K) : VX q P tab im ds (⟨some d,.indexAddr t x ix,ty,pos,after,none⟩ :: l) E H K:=by
 refine za (t:=.iptr cs (o + m * j.sz)) ?_ kk
 simp only [opM,hx,hi,mIndexAddr,hT,hk,hj]
 rw [if_pos ⟨by omega,by omega⟩];rfl
theorem zdu [Dr] {t e m w : Nat} {x ix : Operand} {i j : TyI} {cs : List T} {k : IntKind} (hT : tab t = some i) (hk : i.k = .arr w e) (hj : tab e = some j) (hg : j.k.agg = true) (hx : E.opd x = some (.agg cs)) (hi : E.opd ix = some (.v (.int k (m : Int)))) (hm : m < w) (hl : m * j.sz + j.sz≤cs.length)
  (kk : VX q P tab im ds l ((d,.agg ((cs.drop (m * j.sz)).take j.sz)) :: E) H K) : VX q P tab im ds (⟨some d,.index t x ix,ty,pos,after,none⟩ :: l) E H K:=by
 refine za (t:=.agg ((cs.drop (m * j.sz)).take j.sz)) ?_ kk
 simp only [opM,hx,hi,mIndex,hT,hk,hj]
 rw [if_pos ⟨by omega,by omega⟩]
 unfold partT
 rw [if_pos hg,Int.toNat_natCast,if_pos hl]
end
theorem v5 (a : ByteArray) : strT a.data.toList = .v (.string a):=by
 obtain ⟨d⟩:=a
 simp
theorem ev_at (n : Nat) (h1 : 1≤n) (h2 : n≤25) : ∃ a b c : List UInt8,(evCs.drop (n * 3)).take 3 = [strT a,strT b,strT c]∧mEq tab 170 (.agg [strT a,strT b,strT c]) (.agg [strT [],strT [],strT []]) = some false∧lineB b = true∧(needsE n = 0∨(fmOf (Lib.fields b)).fx.length = needsE n):=by
 have h:=List.all_eq_true.1 ev_ok (n - 1) (List.mem_range.2 (by omega))
 rw [show n - 1 + 1 = n from by omega] at h
 generalize (evCs.drop (n * 3)).take 3 = e at *
 unfold evOne at h
 split at h
 ·rename_i a b c
  simp only [Bool.and_eq_true,Bool.or_eq_true,beq_iff_eq] at h
  refine ⟨a.data.toList,b.data.toList,c.data.toList,by rw [v5,v5,v5],by rw [v5,v5,v5];exact h.1.1,h.1.2,?_⟩
  rcases h.2 with k | k
  ·exact .inl k
  ·exact .inr k
 ·cases h
noncomputable def tabL (cs : List T) (d n : Nat) : Env:=(d + n,.agg cs) :: (List.range n).reverse.map fun k=>(d + k,.agg ((cs.drop ((k + 1) * 3)).take 3))
theorem event_p (n : Nat) (h1 : 1≤n) (h2 : n≤25) : CallP Tryd.prog 88 [I64 n] (.agg ((evCs.drop (n * 3)).take 3)):=by
 obtain ⟨a,b,c,he,-,-,-⟩:=ev_at n h1 h2
 have hl:=zis
 have hpt : partT ⟨3,48,[strT [],strT [],strT []],.st [(0,9),(1,9),(2,9)],true⟩ evCs (0 + n * 3) = some (.agg [strT a,strT b,strT c]):=by
  unfold partT
  rw [if_pos (show (Kd.st [(0,9),(1,9),(2,9)]).agg = true from rfl),if_pos (by show 0 + n * 3 + 3≤_;omega),Nat.zero_add]
  exact congrArg (fun l=>some (T.agg l)) he
 rw [he]
 refine CallP.intro2 yw yw ?_;refine CallT.intro zc Tryd.func88 rfl (by kernel_rfl) (Nat.le_of_ble_eq_true rfl) ?_;refine ze zc [] rfl ?_;refine yk rfl rfl ?_;refine zb ?_;refine zo ?_;refine ze zc [] rfl ?_;iterate 3 refine za rfl ?_
 refine' zx (d:=9) [_,_,_] rfl ?_ rfl ?_
 rotate_left
 ·refine zw rfl rfl (fun hb1_2=>?_) (fun hb1_2=>?_)
  ·have ghb1_2:=hb1_2
   try simp only [zf,Bool.not_true,Bool.not_false] at ghb1_2
   refine za rfl ?_;refine zd rfl rfl hb1_2 ?_;refine za rfl ?_;refine yz rfl (fun _=>rfl) ?_;exact zb ⟨rfl,rfl⟩
  ·refine zl rfl rfl hb1_2 ?_;exact yz rfl (fun h=>absurd (h.symm.trans hb1_2) (by decide)) (zb ⟨rfl,rfl⟩)
 refine zb ?_;refine zi rfl (fun hc0=>?_) (fun hc0=>?_)
 ·exact absurd hc0 (by simp;omega)
 ·(try simp only [zf] at hc0)
  refine zt ?_;refine ze zc [] rfl ?_;refine zbf 26 (tabL evCs 11 25) ?h ?k
  case h=>kernel_rfl
  skip
  skip
  skip
  skip
  skip
  skip
  skip
  skip
  skip
  skip
  skip
  skip
  skip
  skip
  skip
  skip
  skip
  skip
  skip
  skip
  skip
  skip
  skip
  skip
  skip
  refine yk rfl rfl ?_;refine zp rfl rfl rfl rfl yj (Nat.le_of_ble_eq_true yj) yj ?_;refine zb ?_;refine z7 ([(2,.ptr 0 0),(3,.iptr evCs 0)]) ([.c [strT [],strT [],strT []]]) [0] rfl (by refine ⟨[some 0],rfl,yb,ya,?_,?_⟩ <;> (repeat' first | exact trivial | exact yc | exact yd | exact z9 rfl | refine zn ?_ ?_ | refine zk rfl ?_ ?_ | refine zj ?_ ?_ | refine ye rfl ?_ | fail) <;> first | exact yv | (first | exact CvL.pure rfl | exact Cv.fptr ⟨rfl,(show some 1∉[some 0] by simp)⟩ (CvL.eq yj zg8))) ?_
  refine ze zc [] rfl ?_;refine za rfl ?_;refine zi1 rfl rfl rfl rfl rfl zu ?_;refine zm rfl rfl hpt ?_;refine zp rfl rfl rfl rfl rfl xf rfl ?_;refine zb ?_;refine yr ?_;exact ⟨trivial,_,rfl,Cv.eq (by first | rfl | (simp [*];done)) rfl⟩
end

section
open Go.RowKit
set_option maxRecDepth 100000
set_option maxHeartbeats 2000000
section
variable {q : Bool} {P : Program} {tab : Tab} {im : List Nat} {ds : List (Option Nat)} {l : List Oper} {E : Env} {H : Hp} {K : Env→Hp→Prop} {d : Nat} {ty : TypeId} {pos : String} {after : Array Edge}
theorem zdv [Dr] {x y : Operand} {t t2 : Nat} (xs ys : List T) {r : Bool} (hx : E.opd x = some (.agg xs)) (hy : E.opd y = some (.agg ys)) (h : mEq tab t (.agg xs) (.agg ys) = some r) (k : VX q P tab im ds l ((d,BL r) :: E) H K) : VX q P tab im ds (⟨some d,.binOp .eql t x y t2,ty,pos,after,none⟩ :: l) E H K:=by
 refine za (t:=BL r) ?_ k
 simp only [opM,hx,hy,mBin,h]
end
theorem zg1 (m : Fm) : T.pureL [cIf m.fx,BL m.b,I64 m.l] = true:=by simp only [T.pureL,T.pure,zg];rfl
abbrev fm0 : Fm:=⟨[],false,0⟩
theorem eventX (n : Nat) (h1 : 1≤n) (h2 : n≤25) : ∃ m : Fm,CallP Tryd.prog 63 [I64 n] (.tup [fmT m,BL true])∧(needsE n = 0∨m.fx.length = needsE n):=by
 obtain ⟨a,b,c,he,heq,hb,hn⟩:=ev_at n h1 h2
 have hev:=event_p n h1 h2
 rw [he] at hev
 have hfo:=zjj b hb
 refine ⟨fmOf (Lib.fields b),?_,hn⟩
 have hpu:=zg cI (fmOf (Lib.fields b)).fx
 refine CallP.intro2 yw yw ?_;refine CallT.intro zc Tryd.func63 rfl (by kernel_rfl) (Nat.le_of_ble_eq_true rfl) ?_;refine ze zc [] rfl ?_;refine yk rfl rfl ?_;refine za rfl ?_;refine zb ?_;refine ze zc [] rfl ?_;refine za rfl ?_;refine z6 rfl rfl rfl (hev) ?_;refine yk rfl rfl ?_;refine zp rfl rfl rfl rfl rfl xf rfl ?_;refine zb ?_;refine zo ?_;refine ze zc [] rfl ?_;iterate 2 refine za rfl ?_
 refine zdv [strT a,strT b,strT c] [strT [],strT [],strT []] rfl rfl heq ?_;refine zb ?_;refine yq rfl ?_;refine zt ?_;refine ze zc [] rfl ?_;iterate 2 refine za rfl ?_
 refine z6 rfl rfl rfl (hfo) ?_;refine zp rfl rfl rfl rfl rfl xf rfl ?_;refine za rfl ?_;refine zb ?_;refine yr ?_;exact ⟨trivial,_,rfl,Cv.tup (CvL.cons (Cv.agg (CvL.eq rfl (zg1 _))) (CvL.cons (Cv.pure rfl) CvL.nil))⟩
theorem eventN (code : Int) (h : code < 1∨25 < code) : CallP Tryd.prog 63 [I64 code] (.tup [fmT fm0,BL false]):=by
 have hev : CallP Tryd.prog 88 [I64 code] (.agg [strT [],strT [],strT []]):=by
  refine CallP.intro2 yw yw ?_;refine CallT.intro zc Tryd.func88 rfl (by kernel_rfl) (Nat.le_of_ble_eq_true rfl) ?_;refine ze zc [] rfl ?_;refine yk rfl rfl ?_;refine zb ?_;refine zo ?_;refine ze zc [] rfl ?_;iterate 3 refine za rfl ?_
  refine' zx (d:=9) [_,_,_] rfl ?_ rfl ?_
  rotate_left
  ·refine zw rfl rfl (fun hb1_2=>?_) (fun hb1_2=>?_)
   ·have ghb1_2:=hb1_2
    try simp only [zf,Bool.not_true,Bool.not_false] at ghb1_2
    refine za rfl ?_;refine zd rfl rfl hb1_2 ?_;refine za rfl ?_;refine yz rfl (fun _=>rfl) ?_;exact zb ⟨rfl,rfl⟩
   ·refine zl rfl rfl hb1_2 ?_;exact yz rfl (fun h=>absurd (h.symm.trans hb1_2) (by decide)) (zb ⟨rfl,rfl⟩)
  refine zb ?_;refine zi rfl (fun hc0=>?_) (fun hc0=>?_)
  ·(try simp only [zf] at hc0)
   refine ze zc [] rfl ?_;refine za rfl ?_;refine zp rfl rfl rfl rfl rfl xf rfl ?_;refine zb ?_;refine yr ?_;exact ⟨trivial,_,rfl,Cv.eq (by first | rfl | (simp [*];done)) rfl⟩
  ·exact absurd hc0 (by simp;omega)
 refine CallP.intro2 yw yw ?_;refine CallT.intro zc Tryd.func63 rfl (by kernel_rfl) (Nat.le_of_ble_eq_true rfl) ?_;refine ze zc [] rfl ?_;refine yk rfl rfl ?_;refine za rfl ?_;refine zb ?_;refine ze zc [] rfl ?_;refine za rfl ?_;refine z6 rfl rfl rfl (hev) ?_;refine yk rfl rfl ?_;refine zp rfl rfl rfl rfl rfl xf rfl ?_;refine zb ?_;refine zo ?_;refine ze zc [] rfl ?_;iterate 2 refine za rfl ?_
 refine zdv [strT [],strT [],strT []] [strT [],strT [],strT []] (r:=true) rfl rfl yj ?_;refine zb ?_;refine xv rfl ?_;refine ze zc [] rfl ?_;refine za rfl ?_;refine zp rfl rfl rfl rfl rfl xf rfl ?_;refine za rfl ?_;refine zb ?_;refine yr ?_;exact ⟨trivial,_,rfl,Cv.tup (CvL.cons (Cv.agg (CvL.cons (Cv.nil _ (.inl rfl)) (CvL.pure rfl))) (CvL.cons (Cv.pure rfl) CvL.nil))⟩
theorem zg6 (code : Int) : ∃ (m : Fm) (ok : Bool),CallP Tryd.prog 63 [I64 code] (.tup [fmT m,BL ok])∧(needsE code≠0→ok = true∧m.fx.length = needsE code):=by
 by_cases h : code < 1∨25 < code
 ·refine ⟨fm0,false,eventN code h,fun hn=>absurd ?_ hn⟩
  unfold needsE
  repeat rw [if_neg (by omega)]
 ·obtain ⟨n,rfl⟩:=Int.eq_ofNat_of_zero_le (show 0≤code by omega)
  obtain ⟨m,h1,h2⟩:=eventX n (by omega) (by omega)
  exact ⟨m,true,h1,fun hn=>⟨rfl,h2.resolve_left hn⟩⟩
noncomputable def tabA (cs : List T) (a d n : Nat) : Env:=(d + n,.agg cs) :: (List.range n).reverse.map fun k=>(d + k,.agg ((cs.drop ((a + k) * 3)).take 3))
theorem early_p : CallP Tryd.prog 118 [] (.agg rqA):=by
 have hpu:=zc0
 refine CallP.intro2 yw yw ?_;refine CallT.intro zc Tryd.func118 rfl (by kernel_rfl) (Nat.le_of_ble_eq_true rfl) ?_;refine ze zc [] rfl ?_;refine yk rfl rfl ?_;refine zb ?_;refine ze zc [] rfl ?_;refine zbf 30 (tabA rqA 1 1 29) ?h ?k
 case h=>kernel_rfl
 skip
 skip
 skip
 skip
 skip
 skip
 skip
 skip
 skip
 skip
 skip
 skip
 skip
 skip
 skip
 skip
 skip
 skip
 skip
 skip
 skip
 skip
 skip
 skip
 skip
 skip
 skip
 skip
 skip
 refine zp rfl rfl rfl rfl yj (Nat.le_of_ble_eq_true yj) yj ?_;refine zb ?_;refine yr ?_;exact ⟨trivial,_,rfl,Cv.agg (CvL.eq (by kernel_rfl) zc0)⟩
theorem late_p : CallP Tryd.prog 119 [] (.agg rqB):=by
 have hpu:=zcz
 refine CallP.intro2 yw yw ?_;refine CallT.intro zc Tryd.func119 rfl (by kernel_rfl) (Nat.le_of_ble_eq_true rfl) ?_;refine ze zc [] rfl ?_;refine yk rfl rfl ?_;refine zb ?_;refine ze zc [] rfl ?_;refine zbf 30 (tabA rqB 30 1 29) ?h ?k
 case h=>kernel_rfl
 skip
 skip
 skip
 skip
 skip
 skip
 skip
 skip
 skip
 skip
 skip
 skip
 skip
 skip
 skip
 skip
 skip
 skip
 skip
 skip
 skip
 skip
 skip
 skip
 skip
 skip
 skip
 skip
 skip
 refine zp rfl rfl rfl rfl yj (Nat.le_of_ble_eq_true yj) yj ?_;refine zb ?_;refine yr ?_;exact ⟨trivial,_,rfl,Cv.agg (CvL.eq (by kernel_rfl) zcz)⟩
theorem rq_at (cs : List T) (a m : Nat) (hc : rqChk cs a m = true) (n : Nat) (h1 : a≤n) (h2 : n < a + m) : ∃ x b c : List UInt8,(cs.drop (n * 3)).take 3 = [strT x,strT b,strT c]∧((c = []∧needsR n = 0)∨(c≠[]∧lineB c = true∧(needsR n = 0∨(fmOf (Lib.fields c)).fx.length = needsR n))):=by
 have h:=List.all_eq_true.1 hc (n - a) (List.mem_range.2 (by omega))
 rw [show a + (n - a) = n from by omega] at h
 generalize (cs.drop (n * 3)).take 3 = e at *
 unfold rqOne at h
 split at h
 ·rename_i x b c
  simp only [Bool.and_eq_true,Bool.or_eq_true,beq_iff_eq,Bool.not_eq_true',beq_eq_false_iff_ne] at h
  refine ⟨x.data.toList,b.data.toList,c.data.toList,by rw [v5,v5,v5],?_⟩
  rcases h with k | k
  ·exact .inl k
  ·exact .inr ⟨k.2,k.1.1,k.1.2⟩
 ·cases h
theorem zfx (n : Nat) (h1 : 1≤n) (h2 : n≤58) : ∃ x b c : List UInt8,CallP Tryd.prog 83 [I64 n] (.agg [strT x,strT b,strT c])∧((c = []∧needsR n = 0)∨(c≠[]∧lineB c = true∧(needsR n = 0∨(fmOf (Lib.fields c)).fx.length = needsR n))):=by
 by_cases hs : n≤29
 ·obtain ⟨x,b,c,he,hk⟩:=rq_at rqA 1 29 rqA_ok n h1 (by omega)
  refine ⟨x,b,c,?_,hk⟩
  have hA:=early_p
  have hl:=zj6
  refine CallP.intro2 yw yw ?_;refine CallT.intro zc Tryd.func83 rfl (by kernel_rfl) (Nat.le_of_ble_eq_true rfl) ?_;refine ze zc [] rfl ?_;refine yk rfl rfl ?_;refine zb ?_;refine zo ?_;refine yf ?_;refine ze zc [] rfl ?_;iterate 3 refine za rfl ?_
  refine' zx (d:=9) [_,_,_] rfl ?_ rfl ?_
  rotate_left
  ·refine zw rfl rfl (fun hb1_2=>?_) (fun hb1_2=>?_)
   ·have ghb1_2:=hb1_2
    try simp only [zf,Bool.not_true,Bool.not_false] at ghb1_2
    refine za rfl ?_;refine zd rfl rfl hb1_2 ?_;refine za rfl ?_;refine yz rfl (fun _=>rfl) ?_;exact zb ⟨rfl,rfl⟩
   ·refine zl rfl rfl hb1_2 ?_;exact yz rfl (fun h=>absurd (h.symm.trans hb1_2) (by decide)) (zb ⟨rfl,rfl⟩)
  refine za rfl ?_;refine zb ?_;refine zi rfl (fun hc0=>?_) (fun hc0=>?_)
  ·exact absurd hc0 (by simp;omega)
  ·(try simp only [zf] at hc0)
   refine ze zc [] rfl ?_;iterate 3 refine za rfl ?_
   refine zb ?_;refine zi rfl (fun hc1=>?_) (fun hc1=>?_)
   ·(try simp only [zf] at hc1)
    refine ze zc [] rfl ?_;refine z6 rfl rfl rfl (hA) ?_;refine za rfl ?_;refine zdu rfl rfl rfl rfl rfl rfl zu (by show n * 3 + 3≤_;omega) ?_;rw [show (rqA.drop (n * _)).take _ = [strT x,strT b,strT c] from he]
    refine zp rfl rfl rfl rfl rfl xf rfl ?_;refine zb ?_;refine yr ?_;exact ⟨trivial,_,rfl,Cv.eq (by first | rfl | (simp [*];done)) rfl⟩
   ·exact absurd hc1 (by simp;omega)
 ·obtain ⟨x,b,c,he,hk⟩:=rq_at rqB 30 29 rqB_ok n (by omega) (by omega)
  refine ⟨x,b,c,?_,hk⟩
  have hB:=late_p
  have hl:=zj5
  refine CallP.intro2 yw yw ?_;refine CallT.intro zc Tryd.func83 rfl (by kernel_rfl) (Nat.le_of_ble_eq_true rfl) ?_;refine ze zc [] rfl ?_;refine yk rfl rfl ?_;refine zb ?_;refine zo ?_;refine yf ?_;refine ze zc [] rfl ?_;iterate 3 refine za rfl ?_
  refine' zx (d:=9) [_,_,_] rfl ?_ rfl ?_
  rotate_left
  ·refine zw rfl rfl (fun hb1_2=>?_) (fun hb1_2=>?_)
   ·have ghb1_2:=hb1_2
    try simp only [zf,Bool.not_true,Bool.not_false] at ghb1_2
    refine za rfl ?_;refine zd rfl rfl hb1_2 ?_;refine za rfl ?_;refine yz rfl (fun _=>rfl) ?_;exact zb ⟨rfl,rfl⟩
   ·refine zl rfl rfl hb1_2 ?_;exact yz rfl (fun h=>absurd (h.symm.trans hb1_2) (by decide)) (zb ⟨rfl,rfl⟩)
  refine za rfl ?_;refine zb ?_;refine zi rfl (fun hc0=>?_) (fun hc0=>?_)
  ·exact absurd hc0 (by simp;omega)
  ·(try simp only [zf] at hc0)
   refine ze zc [] rfl ?_;iterate 3 refine za rfl ?_
   refine zb ?_;refine zi rfl (fun hc1=>?_) (fun hc1=>?_)
   ·exact absurd hc1 (by simp;omega)
   ·(try simp only [zf] at hc1)
    refine zt ?_;refine ze zc [] rfl ?_;refine z6 rfl rfl rfl (hB) ?_;refine za rfl ?_;refine zdu rfl rfl rfl rfl rfl rfl zu (by show n * 3 + 3≤_;omega) ?_;rw [show (rqB.drop (n * _)).take _ = [strT x,strT b,strT c] from he]
    refine zp rfl rfl rfl rfl rfl xf rfl ?_;refine zb ?_;refine yr ?_;exact ⟨trivial,_,rfl,Cv.eq (by first | rfl | (simp [*];done)) rfl⟩
theorem replyX (code : Int) (x b c : List UInt8) (h : CallP Tryd.prog 83 [I64 code] (.agg [strT x,strT b,strT c])) (hl : c≠[]→lineB c = true) :
  CallP Tryd.prog 61 [I64 code] (.tup [fmT (if c = [] then fm0 else fmOf (Lib.fields c)),BL (c != [])]):=by
 by_cases hc : c = []
 ·subst hc
  rw [if_pos rfl]
  refine CallP.intro2 yw yw ?_;refine CallT.intro zc Tryd.func61 rfl (by kernel_rfl) (Nat.le_of_ble_eq_true rfl) ?_;refine ze zc [] rfl ?_;refine yk rfl rfl ?_;refine za rfl ?_;refine zb ?_;refine ze zc [] rfl ?_;refine za rfl ?_;refine z6 rfl rfl rfl (h) ?_;refine yk rfl rfl ?_;refine zp rfl rfl rfl rfl rfl xf rfl ?_;refine zb ?_;refine zo ?_;refine ze zc [] rfl ?_;iterate 2 refine za rfl ?_
  refine rh rfl rfl ?_;refine zb ?_;refine xv rfl ?_;refine ze zc [] rfl ?_;refine za rfl ?_;refine zp rfl rfl rfl rfl rfl xf rfl ?_;refine za rfl ?_;refine zb ?_;refine yr ?_;exact ⟨trivial,_,rfl,Cv.tup (CvL.cons (Cv.agg (CvL.cons (Cv.nil _ (.inl rfl)) (CvL.pure rfl))) (CvL.cons (Cv.pure rfl) CvL.nil))⟩
 ·rw [if_neg hc]
  have hfo:=zjj c (hl hc)
  have hb : (c == []) = false:=beq_eq_false_iff_ne.2 hc
  have hb2 : (c != []) = true:=by rw [bne,hb];rfl
  rw [hb2]
  refine CallP.intro2 yw yw ?_;refine CallT.intro zc Tryd.func61 rfl (by kernel_rfl) (Nat.le_of_ble_eq_true rfl) ?_;refine ze zc [] rfl ?_;refine yk rfl rfl ?_;refine za rfl ?_;refine zb ?_;refine ze zc [] rfl ?_;refine za rfl ?_;refine z6 rfl rfl rfl (h) ?_;refine yk rfl rfl ?_;refine zp rfl rfl rfl rfl rfl xf rfl ?_;refine zb ?_;refine zo ?_;refine ze zc [] rfl ?_;iterate 2 refine za rfl ?_
  refine rh rfl rfl ?_;rw [hb]
  refine zb ?_;refine yq rfl ?_;refine zt ?_;refine ze zc [] rfl ?_;iterate 2 refine za rfl ?_
  refine z6 rfl rfl rfl (hfo) ?_;refine zp rfl rfl rfl rfl rfl xf rfl ?_;refine za rfl ?_;refine zb ?_;refine yr ?_;exact ⟨trivial,_,rfl,Cv.tup (CvL.cons (Cv.agg (CvL.eq rfl (zg1 _))) (CvL.cons (Cv.pure rfl) CvL.nil))⟩
theorem zfy (code : Int) : ∃ (m : Fm) (ok : Bool),CallP Tryd.prog 61 [I64 code] (.tup [fmT m,BL ok])∧(code = 9→ok = true∧m.fx.length = 7)∧(code = 15→ok = true∧m.fx.length = 3):=by
 by_cases h : code < 1∨58 < code
 ·have hr : CallP Tryd.prog 83 [I64 code] (.agg [strT [],strT [],strT []]):=by
   refine CallP.intro2 yw yw ?_;refine CallT.intro zc Tryd.func83 rfl (by kernel_rfl) (Nat.le_of_ble_eq_true rfl) ?_;refine ze zc [] rfl ?_;refine yk rfl rfl ?_;refine zb ?_;refine zo ?_;refine yf ?_;refine ze zc [] rfl ?_;iterate 3 refine za rfl ?_
   refine' zx (d:=9) [_,_,_] rfl ?_ rfl ?_
   rotate_left
   ·refine zw rfl rfl (fun hb1_2=>?_) (fun hb1_2=>?_)
    ·have ghb1_2:=hb1_2
     try simp only [zf,Bool.not_true,Bool.not_false] at ghb1_2
     refine za rfl ?_;refine zd rfl rfl hb1_2 ?_;refine za rfl ?_;refine yz rfl (fun _=>rfl) ?_;exact zb ⟨rfl,rfl⟩
    ·refine zl rfl rfl hb1_2 ?_;exact yz rfl (fun h=>absurd (h.symm.trans hb1_2) (by decide)) (zb ⟨rfl,rfl⟩)
   refine za rfl ?_;refine zb ?_;refine zi rfl (fun hc0=>?_) (fun hc0=>?_)
   ·(try simp only [zf] at hc0)
    refine ze zc [] rfl ?_;refine za rfl ?_;refine zp rfl rfl rfl rfl rfl xf rfl ?_;refine zb ?_;refine yr ?_;exact ⟨trivial,_,rfl,Cv.eq (by first | rfl | (simp [*];done)) rfl⟩
   ·exact absurd hc0 (by simp;omega)
  exact ⟨fm0,false,replyX code [] [] [] hr (fun k=>absurd rfl k),fun k=>by omega,fun k=>by omega⟩
 ·obtain ⟨n,rfl⟩:=Int.eq_ofNat_of_zero_le (show 0≤code by omega)
  obtain ⟨x,b,c,hr,hk⟩:=zfx n (by omega) (by omega)
  refine ⟨_,_,replyX n x b c hr (fun k=>by rcases hk with ⟨k1,-⟩ | ⟨-,k2,-⟩;exact absurd k1 k;exact k2),fun k=>?_,fun k=>?_⟩
  ·have hn : n = 9:=by omega
   subst hn
   rcases hk with ⟨-,k2⟩ | ⟨k1,-,k3⟩
   ·cases k2
   ·rw [if_neg k1]
    exact ⟨by simpa using k1,k3.resolve_left (by decide)⟩
  ·have hn : n = 15:=by omega
   subst hn
   rcases hk with ⟨-,k2⟩ | ⟨k1,-,k3⟩
   ·cases k2
   ·rw [if_neg k1]
    exact ⟨by simpa using k1,k3.resolve_left (by decide)⟩
end

section
open Go.RowKit
set_option maxRecDepth 10000
set_option maxHeartbeats 1000000
theorem zal {α : Type} : ∀ {l : List α} {i : Nat} {e : α},l[i]? = some e→(e :: l.eraseIdx i).Perm l
 | [],_,_,h=>by simp at h
 | a :: l,0,e,h=>by simp at h;subst h;exact .refl _
 | a :: l,i + 1,e,h=>by
  simp at h
  rw [List.eraseIdx_cons_succ]
  exact (List.Perm.swap a e _).trans ((zal h).cons a)
theorem qt {α : Type} {D R F : List α} {i : Nat} {e : α} (h : R[i]? = some e) (hp : (D ++ R).Perm F) : ((D ++ [e]) ++ R.eraseIdx i).Perm F:=by
 rw [List.append_assoc]
 exact ((zal h).append_left D).trans hp
theorem zc3 {α : Type} {D R F : List (Int × α)} {i : Nat} {e : Int × α} (h : R[i]? = some e) (hp : (D ++ R).Perm F) (hn : (F.map Prod.fst).Nodup) : e.1∉D.map Prod.fst:=by
 have h1 : ((D ++ R).map Prod.fst).Nodup:=(hp.map Prod.fst).nodup_iff.2 hn
 rw [List.map_append,List.nodup_append] at h1
 exact fun k=>h1.2.2 _ k _ (List.mem_map.2 ⟨e,v4 h,rfl⟩) rfl
theorem permF {D F : List (Int × Fr)} (h : D.Perm F) : mapP (kF D) (tF D) = mapP (kF F) (tF F):=by
 refine zbr (by simp) (by simp) ?_;rw [kF,tF,kF,tF,List.zip_map',List.zip_map']
 exact h.map _
theorem permW {D F : List (Int × Wt)} (h : D.Perm F) : mapP (kF D) (tW D) = mapP (kF F) (tW F):=by
 refine zbr (by simp) (by simp) ?_;rw [kF,tW,kF,tW,List.zip_map',List.zip_map']
 exact h.map _
theorem copyF_t (F : List (Int × Fr)) (hn : (F.map Prod.fst).Nodup) : CallT Tryd.prog 58 [.om 0,.mp (kF F) (tF F)] [.o (mapP [] [])] (fun t H'=>t = .tup []∧∃ p : OP,p.pi = true∧H' = [.o (mapP (kF F) (tF F)),.o p]):=by
 have hpi0 : (iterP none (kF F) (tF F)).pi = true:=by show (T.pureL (tF F) && true) = true;rw [pF];rfl
 have hpu:=pF F
 have hpD0:=piF []
 refine CallT.intro zc Tryd.func58 rfl (by kernel_rfl) (Nat.le_of_ble_eq_true rfl) ?_;refine ze zc [] rfl ?_;refine za rfl ?_;refine tg zc rfl rfl rfl (.inl rfl) ?_;refine zb ?_;refine yf ?_;refine vy (σ1:=List (Int × Fr)) (σ2:=List (Int × Fr)) (σ3:=Option (Value × T)) (fun R _ _=>R.length) (fun R D c=>(D ++ R).Perm F∧(iterP c (kF R) (tF R)).pi = true) (fun _ _ _=>[(7,.ptr 1 0),(0,.om 0)]) (fun R D c=>[.o (mapP (kF D) (tF D)),.o (iterP c (kF R) (tF R))]) [] rfl (F) ([]) (none) ?_ ?_ ?_
 ·refine ⟨[some 0,some 1],rfl,yb,ya,?_,?_⟩ <;> (repeat' first | exact trivial | exact yc | exact yd | exact z9 rfl | refine zn ?_ ?_ | refine zk rfl ?_ ?_ | refine zj ?_ ?_ | refine ye rfl ?_ | fail) <;> first | exact yv | (skip)
 ·exact ⟨.refl _,hpi0⟩
 rintro R D c ⟨hp,hpi⟩;refine ze zc [] rfl ?_;refine sk rfl rfl (fun hz1=>?_) (fun i1 k1 t1 hk1 ht1=>?_)
 ·have hRn : R = []:=(by simpa using hz1)
  refine za rfl ?_;refine zb ?_;refine zo ?_;refine yq rfl ?_;refine y7 ?_;subst hRn;exact ⟨trivial,_,rfl,rfl,_,hpi,by rw [List.append_nil] at hp;exact congrArg (fun p=>([.o p,_] : Hp)) (permF hp)⟩
 ·obtain ⟨e,he,rfl⟩:=zgu hk1;obtain rfl:=zjt he ht1;rw [show (kF R).eraseIdx i1 = kF (R.eraseIdx i1) from (xp _ _ _).symm,show (tF R).eraseIdx i1 = tF (R.eraseIdx i1) from (xp _ _ _).symm]
  have hlen : (R.eraseIdx i1).length < R.length:=(by have:=(List.getElem?_eq_some_iff.1 he).1;rw [List.length_eraseIdx_of_lt this];omega)
  have hpi1 : (iterP (some (Value.int .i64 e.1,frT e.2)) (kF (R.eraseIdx i1)) (tF (R.eraseIdx i1))).pi = true:=(by show (T.pureL (tF _) && true) = true;rw [pF];rfl)
  have hpD1:=piF (D ++ [e])
  refine za rfl ?_;refine zb ?_;refine zo ?_;refine xv rfl ?_;refine zt ?_;refine yf ?_;refine ze zc [] rfl ?_;refine ri rfl rfl ?_;iterate 2 refine za rfl ?_
  refine yk rfl rfl ?_;refine za rfl ?_;refine zp rfl rfl rfl rfl rfl xf rfl ?_;refine zb ?_;refine z4 zc [] rfl ?_;iterate 3 refine za rfl ?_
  refine u1 zc rfl rfl rfl rfl rfl rfl rfl (show _ = some (frT e.2) from rfl) (by exact likeF _ _) (keyNew (zc3 he hp hn)) ?_;rw [addF D e.1 e.2]
  refine zb ?_;refine ⟨R.eraseIdx i1,D ++ [e],some (Value.int .i64 e.1,frT e.2),by (try dsimp only);omega,?_,(by refine ⟨[some 0,some 1],rfl,yb,ya,?_,?_⟩ <;> (repeat' first | exact trivial | exact yc | exact yd | exact z9 rfl | refine zn ?_ ?_ | refine zk rfl ?_ ?_ | refine zj ?_ ?_ | refine ye rfl ?_ | fail) <;> first | exact yv | (fail))⟩
  exact ⟨qt he hp,hpi1⟩
theorem ziv : CallT Tryd.prog 58 [.om 0,.v (.map none)] [.o (mapP [] [])] (fun t H'=>t = .tup []∧∃ p : OP,p.pi = true∧H' = [.o (mapP [] []),.o p]):=by
 refine CallT.intro zc Tryd.func58 rfl (by kernel_rfl) (Nat.le_of_ble_eq_true rfl) ?_;refine ze zc [] rfl ?_;refine za rfl ?_;refine tg zc rfl rfl rfl (.inr ⟨rfl,rfl,rfl⟩) ?_;refine zb ?_;refine yf ?_;refine xo (σ:=Nat) (fun k=>1 - k) (fun k=>k≤0) (fun _=>[(7,.ptr 1 0),(0,.om 0)]) (fun _=>[.o (mapP [] []),.o (iterP none [] [])]) [] rfl (0) ?_ ?_ ?_
 ·refine ⟨[some 0,some 1],rfl,yb,ya,?_,?_⟩ <;> (repeat' first | exact trivial | exact yc | exact yd | exact z9 rfl | refine zn ?_ ?_ | refine zk rfl ?_ ?_ | refine zj ?_ ?_ | refine ye rfl ?_ | fail) <;> first | exact yv | (skip)
 ·(try dsimp only);omega
 rintro k hk;refine ze zc [] rfl ?_;refine sk rfl rfl (fun hz1=>?_) (fun i1 k1 t1 hk1 ht1=>?_)
 ·skip
  refine za rfl ?_;refine zb ?_;refine zo ?_;refine yq rfl ?_;refine y7 ?_;exact ⟨trivial,_,rfl,rfl,_,rfl,rfl⟩
 ·exact absurd hk1 (by simp)
theorem copyW_t (F : List (Int × Wt)) (hn : (F.map Prod.fst).Nodup) : CallT Tryd.prog 59 [.om 0,.mp (kF F) (tW F)] [.o (mapP [] [])] (fun t H'=>t = .tup []∧∃ p : OP,p.pi = true∧H' = [.o (mapP (kF F) (tW F)),.o p]):=by
 have hpi0 : (iterP none (kF F) (tW F)).pi = true:=by show (T.pureL (tW F) && true) = true;rw [pW];rfl
 have hpu:=pW F
 have hpD0:=piW []
 refine CallT.intro zc Tryd.func59 rfl (by kernel_rfl) (Nat.le_of_ble_eq_true rfl) ?_;refine ze zc [] rfl ?_;refine za rfl ?_;refine tg zc rfl rfl rfl (.inl rfl) ?_;refine zb ?_;refine yf ?_;refine vy (σ1:=List (Int × Wt)) (σ2:=List (Int × Wt)) (σ3:=Option (Value × T)) (fun R _ _=>R.length) (fun R D c=>(D ++ R).Perm F∧(iterP c (kF R) (tW R)).pi = true) (fun _ _ _=>[(7,.ptr 1 0),(0,.om 0)]) (fun R D c=>[.o (mapP (kF D) (tW D)),.o (iterP c (kF R) (tW R))]) [] rfl (F) ([]) (none) ?_ ?_ ?_
 ·refine ⟨[some 0,some 1],rfl,yb,ya,?_,?_⟩ <;> (repeat' first | exact trivial | exact yc | exact yd | exact z9 rfl | refine zn ?_ ?_ | refine zk rfl ?_ ?_ | refine zj ?_ ?_ | refine ye rfl ?_ | fail) <;> first | exact yv | (skip)
 ·exact ⟨.refl _,hpi0⟩
 rintro R D c ⟨hp,hpi⟩;refine ze zc [] rfl ?_;refine sk rfl rfl (fun hz1=>?_) (fun i1 k1 t1 hk1 ht1=>?_)
 ·have hRn : R = []:=(by simpa using hz1)
  refine za rfl ?_;refine zb ?_;refine zo ?_;refine yq rfl ?_;refine y7 ?_;subst hRn;exact ⟨trivial,_,rfl,rfl,_,hpi,by rw [List.append_nil] at hp;exact congrArg (fun p=>([.o p,_] : Hp)) (permW hp)⟩
 ·obtain ⟨e,he,rfl⟩:=zgu hk1;obtain rfl:=tW_at he ht1;rw [show (kF R).eraseIdx i1 = kF (R.eraseIdx i1) from (xp _ _ _).symm,show (tW R).eraseIdx i1 = tW (R.eraseIdx i1) from (xp _ _ _).symm]
  have hlen : (R.eraseIdx i1).length < R.length:=(by have:=(List.getElem?_eq_some_iff.1 he).1;rw [List.length_eraseIdx_of_lt this];omega)
  have hpi1 : (iterP (some (Value.int .i64 e.1,wtT e.2)) (kF (R.eraseIdx i1)) (tW (R.eraseIdx i1))).pi = true:=(by show (T.pureL (tW _) && true) = true;rw [pW];rfl)
  have hpD1:=piW (D ++ [e])
  refine za rfl ?_;refine zb ?_;refine zo ?_;refine xv rfl ?_;refine zt ?_;refine yf ?_;refine ze zc [] rfl ?_;refine ri rfl rfl ?_;iterate 2 refine za rfl ?_
  refine yk rfl rfl ?_;refine za rfl ?_;refine zp rfl rfl rfl rfl rfl xf rfl ?_;refine zb ?_;refine z4 zc [] rfl ?_;iterate 3 refine za rfl ?_
  refine u1 zc rfl rfl rfl rfl rfl rfl rfl (show _ = some (wtT e.2) from rfl) (by exact likeF _ _) (keyNew (zc3 he hp hn)) ?_;rw [addW D e.1 e.2]
  refine zb ?_;refine ⟨R.eraseIdx i1,D ++ [e],some (Value.int .i64 e.1,wtT e.2),by (try dsimp only);omega,?_,(by refine ⟨[some 0,some 1],rfl,yb,ya,?_,?_⟩ <;> (repeat' first | exact trivial | exact yc | exact yd | exact z9 rfl | refine zn ?_ ?_ | refine zk rfl ?_ ?_ | refine zj ?_ ?_ | refine ye rfl ?_ | fail) <;> first | exact yv | (fail))⟩
  exact ⟨qt he hp,hpi1⟩
theorem ziu : CallT Tryd.prog 59 [.om 0,.v (.map none)] [.o (mapP [] [])] (fun t H'=>t = .tup []∧∃ p : OP,p.pi = true∧H' = [.o (mapP [] []),.o p]):=by
 refine CallT.intro zc Tryd.func59 rfl (by kernel_rfl) (Nat.le_of_ble_eq_true rfl) ?_;refine ze zc [] rfl ?_;refine za rfl ?_;refine tg zc rfl rfl rfl (.inr ⟨rfl,rfl,rfl⟩) ?_;refine zb ?_;refine yf ?_;refine xo (σ:=Nat) (fun k=>1 - k) (fun k=>k≤0) (fun _=>[(7,.ptr 1 0),(0,.om 0)]) (fun _=>[.o (mapP [] []),.o (iterP none [] [])]) [] rfl (0) ?_ ?_ ?_
 ·refine ⟨[some 0,some 1],rfl,yb,ya,?_,?_⟩ <;> (repeat' first | exact trivial | exact yc | exact yd | exact z9 rfl | refine zn ?_ ?_ | refine zk rfl ?_ ?_ | refine zj ?_ ?_ | refine ye rfl ?_ | fail) <;> first | exact yv | (skip)
 ·(try dsimp only);omega
 rintro k hk;refine ze zc [] rfl ?_;refine sk rfl rfl (fun hz1=>?_) (fun i1 k1 t1 hk1 ht1=>?_)
 ·skip
  refine za rfl ?_;refine zb ?_;refine zo ?_;refine yq rfl ?_;refine y7 ?_;exact ⟨trivial,_,rfl,rfl,_,rfl,rfl⟩
 ·exact absurd hk1 (by simp)
end

section
open Go.RowKit
set_option maxRecDepth 10000
set_option maxHeartbeats 2000000
abbrev NILM : T:=.v (.map none)
def mpF (m : Mg) : T:=if m.fresh then NILM else .mp (kF m.F) (tF m.F)
def mpW (m : Mg) : T:=if m.fresh then NILM else .mp (kF m.W) (tW m.W)
theorem xn (m : Mg) : (mpF m).pure = true:=by unfold mpF;split;rfl;exact pF m.F
theorem xm (m : Mg) : (mpW m).pure = true:=by unfold mpW;split;rfl;exact pW m.W
abbrev mgC (m : Mg) : List T:=[.v (.int .u32 m.base),I64 m.cnt,I64 m.made,I64 m.w,I64 m.h,mpF m,mpW m,BL m.on,I64 m.df,I64 m.dx,I64 m.dy]
abbrev mgT (m : Mg) : T:=.agg (mgC m)
theorem xk (m : Mg) : T.pureL (mgC m) = true:=by
 have h1:=xn m
 have h2:=xm m
 show (true && (true && (true && (true && (true && ((mpF m).pure && ((mpW m).pure && (true && (true && (true && (true && true))))))))))) = true
 rw [h1,h2];rfl
/- a new manager's turn: without maps -/
abbrev tn0C (m : Mg) (a : T) : List T:=[.v (.int .u32 m.base),I64 m.cnt,I64 m.made,I64 m.w,I64 m.h,NILM,NILM,BL m.on,I64 m.df,I64 m.dx,I64 m.dy,a]
theorem zfg (m : Mg) (b : List UInt8) (code r : Int) (n : List Int) (c : Option Nat) (l : List Rq) (hn : n.length≤100) (hl : l.length≤100) (hc : 0≤m.cnt∧m.cnt≤2000000) :
  CallT Tryd.prog 55 [.ptr 0 0,strT b,I64 code,cLn (r :: n) c] [.c (tn0C m (askT 1 l)),.c (encL cRn l)]
   (fun t H'=>t = .tup []∧H' = [.c (tn0C { m with cnt:=m.cnt + 1 } (askT 2 (l ++ [⟨code,r :: n,b,[]⟩]))),.d,.c (encL cRn (l ++ [⟨code,r :: n,b,[]⟩]))]):=by
 have hcl:=zdk r n c (by omega)
 refine CallT.intro zc Tryd.func55 rfl (by kernel_rfl) (Nat.le_of_ble_eq_true rfl) ?_;refine ug zc [18] [_,_,_,_,_,_,_,_,_,_,_,_] ([.c (tn0C m (askT 1 l)),.d]) [false,false,false,false,false,false,false,false,false,false,false,true] rfl yj yj yj (by repeat' first | exact xe | refine xc ?_ | refine y8 ?_) ?_;refine yp rfl ?_;refine yp rfl ?_;refine yp rfl ?_;refine yp rfl ?_;refine yp rfl ?_;refine yp rfl ?_;refine yp rfl ?_;refine zbg rfl rfl (hcl) ?_;refine yp rfl ?_;refine yp rfl ?_;refine zcs rfl ?_;refine' pt rfl rfl rfl rfl rfl rfl rfl rfl ?h1 ?h2 ?h3 ?h4 ?h5 (y8 (xc xe)) ?_
 case h1=>rw [xa,zan];omega
 case h2=>exact Nat.le_trans (Nat.mul_le_mul_right _ (show l.length + 1≤1000 by omega)) (by decide)
 case h3=>show l.length + 1≤_;omega
 case h4=>rfl
 case h5=>rfl
 refine tt ?_;iterate 2 refine za rfl ?_
 refine zp rfl rfl rfl rfl rfl xf rfl ?_;refine zb ?_;refine z4 zc [] rfl ?_;iterate 6 refine za rfl ?_
 refine xg rfl rfl zu ?_;iterate 4 refine za rfl ?_
 refine zp rfl rfl rfl rfl rfl xf rfl ?_;refine zb ?_;refine ⟨trivial,_,rfl,rfl,?_⟩;simp only [askT,setH,wy,List.length_append,List.length_singleton,List.drop_zero,List.cons_append,List.nil_append];rw [List.take_of_length_le (by rw [xa,zan];exact Nat.le_refl _)];rfl
abbrev tn0H (m : Mg) (l : List Rq) : Hp:=[.c (tn0C m (askT 1 l)),.c (encL cRn l)]
abbrev tn0H1 (m : Mg) (l : List Rq) : Hp:=[.c (tn0C m (askT 2 l)),.d,.c (encL cRn l)]
theorem zhm (m : Mg) (code r : Int) (n : List Int) (c : Option Nat) (l : List Rq) (hn : n.length≤100) (hl : l.length≤100) (hc : 0≤m.cnt∧m.cnt≤2000000) :
  CallT Tryd.prog 54 [.ptr 0 0,I64 code,cLn (r :: n) c] (tn0H m l) (fun t H'=>t = .tup []∧H' = tn0H1 (m.up 1) (l ++ [rq code (r :: n)])):=by
 have ht:=zfg m [] code r n c l hn hl hc
 refine CallT.intro zc Tryd.func54 rfl (by kernel_rfl) (Nat.le_of_ble_eq_true rfl) ?_;refine z4 zc [] rfl ?_;iterate 3 refine za rfl ?_
 refine zq rfl rfl (CallT.frame (ht) [0,1] rfl z3 z3 ?_)
 rintro _ _ ⟨rfl,rfl⟩;refine frK zy zy ?_;refine zb ?_;exact ⟨trivial,_,rfl,rfl,rfl⟩
def newL (b : Int) : List Rq:=[rq 7 [1,32,0,0,0,0,0,3072],⟨23,[b + 2],[116,105,110,121],[]⟩,rq 19 [b + 1],rq 20 [b + 1,28,0,0,1,200,b + 2]]
theorem zgi (c w h : Nat) (h1 : 1≤c) (h2 : c≤8) (h3 : 1≤w) (h4 : w≤128) (h5 : 1≤h) (h6 : h≤128) : CallP Tryd.prog 30 [I64 c,I64 w,I64 h] (.tup [mgT (newMg c w h),.islc (encL cRn (newL ((c * 1048576 : Nat) : Int))) 4 none,I64 0]):=by
 have hbp:=base_p c h1 h2
 obtain ⟨B,hB⟩ : ∃ B,B = ((c * 1048576 : Nat) : Int):=⟨_,rfl⟩
 have hbB : 1048576≤B∧B≤8388608:=by omega
 have hmg : mgT (newMg c w h) = .agg [.v (.int .u32 B),I64 4,I64 0,I64 w,I64 h,NILM,NILM,BL false,I64 0,I64 0,I64 0]:=by rw [hB];rfl
 rw [← hB] at hbp
 rw [← hB,hmg]
 obtain ⟨M,hM⟩ : ∃ M : Mg,M = ⟨B,0,0,w,h,true,[],[],false,0,0,0⟩:=⟨_,rfl⟩
 have hb : 1048576≤M.base∧M.base≤8388608:=by rw [hM];exact hbB
 have hp:=zka (M.up 2) hb
 have hf:=zjk (M.up 1) hb
 have hp3:=zka (M.up 3) hb
 have hf3:=zjk (M.up 3) hb
 have hc0 : M.cnt = 0:=by rw [hM]
 have hMb : M.base = B:=by rw [hM]
 obtain ⟨R0,hR0⟩ : ∃ R,R = rq 7 [1,32,0,0,0,0,0,3072]:=⟨_,rfl⟩
 obtain ⟨R1,hR1⟩ : ∃ R : Rq,R = ⟨23,[B + 2],[116,105,110,121],[]⟩:=⟨_,rfl⟩
 obtain ⟨R2,hR2⟩ : ∃ R,R = rq 19 [B + 1]:=⟨_,rfl⟩
 obtain ⟨R3,hR3⟩ : ∃ R,R = rq 20 [B + 1,28,0,0,1,200,B + 2]:=⟨_,rfl⟩
 have hres : newL B = [R0,R1,R2,R3]:=by rw [hR0,hR1,hR2,hR3];rfl
 rw [hres]
 have a0 : CallT Tryd.prog 54 [.ptr 0 0,I64 7,.islc [I64 1,I64 32,I64 0,I64 0,I64 0,I64 0,I64 0,I64 3072] 8 (some 8)] (tn0H M []) (fun t H'=>t = .tup []∧H' = tn0H1 (M.up 1) [R0]):=by
  have:=zhm M 7 1 [32,0,0,0,0,0,3072] (some 8) [] (by simp) (by simp) (by omega)
  rw [← hR0] at this
  exact this
 have a1 : CallT Tryd.prog 55 [.ptr 0 0,strT [116,105,110,121],I64 23,.islc [I64 (B + 2)] 1 (some 1)] (tn0H (M.up 1) [R0]) (fun t H'=>t = .tup []∧H' = tn0H1 (M.up 2) [R0,R1]):=by
  have:=zfg (M.up 1) [116,105,110,121] 23 (B + 2) [] (some 1) [R0] (by simp) (by simp) (by show 0≤M.cnt + 1∧M.cnt + 1≤2000000;omega)
  rw [← hR1,show ({ M.up 1 with cnt:=(M.up 1).cnt + 1 } : Mg) = (M.up 1).up 1 from rfl,we M 1 1 2 (by decide)] at this
  exact this
 have a2 : CallT Tryd.prog 54 [.ptr 0 0,I64 19,.islc [I64 (B + 1)] 1 (some 1)] (tn0H (M.up 2) [R0,R1]) (fun t H'=>t = .tup []∧H' = tn0H1 (M.up 3) [R0,R1,R2]):=by
  have:=zhm (M.up 2) 19 (B + 1) [] (some 1) [R0,R1] (by simp) (by simp) (by show 0≤M.cnt + 2∧M.cnt + 2≤2000000;omega)
  rw [← hR2,we M 2 1 3 (by decide)] at this
  exact this
 have a3 : CallT Tryd.prog 54 [.ptr 0 0,I64 20,.islc [I64 (B + 1),I64 28,I64 0,I64 0,I64 1,I64 200,I64 (B + 2)] 7 (some 7)] (tn0H (M.up 3) [R0,R1,R2]) (fun t H'=>t = .tup []∧H' = tn0H1 (M.up 4) [R0,R1,R2,R3]):=by
  have:=zhm (M.up 3) 20 (B + 1) [28,0,0,1,200,B + 2] (some 7) [R0,R1,R2] (by simp) (by simp) (by show 0≤M.cnt + 3∧M.cnt + 3≤2000000;omega)
  rw [← hR3,we M 3 1 4 (by decide)] at this
  exact this
 have hMi : ∀ a : T,tn0C M a = [.v (.int .u32 B),I64 0,I64 0,I64 w,I64 h,NILM,NILM,BL false,I64 0,I64 0,I64 0,a]:=fun a=>by rw [hM]
 have hM4 : ∀ a : T,tn0C (M.up 4) a = [.v (.int .u32 B),I64 4,I64 0,I64 w,I64 h,NILM,NILM,BL false,I64 0,I64 0,I64 0,a]:=fun a=>by rw [hM];rfl
 rw [hMb] at hp hf hp3 hf3
 refine CallP.intro2 yw yw ?_;refine CallT.intro zc Tryd.func30 rfl (by kernel_rfl) (Nat.le_of_ble_eq_true rfl) ?_;refine ze zc [] rfl ?_;refine yk rfl rfl ?_;iterate 2 refine za rfl ?_
 refine zb ?_;refine ze zc [] rfl ?_;refine za rfl ?_;refine z6 rfl rfl rfl (hbp) ?_;iterate 5 refine za rfl ?_
 refine zb ?_;refine zo ?_;refine ze zc [] rfl ?_;iterate 2 refine za rfl ?_
 refine zb ?_;refine zi rfl (fun hc0=>?_) (fun hc0=>?_)
 ·exact absurd hc0 (by decide)
 ·(try simp only [zf] at hc0)
  refine zt ?_;refine zo ?_;refine ze zc [] rfl ?_;iterate 3 refine za rfl ?_
  refine' zx (d:=25) [_,_,_] rfl ?_ rfl ?_
  rotate_left
  ·refine zw rfl rfl (fun hb4_2=>?_) (fun hb4_2=>?_)
   ·have ghb4_2:=hb4_2
    try simp only [zf,Bool.not_true,Bool.not_false] at ghb4_2
    refine za rfl ?_;refine zd rfl rfl hb4_2 ?_;refine za rfl ?_;refine yz rfl (fun _=>rfl) ?_;exact zb ⟨rfl,rfl⟩
   ·refine zl rfl rfl hb4_2 ?_;exact yz rfl (fun h=>absurd (h.symm.trans hb4_2) (by decide)) (zb ⟨rfl,rfl⟩)
  refine za rfl ?_;refine' zx (d:=29) [_,_,_] rfl ?_ rfl ?_
  rotate_left
  ·refine zw rfl rfl (fun hb4_6=>?_) (fun hb4_6=>?_)
   ·have ghb4_6:=hb4_6
    try simp only [zf,Bool.not_true,Bool.not_false] at ghb4_6
    refine za rfl ?_;refine zd rfl rfl hb4_6 ?_;refine za rfl ?_;refine yz rfl (fun _=>rfl) ?_;exact zb ⟨rfl,rfl⟩
   ·refine zl rfl rfl hb4_6 ?_;exact yz rfl (fun h=>absurd (h.symm.trans hb4_6) (by decide)) (zb ⟨rfl,rfl⟩)
  refine za rfl ?_;refine' zx (d:=33) [_,_,_] rfl ?_ rfl ?_
  rotate_left
  ·refine zw rfl rfl (fun hb4_10=>?_) (fun hb4_10=>?_)
   ·have ghb4_10:=hb4_10
    try simp only [zf,Bool.not_true,Bool.not_false] at ghb4_10
    refine za rfl ?_;refine zd rfl rfl hb4_10 ?_;refine za rfl ?_;refine yz rfl (fun _=>rfl) ?_;exact zb ⟨rfl,rfl⟩
   ·refine zl rfl rfl hb4_10 ?_;exact yz rfl (fun h=>absurd (h.symm.trans hb4_10) (by decide)) (zb ⟨rfl,rfl⟩)
  refine zb ?_;refine zi rfl (fun hc1=>?_) (fun hc1=>?_)
  ·exact absurd hc1 (by simp;omega)
  ·(try simp only [zf] at hc1)
   refine zt ?_;refine ze zc [] rfl ?_;iterate 6 refine za rfl ?_
   refine yk rfl rfl ?_;refine zp rfl rfl rfl rfl rfl xf rfl ?_;refine zb ?_;refine z7 ([(6,.ptr 2 0),(11,.ptr 0 0)]) (tn0H M [] ++ [.c [.v (.int .u32 0),I64 0,I64 0,I64 0,I64 0,NILM,NILM,BL false,I64 0,I64 0,I64 0]]) [] rfl (by refine ⟨[some 1,none,some 0],rfl,yb,ya,?_,?_⟩ <;> (repeat' first | exact trivial | exact yc | exact yd | exact z9 rfl | refine zn ?_ ?_ | refine zk rfl ?_ ?_ | refine zj ?_ ?_ | refine ye rfl ?_ | fail) <;> first | exact yv | (first | exact CvL.pure rfl | (rw [hMi];exact CvL.cons (Cv.pure rfl) (CvL.cons (Cv.pure rfl) (CvL.cons (Cv.pure rfl) (CvL.cons (Cv.pure rfl) (CvL.cons (Cv.pure rfl) (CvL.cons (Cv.pure rfl) (CvL.cons (Cv.pure rfl) (CvL.cons (Cv.pure rfl) (CvL.cons (Cv.pure rfl) (CvL.cons (Cv.pure rfl) (CvL.cons (Cv.pure rfl) (CvL.cons (Cv.nilv rfl) CvL.nil)))))))))))))) ?_
   refine ze zc [41] rfl ?_;refine yx rfl rfl ?_;refine zq rfl rfl (CallT.frame (a0) [0,1] rfl z3 z3 ?_)
   rintro _ _ ⟨rfl,rfl⟩;refine frK zy zy ?_;refine zb ?_;refine ze zc [47] rfl ?_;iterate 3 refine za rfl ?_
   refine z6 rfl rfl rfl (hf) ?_;refine yx rfl rfl ?_;refine zq rfl rfl (CallT.frame (a1) [0,3] rfl z3 z3 ?_)
   rintro _ _ ⟨rfl,rfl⟩;refine frK zy zy ?_;refine zb ?_;refine ze zc [53] rfl ?_;iterate 3 refine za rfl ?_
   refine z6 rfl rfl rfl (hp) ?_;refine yx rfl rfl ?_;refine zq rfl rfl (CallT.frame (a2) [0,4] rfl z3 z3 ?_)
   rintro _ _ ⟨rfl,rfl⟩;refine frK zy zy ?_;refine zb ?_;refine yu zc [63] [_,_,_,_,_,_,_,_,_] rfl yj yj ?_;iterate 3 refine za rfl ?_
   refine z6 rfl rfl rfl (hp3) ?_;iterate 3 refine za rfl ?_
   refine z6 rfl rfl rfl (hf3) ?_;refine yx rfl rfl ?_;refine zb ?_;refine zq rfl rfl (CallT.frame (a3) [0,5] rfl z3 z3 ?_)
   rintro _ _ ⟨rfl,rfl⟩;refine frK zy zy ?_;refine zb ?_;refine z7 ([(6,.ptr 1 0),(11,.ptr 0 0)]) ([.c [.v (.int .u32 B),I64 4,I64 0,I64 w,I64 h,NILM,NILM,BL false,I64 0,I64 0,I64 0,askT 2 [R0,R1,R2,R3]],.c [.v (.int .u32 0),I64 0,I64 0,I64 0,I64 0,NILM,NILM,BL false,I64 0,I64 0,I64 0],.c (encL cRn [R0,R1,R2,R3])]) [] rfl (by refine ⟨[some 0,some 2,some 6],rfl,yb,ya,?_,?_⟩ <;> (repeat' first | exact trivial | exact yc | exact yd | exact z9 rfl | refine zn ?_ ?_ | refine zk rfl ?_ ?_ | refine zj ?_ ?_ | refine ye rfl ?_ | fail) <;> first | exact yv | (first | exact CvL.pure rfl | exact CvL.pure (zg _ _) | (rw [← hM4];exact CvL.cons (Cv.pure rfl) (CvL.cons (Cv.pure rfl) (CvL.cons (Cv.pure rfl) (CvL.cons (Cv.pure rfl) (CvL.cons (Cv.pure rfl) (CvL.cons (Cv.pure rfl) (CvL.cons (Cv.pure rfl) (CvL.cons (Cv.pure rfl) (CvL.cons (Cv.pure rfl) (CvL.cons (Cv.pure rfl) (CvL.cons (Cv.pure rfl) (CvL.cons (Cv.slc rfl (.inr rfl)) CvL.nil)))))))))))))) ?_
   refine vu zc [] [_,_,_,_,_] (_) rfl yj yj yj (x0 (b:=1) (xz _) (Nat.le_of_ble_eq_true rfl)) ?_;refine uq (l1:=[_,_,_,_]) rfl ?_;iterate 4 refine za rfl ?_
   refine zb ?_;refine uo rfl rfl rfl rfl ?_;refine ur (⟨rfl,Nat.le_of_ble_eq_true rfl,rfl,trivial⟩) ?_;iterate 2 refine za rfl ?_
   refine zb ?_;refine yr ?_;exact ⟨trivial,_,rfl,Cv.tup (CvL.cons (Cv.agg (CvL.pure rfl)) (CvL.cons (Cv.fslc0 ⟨rfl,(by simp)⟩ (CvL.pure (zg _ _))) (CvL.cons (Cv.pure rfl) CvL.nil)))⟩
end

section
open Go.RowKit
set_option maxRecDepth 10000
set_option maxHeartbeats 2000000
theorem zhf (m : Mg) (top : Int) (ok : m.Ok top) : CallT Tryd.prog 58 [.om 0,mpF m] [.o (mapP [] [])] (fun t H'=>t = .tup []∧∃ p : OP,p.pi = true∧H' = [.o (mF m),.o p]):=by
 cases hf : m.fresh with
 | true=>
  have:=(ok.fresh hf).1
  rw [show mpF m = NILM from if_pos hf,show mF m = mapP [] [] from by rw [mF,this];rfl]
  exact ziv
 | false=>
  rw [show mpF m = .mp (kF m.F) (tF m.F) from if_neg (by rw [hf];simp)]
  exact copyF_t m.F ok.fk
theorem zhe (m : Mg) (top : Int) (ok : m.Ok top) : CallT Tryd.prog 59 [.om 0,mpW m] [.o (mapP [] [])] (fun t H'=>t = .tup []∧∃ p : OP,p.pi = true∧H' = [.o (mW m),.o p]):=by
 cases hf : m.fresh with
 | true=>
  have:=(ok.fresh hf).2
  rw [show mpW m = NILM from if_pos hf,show mW m = mapP [] [] from by rw [mW,this];rfl]
  exact ziu
 | false=>
  rw [show mpW m = .mp (kF m.W) (tW m.W) from if_neg (by rw [hf];simp)]
  exact copyW_t m.W ok.wk
abbrev evsK : List Value:=[.int .i64 17,.int .i64 19,.int .i64 16,.int .i64 14,.int .i64 20,.int .i64 10,.int .i64 3,.int .i64 4,.int .i64 5]
abbrev evsT : List T:=[.clo 89 [] [],.clo 90 [] [],.clo 91 [] [],.clo 92 [] [],.clo 93 [] [],.clo 94 [] [],.clo 95 [] [],.clo 96 [] [],.clo 97 [] []]
theorem re : CallP Tryd.prog 64 [] (.mp evsK evsT):=by
 refine CallP.intro2 yw yw ?_;refine CallT.intro zc Tryd.func64 rfl (by kernel_rfl) (Nat.le_of_ble_eq_true rfl) ?_;refine ze zc [] rfl ?_;refine za rfl ?_;refine zb ?_;refine ze zc [] rfl ?_;refine xu ?_;refine vq zc rfl rfl rfl rfl rfl rfl rfl rfl (by first | rfl | assumption | decide) (by first | assumption | (simp;done)) ?_;refine vq zc rfl rfl rfl rfl rfl rfl rfl rfl (by first | rfl | assumption | decide) (by first | assumption | (simp;done)) ?_;refine vq zc rfl rfl rfl rfl rfl rfl rfl rfl (by first | rfl | assumption | decide) (by first | assumption | (simp;done)) ?_;refine vq zc rfl rfl rfl rfl rfl rfl rfl rfl (by first | rfl | assumption | decide) (by first | assumption | (simp;done)) ?_;refine vq zc rfl rfl rfl rfl rfl rfl rfl rfl (by first | rfl | assumption | decide) (by first | assumption | (simp;done)) ?_;refine vq zc rfl rfl rfl rfl rfl rfl rfl rfl (by first | rfl | assumption | decide) (by first | assumption | (simp;done)) ?_;refine vq zc rfl rfl rfl rfl rfl rfl rfl rfl (by first | rfl | assumption | decide) (by first | assumption | (simp;done)) ?_;refine vq zc rfl rfl rfl rfl rfl rfl rfl rfl (by first | rfl | assumption | decide) (by first | assumption | (simp;done)) ?_;refine vq zc rfl rfl rfl rfl rfl rfl rfl rfl (by first | rfl | assumption | decide) (by first | assumption | (simp;done)) ?_;iterate 2 refine za rfl ?_
 refine zb ?_;refine yr ?_;exact ⟨trivial,_,rfl,Cv.fom ⟨rfl,by simp⟩ (CvL.pure rfl)⟩
abbrev rqN (l : List Rq) : T:=.islc (encL cRn l) l.length none
abbrev zMg : List T:=[.v (.int .u32 0),I64 0,I64 0,I64 0,I64 0,NILM,NILM,BL false,I64 0,I64 0,I64 0]
theorem pn {v : Vw} {m : Mg} (hf : m.fresh = false) (h1 : Cv v (.om 1) (.mp (kF m.F) (tF m.F))) (h2 : Cv v (.om 2) (.mp (kF m.W) (tW m.W))) : CvL v [.v (.int .u32 m.base),I64 m.cnt,I64 m.made,I64 m.w,I64 m.h,.om 1,.om 2,BL m.on,I64 m.df,I64 m.dx,I64 m.dy] (mgC m):=by
 have e1 : mpF m = .mp (kF m.F) (tF m.F):=if_neg (by rw [hf];simp)
 have e2 : mpW m = .mp (kF m.W) (tW m.W):=if_neg (by rw [hf];simp)
 rw [mgC,e1,e2]
 exact CvL.cons (Cv.pure rfl) (CvL.cons (Cv.pure rfl) (CvL.cons (Cv.pure rfl) (CvL.cons (Cv.pure rfl) (CvL.cons (Cv.pure rfl) (CvL.cons h1 (CvL.cons h2 (CvL.cons (Cv.pure rfl) (CvL.cons (Cv.pure rfl) (CvL.cons (Cv.pure rfl) (CvL.cons (Cv.pure rfl) CvL.nil))))))))))
theorem zjy (m : Mg) (o : Ot) (m2 : Mg) (top : Int) (ok : m.Ok top) (hf2 : m2.fresh = false) (hk : o.kind = 0) (X Y : T) (hpX : X.pure = true) (hpY : Y.pure = true) (hcX : cellB X = true) (hcY : cellB Y = true)
  (hcF : CallT Tryd.prog 58 [.om 0,X] [.o (mapP [] [])] (fun t H'=>t = .tup []∧∃ p : OP,p.pi = true∧H' = [.o (mF m),.o p]))
  (hcW : CallT Tryd.prog 59 [.om 0,Y] [.o (mapP [] [])] (fun t H'=>t = .tup []∧∃ p : OP,p.pi = true∧H' = [.o (mW m),.o p]))
  (hact : CallT Tryd.prog 60 [.ptr 0 0,I64 o.seq] (tnH m (mF m) (mW m) []) (fun t H'=>t = .tup []∧H' = tnH m2 (mF m2) (mW m2) [])) :
  CallP Tryd.prog 31 [.agg [.v (.int .u32 m.base),I64 m.cnt,I64 m.made,I64 m.w,I64 m.h,X,Y,BL m.on,I64 m.df,I64 m.dx,I64 m.dy],otT o] (.tup [mgT m2,rqN []]):=by
 have hot:=x8 o
 have hpF:=piF m.F
 have hpW:=piW m.W
 have hpF2:=piF m2.F
 have hpW2:=piW m2.W
 have hp3:=xn m2
 have hp4:=xm m2
 refine CallP.intro2 yw yw ?_;refine CallT.intro zc Tryd.func31 rfl (by kernel_rfl) (Nat.le_of_ble_eq_true rfl) ?_;refine ze zc [2,3] rfl ?_;iterate 2 refine yx rfl rfl ?_
 refine yk rfl rfl ?_;refine za rfl ?_;refine zb ?_;refine ze zc [] rfl ?_;iterate 2 refine za rfl ?_
 refine yk rfl rfl ?_;refine zp rfl rfl rfl rfl rfl (Nat.le_of_ble_eq_true rfl) (by show (true && (true && (true && (true && (true && (cellB X && (cellB Y && (true && (true && (true && (true && (true && true)))))))))))) = true;rw [hcX,hcY];rfl) ?_;refine zb ?_;refine ze zc [] rfl ?_;iterate 2 refine xu ?_
 iterate 2 refine za rfl ?_
 refine zp rfl rfl rfl rfl rfl xf rfl ?_;iterate 2 refine za rfl ?_
 refine zp rfl rfl rfl rfl rfl xf rfl ?_;refine zb ?_;refine ze zc [] rfl ?_;iterate 5 refine za rfl ?_
 refine zq rfl rfl (CallT.frame (hcF) [2] rfl z3 z3 ?_)
 rintro _ _ ⟨rfl,p1,hp1,rfl⟩;refine frK zy zy ?_;refine zb ?_;refine ze zc [] rfl ?_;iterate 5 refine za rfl ?_
 refine zq rfl rfl (CallT.frame (hcW) [3] rfl z3 z3 ?_)
 rintro _ _ ⟨rfl,p2,hp2,rfl⟩;refine frK zy zy ?_;refine zb ?_;refine z7 ([(6,.ptr 0 0),(4,.ptr 4 0)]) ([.c (tnC m (askT 3 [])),.o (mF m),.o (mW m),.c (encL cRn []),.c zMg]) [3] rfl (by refine ⟨[some 1,some 2,some 3,none,some 0],rfl,yb,ya,?_,?_⟩ <;> (repeat' first | exact trivial | exact yc | exact yd | exact z9 rfl | refine zn ?_ ?_ | refine zk rfl ?_ ?_ | refine zj ?_ ?_ | refine ye rfl ?_ | fail) <;> first | exact yv | (first | exact CvL.pure rfl | exact Cv.ptr rfl | exact CvL.cons (Cv.pure rfl) (CvL.cons (Cv.pure rfl) (CvL.cons (Cv.pure rfl) (CvL.cons (Cv.pure rfl) (CvL.cons (Cv.pure rfl) (CvL.cons (Cv.om rfl) (CvL.cons (Cv.om rfl) (CvL.cons (Cv.pure rfl) (CvL.cons (Cv.pure rfl) (CvL.cons (Cv.pure rfl) (CvL.cons (Cv.pure rfl) (CvL.cons (Cv.nilv rfl) CvL.nil))))))))))))) ?_
 refine zo ?_;refine ze zc [] rfl ?_;iterate 2 refine za rfl ?_
 refine zb ?_;refine yf ?_;refine ze zc [] rfl ?_;iterate 2 refine za rfl ?_
 refine zb ?_;refine zi rfl (fun hc0=>?_) (fun hc0=>?_)
 ·(try simp only [zf] at hc0)
  refine z4 zc [] rfl ?_;iterate 2 refine za rfl ?_
  refine zq rfl rfl (CallT.frame (hact) [0,1,2,3] rfl z3 z3 ?_)
  rintro _ _ ⟨rfl,rfl⟩;refine frK zy zy ?_;refine zb ?_;refine vu zc [] [_,_,_,_,_] (_) rfl yj yj yj (x0 (b:=4) (xz _) (Nat.le_of_ble_eq_true rfl)) ?_;refine uq (l1:=[_,_,_,_]) rfl ?_;iterate 4 refine za rfl ?_
  refine zb ?_;refine uo rfl rfl rfl rfl ?_;refine ur (⟨rfl,Nat.le_of_ble_eq_true rfl,rfl,trivial⟩) ?_;refine za rfl ?_;refine zb ?_;refine yr ?_;exact ⟨trivial,_,rfl,Cv.tup (CvL.cons (Cv.agg (pn hf2 (Cv.fom ⟨rfl,(by simp)⟩ (CvL.pure (pF m2.F))) (Cv.fom ⟨rfl,(by simp)⟩ (CvL.pure (pW m2.W))))) (CvL.cons (Cv.fslc0 ⟨rfl,(by simp)⟩ (CvL.pure (zg _ _))) CvL.nil))⟩
 ·exact absurd hc0 (by simp [hk])
end
end Go.Proofs.YtjnomaiejmgedaaDoor
