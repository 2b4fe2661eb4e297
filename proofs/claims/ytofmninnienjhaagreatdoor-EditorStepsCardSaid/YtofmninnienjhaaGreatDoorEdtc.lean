/-
  The proof's lemmas, part 3.
-/
import Derived.Test.YtofmninnienjhaaGreatDoorEdtb
import Derived.Test.YtofmninnienjhaaGreatDoorProg
import Derived.KernelRfl
import Derived.Test.YtofmninnienjhaaGreatDoorShelfC
import Derived.Lib.Bytealg
namespace Go.Proofs.YtofmninnienjhaaGreatDoor
set_option linter.unusedSimpArgs false
set_option linter.unusedVariables false

section
open Go.RowKit
def clearL (g : List UInt8) (a b : Nat) : List UInt8:=g.take a ++ (List.replicate (b - a) 32 ++ g.drop (max a b))
theorem zfu (g : List UInt8) (a b : Nat) (h : b≤g.length) : (clearL g a b).length = g.length:=by
 unfold clearL
 simp only [List.length_append,List.length_take,List.length_replicate,List.length_drop]
 omega
def Scr.clear (S : Scr) (a b : Nat) : Scr:={ S with grid:=clearL S.grid a b }
def Scr.keep (S : Scr) (l : List UInt8) : Scr:=
 if S.most = 0 then S else if S.most≤S.kept.length then { S with kept:=S.kept.tail ++ [l] } else { S with kept:=S.kept ++ [l] }
def Scr.withGrid (S : Scr) (g : List UInt8) : Scr:={ S with grid:=g }
theorem Scr.keep_grid (S : Scr) (l : List UInt8) : (S.keep l).grid = S.grid:=by unfold Scr.keep;split;rfl;split <;> rfl
def Scr.scroll (S : Scr) : Scr:=
 (S.keep (S.grid.take S.cols)).withGrid (S.grid.drop S.cols ++ List.replicate S.cols 32)
def Scr.lineEnd (S : Scr) : Scr:=if S.y + 1 < S.rows then { S with x:=0,y:=S.y + 1 } else ({ S with x:=0 } : Scr).scroll
theorem Scr.Ok.keep {S : Scr} (ok : S.Ok) (l : List UInt8) : (S.keep l).Ok:=by
 unfold Scr.keep
 split
 ·exact ok
 ·split
  ·exact ⟨ok.c1,ok.c2,ok.r1,ok.r2,ok.m,ok.x,ok.y,ok.g,by have:=ok.k;simp;omega,ok.s,ok.a,ok.b,ok.n⟩
  ·exact ⟨ok.c1,ok.c2,ok.r1,ok.r2,ok.m,ok.x,ok.y,ok.g,by simp;omega,ok.s,ok.a,ok.b,ok.n⟩
theorem Scr.Ok.withGrid {S : Scr} (ok : S.Ok) (g : List UInt8) (h : g.length = S.grid.length) : (S.withGrid g).Ok:=
 ⟨ok.c1,ok.c2,ok.r1,ok.r2,ok.m,ok.x,ok.y,h.trans ok.g,ok.k,ok.s,ok.a,ok.b,ok.n⟩
theorem Scr.Ok.cg {S : Scr} (ok : S.Ok) : S.cols≤S.grid.length:=by rw [ok.g];exact Nat.le_mul_of_pos_right _ ok.r1
theorem Scr.Ok.g2 {S : Scr} (ok : S.Ok) : S.grid.length≤8192:=by rw [ok.g];exact Nat.mul_le_mul ok.c2 ok.r2
theorem Scr.Ok.scroll {S : Scr} (ok : S.Ok) : S.scroll.Ok:=
 (ok.keep _).withGrid _ (by rw [Scr.keep_grid];have:=ok.cg;simp;omega)
theorem Scr.Ok.pos {S : Scr} (ok : S.Ok) (x y : Nat) (hx : x≤S.cols) : ({ S with x:=x,y:=y } : Scr).Ok↔y < S.rows:=
 ⟨fun h=>h.y,fun h=>⟨ok.c1,ok.c2,ok.r1,ok.r2,ok.m,hx,h,ok.g,ok.k,ok.s,ok.a,ok.b,ok.n⟩⟩
theorem Scr.Ok.lineEnd {S : Scr} (ok : S.Ok) : S.lineEnd.Ok:=by
 unfold Scr.lineEnd
 split
 ·exact (ok.pos 0 (S.y + 1) (Nat.zero_le _)).2 (by assumption)
 ·exact Scr.Ok.scroll ((ok.pos 0 S.y (Nat.zero_le _)).2 ok.y)
theorem Scr.scroll_x (S : Scr) : S.scroll.x = S.x:=by unfold Scr.scroll Scr.withGrid Scr.keep;split;rfl;split <;> rfl
theorem Scr.scroll_cols (S : Scr) : S.scroll.cols = S.cols:=by unfold Scr.scroll Scr.withGrid Scr.keep;split;rfl;split <;> rfl
theorem Scr.lineEnd_x (S : Scr) : S.lineEnd.x = 0:=by unfold Scr.lineEnd;split;rfl;rw [Scr.scroll_x]
theorem Scr.lineEnd_cols (S : Scr) : S.lineEnd.cols = S.cols:=by unfold Scr.lineEnd;split;rfl;rw [Scr.scroll_cols]
def Scr.blank (S : Scr) (n f t : Nat) : Scr:=
 if n = 0 then S.clear (S.y * S.cols + min S.x (S.cols - 1)) t else if n = 1 then S.clear f (S.y * S.cols + min S.x (S.cols - 1) + 1) else if n = 2 then S.clear f t else S
def Scr.put (S : Scr) (v : UInt8) : Scr:={ S with grid:=S.grid.set (S.y * S.cols + S.x) v,x:=S.x + 1 }
def Scr.letter (S : Scr) (v : UInt8) : Scr:=if S.x = S.cols then S.lineEnd.put v else S.put v
def Scr.plain (S : Scr) (v : UInt8) : Scr:=
 if 32≤v.toNat∧v.toNat≤126 then S.letter v
 else if v.toNat = 10 then S.lineEnd
 else if v.toNat = 13 then { S with x:=0 }
 else if v.toNat = 8 then { S with x:=S.x - 1 }
 else if v.toNat = 9 then { S with x:=max (min ((S.x / 8 + 1) * 8) (S.cols - 1)) S.x }
 else if v.toNat = 12 then { S.clear 0 S.grid.length with x:=0,y:=0 }
 else if v.toNat = 27 then { S with st:=1 }
 else S
def Scr.cmd (S : Scr) (k n m : Nat) : Scr:=
 if k = 65 then { S with y:=S.y - max n 1 }
 else if k = 66 then { S with y:=min (S.y + max n 1) (S.rows - 1) }
 else if k = 67 then { S with x:=min (S.x + max n 1) (S.cols - 1) }
 else if k = 68 then { S with x:=S.x - max n 1 }
 else if k = 72 then { S with y:=min (max n 1) S.rows - 1,x:=min (max m 1) S.cols - 1 }
 else if k = 74 then S.blank n 0 S.grid.length
 else if k = 75 then S.blank n (S.y * S.cols) ((S.y + 1) * S.cols)
 else S
def Scr.told (S : Scr) (v : Nat) : Scr:=
 if 48≤v∧v≤57 then (if S.num = 0 then { S with n0:=min (S.n0 * 10 + (v - 48)) 999 } else if S.num = 1 then { S with n1:=min (S.n1 * 10 + (v - 48)) 999 } else S)
 else if v = 59 then { S with num:=min (S.num + 1) 2 }
 else ({ S with st:=0 } : Scr).cmd v S.n0 S.n1
def Scr.byte (S : Scr) (v : UInt8) : Scr:=
 if S.st = 1 then (if v.toNat = 91 then { S with st:=2,n0:=0,n1:=0,num:=0 } else { S with st:=0 })
 else if S.st = 2 then S.told v.toNat else S.plain v
def Scr.bytes (S : Scr) (l : List UInt8) : Scr:=l.foldl Scr.byte S
theorem Scr.Ok.clear {S : Scr} (ok : S.Ok) (a b : Nat) (h : b≤S.grid.length) : (S.clear a b).Ok:={ ok with g:=(zfu S.grid a b h).trans ok.g }
theorem Scr.Ok.put {S : Scr} (ok : S.Ok) (v : UInt8) (h : S.x < S.cols) : (S.put v).Ok:={ ok with x:=h,g:=(List.length_set).trans ok.g }
theorem Scr.Ok.pg {S : Scr} (ok : S.Ok) : S.y * S.cols + S.cols≤S.grid.length:=by rw [ok.g,← Nat.succ_mul,Nat.mul_comm];exact Nat.mul_le_mul (Nat.le_refl _) ok.y
theorem Scr.Ok.blank {S : Scr} (ok : S.Ok) (n f t : Nat) (h : t≤S.grid.length) : (S.blank n f t).Ok:=by
 have h1:=ok.pg
 have h2:=ok.c1
 unfold Scr.blank
 split
 ·exact ok.clear _ _ h
 ·split
  ·exact ok.clear _ _ (by omega)
  ·split
   ·exact ok.clear _ _ h
   ·exact ok
theorem Scr.Ok.plain {S : Scr} (ok : S.Ok) (v : UInt8) : (S.plain v).Ok:=by
 have hx:=ok.x
 have hc:=ok.c1
 have hy:=ok.y
 unfold Scr.plain
 split
 ·unfold Scr.letter
  split
  ·exact ok.lineEnd.put v (by rw [Scr.lineEnd_x,Scr.lineEnd_cols];exact ok.c1)
  ·exact ok.put v (by omega)
 split
 ·exact ok.lineEnd
 split
 ·exact { ok with x:=Nat.zero_le _ }
 split
 ·exact { ok with x:=(by show S.x - 1≤S.cols;omega) }
 split
 ·exact { ok with x:=(by show max (min ((S.x / 8 + 1) * 8) (S.cols - 1)) S.x≤S.cols;omega) }
 split
 ·have:=ok.clear 0 S.grid.length (Nat.le_refl _)
  exact { this with x:=Nat.zero_le _,y:=(by show 0 < S.rows;omega) }
 split
 ·exact { ok with s:=(by show 1≤2;omega) }
 ·exact ok
theorem Scr.Ok.cmd {S : Scr} (ok : S.Ok) (k n m : Nat) : (S.cmd k n m).Ok:=by
 have hx:=ok.x
 have hc:=ok.c1
 have hy:=ok.y
 unfold Scr.cmd
 split
 ·exact { ok with y:=(by show S.y - max n 1 < S.rows;omega) }
 split
 ·exact { ok with y:=(by show min (S.y + max n 1) (S.rows - 1) < S.rows;omega) }
 split
 ·exact { ok with x:=(by show min (S.x + max n 1) (S.cols - 1)≤S.cols;omega) }
 split
 ·exact { ok with x:=(by show S.x - max n 1≤S.cols;omega) }
 split
 ·exact { ok with y:=(by show min (max n 1) S.rows - 1 < S.rows;omega),x:=(by show min (max m 1) S.cols - 1≤S.cols;omega) }
 split
 ·exact ok.blank _ _ _ (Nat.le_refl _)
 split
 ·exact ok.blank _ _ _ (by have:=ok.pg;rw [Nat.succ_mul];exact this)
 ·exact ok
theorem Scr.Ok.told {S : Scr} (ok : S.Ok) (v : Nat) : (S.told v).Ok:=by
 unfold Scr.told
 split
 ·split
  ·exact { ok with a:=(by show min _ 999≤999;omega) }
  split
  ·exact { ok with b:=(by show min _ 999≤999;omega) }
  ·exact ok
 split
 ·exact { ok with n:=(by show min _ 2≤2;omega) }
 ·exact Scr.Ok.cmd (S:={ S with st:=0 }) { ok with s:=(by show 0≤2;omega) } _ _ _
theorem Scr.Ok.byte {S : Scr} (ok : S.Ok) (v : UInt8) : (S.byte v).Ok:=by
 unfold Scr.byte
 split
 ·split
  ·exact { ok with s:=(by show 2≤2;omega),a:=(by show 0≤999;omega),b:=(by show 0≤999;omega),n:=(by show 0≤2;omega) }
  ·exact { ok with s:=(by show 0≤2;omega) }
 split
 ·exact ok.told _
 ·exact ok.plain _
theorem Scr.Ok.bytes {S : Scr} (ok : S.Ok) (l : List UInt8) : (S.bytes l).Ok:=by
 unfold Scr.bytes
 induction l generalizing S with
 | nil=>exact ok
 | cons v l ih=>exact ih (ok.byte v)
def Scr.row (S : Scr) (y : Int) : List UInt8:=if 0≤y∧y < S.rows then (S.grid.drop (y.toNat * S.cols)).take S.cols else []
end

section
open Go.RowKit
set_option maxRecDepth 100000
theorem z7 {P : Program} {t sz by_ : Nat} {zs : List Value} {zero : List T} {k : Kd} {eq : Bool} {D : TypeDesc} (h1 : ((P.info? t).map fun I=>(I.size,I.bytes,I.zero.map fun z=>z.cells.toList)) = some (sz,by_,some zs)) (h2 : P.underlying t = some D) (hz : zs.map T.v = zero) (hk : kdOk D k) (hl : zs.length = sz)
  (ha : (k.agg || sz == 1) = true) (hf : (match D with | .struct fs=>fs.toList.all fun f=>(P.info? f.type).isSome | _=>true) = true)
  (hag : ((P.info? t).bind fun I => I.zero.map fun z => z.isAggB) = some k.agg) (he : (!eq || (!P.stoodInHeld t && !P.eqGuardType P.depth t && (match D with | .struct fs => fs.toList.all fun f => f.name != "_" | _ => false))) = true) : TyOk P t ⟨sz, by_, zero, k, eq⟩ := by
 subst hz
 rw [Option.map_eq_some_iff] at h1
 obtain ⟨I,h3,h4⟩:=h1
 injection h4 with h4 h5;injection h5 with h5 h6
 rw [Option.map_eq_some_iff] at h6
 obtain ⟨z,h6,h7⟩:=h6
 refine ⟨⟨I,h3,h4,h5,z,h6,by rw [h7]⟩,⟨D,h2,hk⟩,by simpa using hl,fun fs hfs=>?_,fun hag=>?_,⟨I,z,h3,h6,by rw [h3,Option.bind_some,h6] at hag;simpa using hag⟩,fun he'=>?_⟩
 ·rw [h2] at hfs;injection hfs with hfs;subst hfs;exact hf
 ·rw [hag] at ha;simpa using ha
 ·simp only at he'
  subst he'
  simp only [Bool.not_true,Bool.false_or,Bool.and_eq_true,Bool.not_eq_true'] at he
  obtain ⟨⟨e1,e2⟩,e3⟩:=he
  refine ⟨e1,e2,?_⟩
  cases D <;> first | (cases e3;done) | skip
  rename_i fs
  refine ⟨fs,h2,fun f hf=>?_⟩
  rw [List.all_eq_true] at e3
  simpa using e3 f hf
theorem ty_1 : TyOk Tryz.prog 1 ⟨1,8,[.v (.nilFunc)],.fn,false⟩:=z7 (zs:=[.nilFunc]) (by kernel_rfl) Tryz.underlying1 rfl trivial rfl rfl (by kernel_rfl) (by kernel_rfl) (by kernel_rfl)
theorem ty_2 : TyOk Tryz.prog 2 ⟨1,8,[.v (.int .i64 0)],.int .i64,false⟩:=z7 (zs:=[.int .i64 0]) (by kernel_rfl) Tryz.underlying2 rfl rfl rfl rfl (by kernel_rfl) (by kernel_rfl) (by kernel_rfl)
theorem ty_3 : TyOk Tryz.prog 3 ⟨1,8,[.v (.int .i64 0)],.int .i64,false⟩:=z7 (zs:=[.int .i64 0]) (by kernel_rfl) Tryz.underlying3 rfl rfl rfl rfl (by kernel_rfl) (by kernel_rfl) (by kernel_rfl)
theorem ty_4 : TyOk Tryz.prog 4 ⟨1,1,[.v (.bool false)],.bool,false⟩:=z7 (zs:=[.bool false]) (by kernel_rfl) Tryz.underlying4 rfl trivial rfl rfl (by kernel_rfl) (by kernel_rfl) (by kernel_rfl)
theorem ty_5 : TyOk Tryz.prog 5 ⟨1,1,[.v (.int .u8 0)],.int .u8,false⟩:=z7 (zs:=[.int .u8 0]) (by kernel_rfl) Tryz.underlying5 rfl rfl rfl rfl (by kernel_rfl) (by kernel_rfl) (by kernel_rfl)
theorem ty_6 : TyOk Tryz.prog 6 ⟨1,1,[.v (.int .u8 0)],.int .u8,false⟩:=z7 (zs:=[.int .u8 0]) (by kernel_rfl) Tryz.underlying6 rfl rfl rfl rfl (by kernel_rfl) (by kernel_rfl) (by kernel_rfl)
theorem ty_7 : TyOk Tryz.prog 7 ⟨4,24,[.v (.int .i64 0),.v (.int .i64 0),.v (.bool false),.v (.int .u8 0)],.st [(0,2),(1,3),(2,4),(3,6)],false⟩:=z7 (zs:=[.int .i64 0,.int .i64 0,.bool false,.int .u8 0]) (by kernel_rfl) Tryz.underlying7 rfl rfl rfl rfl (by kernel_rfl) (by kernel_rfl) (by kernel_rfl)
theorem ty_8 : TyOk Tryz.prog 8 ⟨4,24,[.v (.int .i64 0),.v (.int .i64 0),.v (.bool false),.v (.int .u8 0)],.st [(0,2),(1,3),(2,4),(3,6)],false⟩:=z7 (zs:=[.int .i64 0,.int .i64 0,.bool false,.int .u8 0]) (by kernel_rfl) Tryz.underlying8 rfl rfl rfl rfl (by kernel_rfl) (by kernel_rfl) (by kernel_rfl)
theorem ty_9 : TyOk Tryz.prog 9 ⟨1,16,[.v (.string ⟨#[]⟩)],.str,false⟩:=z7 (zs:=[.string ⟨#[]⟩]) (by kernel_rfl) Tryz.underlying9 rfl trivial rfl rfl (by kernel_rfl) (by kernel_rfl) (by kernel_rfl)
theorem ty_10 : TyOk Tryz.prog 10 ⟨1,16,[.v (.string ⟨#[]⟩)],.str,false⟩:=z7 (zs:=[.string ⟨#[]⟩]) (by kernel_rfl) Tryz.underlying10 rfl trivial rfl rfl (by kernel_rfl) (by kernel_rfl) (by kernel_rfl)
theorem ty_11 : TyOk Tryz.prog 11 ⟨1,16,[.v (.string ⟨#[]⟩)],.str,false⟩:=z7 (zs:=[.string ⟨#[]⟩]) (by kernel_rfl) Tryz.underlying11 rfl trivial rfl rfl (by kernel_rfl) (by kernel_rfl) (by kernel_rfl)
theorem ty_12 : TyOk Tryz.prog 12 ⟨1,8,[.v (.int .u64 0)],.int .u64,false⟩:=z7 (zs:=[.int .u64 0]) (by kernel_rfl) Tryz.underlying12 rfl rfl rfl rfl (by kernel_rfl) (by kernel_rfl) (by kernel_rfl)
theorem ty_13 : TyOk Tryz.prog 13 ⟨2,24,[.v (.string ⟨#[]⟩),.v (.int .u64 0)],.st [(0,9),(1,12)],false⟩:=z7 (zs:=[.string ⟨#[]⟩,.int .u64 0]) (by kernel_rfl) Tryz.underlying13 rfl rfl rfl rfl (by kernel_rfl) (by kernel_rfl) (by kernel_rfl)
theorem ty_14 : TyOk Tryz.prog 14 ⟨2,24,[.v (.string ⟨#[]⟩),.v (.int .u64 0)],.st [(0,9),(1,12)],false⟩:=z7 (zs:=[.string ⟨#[]⟩,.int .u64 0]) (by kernel_rfl) Tryz.underlying14 rfl rfl rfl rfl (by kernel_rfl) (by kernel_rfl) (by kernel_rfl)
theorem ty_15 : TyOk Tryz.prog 15 ⟨1,8,[.v (.pointer none)],.ptr 200,false⟩:=z7 (zs:=[.pointer none]) (by kernel_rfl) Tryz.underlying15 rfl rfl rfl rfl (by kernel_rfl) (by kernel_rfl) (by kernel_rfl)
theorem ty_16 : TyOk Tryz.prog 16 ⟨1,8,[.v (.pointer none)],.ptr 203,false⟩:=z7 (zs:=[.pointer none]) (by kernel_rfl) Tryz.underlying16 rfl rfl rfl rfl (by kernel_rfl) (by kernel_rfl) (by kernel_rfl)
theorem ty_17 : TyOk Tryz.prog 17 ⟨1,8,[.v (.pointer none)],.ptr 211,false⟩:=z7 (zs:=[.pointer none]) (by kernel_rfl) Tryz.underlying17 rfl rfl rfl rfl (by kernel_rfl) (by kernel_rfl) (by kernel_rfl)
theorem ty_18 : TyOk Tryz.prog 18 ⟨1,8,[.v (.pointer none)],.st [(0,17)],false⟩:=z7 (zs:=[.pointer none]) (by kernel_rfl) Tryz.underlying18 rfl rfl rfl rfl (by kernel_rfl) (by kernel_rfl) (by kernel_rfl)
theorem ty_19 : TyOk Tryz.prog 19 ⟨1,8,[.v (.pointer none)],.st [(0,17)],false⟩:=z7 (zs:=[.pointer none]) (by kernel_rfl) Tryz.underlying19 rfl rfl rfl rfl (by kernel_rfl) (by kernel_rfl) (by kernel_rfl)
theorem ty_21 : TyOk Tryz.prog 21 ⟨1,4,[.v (.int .i32 0)],.int .i32,false⟩:=z7 (zs:=[.int .i32 0]) (by kernel_rfl) Tryz.underlying21 rfl rfl rfl rfl (by kernel_rfl) (by kernel_rfl) (by kernel_rfl)
theorem ty_22 : TyOk Tryz.prog 22 ⟨1,8,[.v (.nilFunc)],.fn,false⟩:=z7 (zs:=[.nilFunc]) (by kernel_rfl) Tryz.underlying22 rfl trivial rfl rfl (by kernel_rfl) (by kernel_rfl) (by kernel_rfl)
theorem ty_23 : TyOk Tryz.prog 23 ⟨1,8,[.v (.nilFunc)],.fn,false⟩:=z7 (zs:=[.nilFunc]) (by kernel_rfl) Tryz.underlying23 rfl trivial rfl rfl (by kernel_rfl) (by kernel_rfl) (by kernel_rfl)
theorem ty_24 : TyOk Tryz.prog 24 ⟨2,16,[.v (.int .i64 0),.v (.int .i64 0)],.st [(0,3),(1,3)],true⟩:=z7 (zs:=[.int .i64 0,.int .i64 0]) (by kernel_rfl) Tryz.underlying24 rfl rfl rfl rfl (by kernel_rfl) (by kernel_rfl) (by kernel_rfl)
theorem ty_25 : TyOk Tryz.prog 25 ⟨2,16,[.v (.int .i64 0),.v (.int .i64 0)],.st [(0,3),(1,3)],true⟩:=z7 (zs:=[.int .i64 0,.int .i64 0]) (by kernel_rfl) Tryz.underlying25 rfl rfl rfl rfl (by kernel_rfl) (by kernel_rfl) (by kernel_rfl)
theorem ty_26 : TyOk Tryz.prog 26 ⟨1,24,[.v (.slice none 0 0)],.sl 153,false⟩:=z7 (zs:=[.slice none 0 0]) (by kernel_rfl) Tryz.underlying26 rfl rfl rfl rfl (by kernel_rfl) (by kernel_rfl) (by kernel_rfl)
theorem ty_27 : TyOk Tryz.prog 27 ⟨1,24,[.v (.slice none 0 0)],.st [(0,26)],false⟩:=z7 (zs:=[.slice none 0 0]) (by kernel_rfl) Tryz.underlying27 rfl rfl rfl rfl (by kernel_rfl) (by kernel_rfl) (by kernel_rfl)
theorem ty_28 : TyOk Tryz.prog 28 ⟨1,24,[.v (.slice none 0 0)],.st [(0,26)],false⟩:=z7 (zs:=[.slice none 0 0]) (by kernel_rfl) Tryz.underlying28 rfl rfl rfl rfl (by kernel_rfl) (by kernel_rfl) (by kernel_rfl)
theorem ty_29 : TyOk Tryz.prog 29 ⟨1,24,[.v (.slice none 0 0)],.st [(0,28)],false⟩:=z7 (zs:=[.slice none 0 0]) (by kernel_rfl) Tryz.underlying29 rfl rfl rfl rfl (by kernel_rfl) (by kernel_rfl) (by kernel_rfl)
theorem ty_30 : TyOk Tryz.prog 30 ⟨1,24,[.v (.slice none 0 0)],.st [(0,28)],false⟩:=z7 (zs:=[.slice none 0 0]) (by kernel_rfl) Tryz.underlying30 rfl rfl rfl rfl (by kernel_rfl) (by kernel_rfl) (by kernel_rfl)
theorem ty_31 : TyOk Tryz.prog 31 ⟨1,24,[.v (.slice none 0 0)],.st [(0,28)],false⟩:=z7 (zs:=[.slice none 0 0]) (by kernel_rfl) Tryz.underlying31 rfl rfl rfl rfl (by kernel_rfl) (by kernel_rfl) (by kernel_rfl)
theorem ty_32 : TyOk Tryz.prog 32 ⟨3,64,[.v (.slice none 0 0),.v (.slice none 0 0),.v (.string ⟨#[]⟩)],.st [(0,30),(1,31),(2,9)],false⟩:=z7 (zs:=[.slice none 0 0,.slice none 0 0,.string ⟨#[]⟩]) (by kernel_rfl) Tryz.underlying32 rfl rfl rfl rfl (by kernel_rfl) (by kernel_rfl) (by kernel_rfl)
theorem ty_33 : TyOk Tryz.prog 33 ⟨3,64,[.v (.slice none 0 0),.v (.slice none 0 0),.v (.string ⟨#[]⟩)],.st [(0,30),(1,31),(2,9)],false⟩:=z7 (zs:=[.slice none 0 0,.slice none 0 0,.string ⟨#[]⟩]) (by kernel_rfl) Tryz.underlying33 rfl rfl rfl rfl (by kernel_rfl) (by kernel_rfl) (by kernel_rfl)
theorem ty_34 : TyOk Tryz.prog 34 ⟨16,176,[.v (.int .i64 0),.v (.int .i64 0),.v (.bool false),.v (.int .i64 0),.v (.int .i64 0),.v (.int .i64 0),.v (.int .i64 0),.v (.int .i64 0),.v (.slice none 0 0),.v (.slice none 0 0),.v (.string ⟨#[]⟩),.v (.int .i64 0),.v (.int .i64 0),.v (.string ⟨#[]⟩),.v (.int .i64 0),.v (.int .i64 0)],.st [(0,25),(2,4),(3,2),(4,2),(5,2),(6,3),(7,3),(8,33),(11,3),(12,3),(13,9),(14,3),(15,3)],false⟩:=z7 (zs:=[.int .i64 0,.int .i64 0,.bool false,.int .i64 0,.int .i64 0,.int .i64 0,.int .i64 0,.int .i64 0,.slice none 0 0,.slice none 0 0,.string ⟨#[]⟩,.int .i64 0,.int .i64 0,.string ⟨#[]⟩,.int .i64 0,.int .i64 0]) (by kernel_rfl) Tryz.underlying34 rfl rfl rfl rfl (by kernel_rfl) (by kernel_rfl) (by kernel_rfl)
theorem ty_35 : TyOk Tryz.prog 35 ⟨16,176,[.v (.int .i64 0),.v (.int .i64 0),.v (.bool false),.v (.int .i64 0),.v (.int .i64 0),.v (.int .i64 0),.v (.int .i64 0),.v (.int .i64 0),.v (.slice none 0 0),.v (.slice none 0 0),.v (.string ⟨#[]⟩),.v (.int .i64 0),.v (.int .i64 0),.v (.string ⟨#[]⟩),.v (.int .i64 0),.v (.int .i64 0)],.st [(0,25),(2,4),(3,2),(4,2),(5,2),(6,3),(7,3),(8,33),(11,3),(12,3),(13,9),(14,3),(15,3)],false⟩:=z7 (zs:=[.int .i64 0,.int .i64 0,.bool false,.int .i64 0,.int .i64 0,.int .i64 0,.int .i64 0,.int .i64 0,.slice none 0 0,.slice none 0 0,.string ⟨#[]⟩,.int .i64 0,.int .i64 0,.string ⟨#[]⟩,.int .i64 0,.int .i64 0]) (by kernel_rfl) Tryz.underlying35 rfl rfl rfl rfl (by kernel_rfl) (by kernel_rfl) (by kernel_rfl)
theorem ty_36 : TyOk Tryz.prog 36 ⟨1,24,[.v (.slice none 0 0)],.sl 49,false⟩:=z7 (zs:=[.slice none 0 0]) (by kernel_rfl) Tryz.underlying36 rfl rfl rfl rfl (by kernel_rfl) (by kernel_rfl) (by kernel_rfl)
theorem ty_37 : TyOk Tryz.prog 37 ⟨1,8,[.v (.int .i64 0)],.int .i64,false⟩:=z7 (zs:=[.int .i64 0]) (by kernel_rfl) Tryz.underlying37 rfl rfl rfl rfl (by kernel_rfl) (by kernel_rfl) (by kernel_rfl)
theorem ty_39 : TyOk Tryz.prog 39 ⟨1,8,[.v (.nilFunc)],.fn,false⟩:=z7 (zs:=[.nilFunc]) (by kernel_rfl) Tryz.underlying39 rfl trivial rfl rfl (by kernel_rfl) (by kernel_rfl) (by kernel_rfl)
theorem ty_41 : TyOk Tryz.prog 41 ⟨1,8,[.v (.nilFunc)],.fn,false⟩:=z7 (zs:=[.nilFunc]) (by kernel_rfl) Tryz.underlying41 rfl trivial rfl rfl (by kernel_rfl) (by kernel_rfl) (by kernel_rfl)
theorem ty_42 : TyOk Tryz.prog 42 ⟨1,24,[.v (.slice none 0 0)],.sl 2,false⟩:=z7 (zs:=[.slice none 0 0]) (by kernel_rfl) Tryz.underlying42 rfl rfl rfl rfl (by kernel_rfl) (by kernel_rfl) (by kernel_rfl)
theorem ty_43 : TyOk Tryz.prog 43 ⟨6,88,[.v (.int .i64 0),.v (.int .i64 0),.v (.int .i64 0),.v (.slice none 0 0),.v (.string ⟨#[]⟩),.v (.slice none 0 0)],.st [(0,3),(1,3),(2,3),(3,42),(4,9),(5,42)],false⟩:=z7 (zs:=[.int .i64 0,.int .i64 0,.int .i64 0,.slice none 0 0,.string ⟨#[]⟩,.slice none 0 0]) (by kernel_rfl) Tryz.underlying43 rfl rfl rfl rfl (by kernel_rfl) (by kernel_rfl) (by kernel_rfl)
theorem ty_44 : TyOk Tryz.prog 44 ⟨6,88,[.v (.int .i64 0),.v (.int .i64 0),.v (.int .i64 0),.v (.slice none 0 0),.v (.string ⟨#[]⟩),.v (.slice none 0 0)],.st [(0,3),(1,3),(2,3),(3,42),(4,9),(5,42)],false⟩:=z7 (zs:=[.int .i64 0,.int .i64 0,.int .i64 0,.slice none 0 0,.string ⟨#[]⟩,.slice none 0 0]) (by kernel_rfl) Tryz.underlying44 rfl rfl rfl rfl (by kernel_rfl) (by kernel_rfl) (by kernel_rfl)
theorem ty_45 : TyOk Tryz.prog 45 ⟨1,8,[.v (.nilFunc)],.fn,false⟩:=z7 (zs:=[.nilFunc]) (by kernel_rfl) Tryz.underlying45 rfl trivial rfl rfl (by kernel_rfl) (by kernel_rfl) (by kernel_rfl)
theorem ty_46 : TyOk Tryz.prog 46 ⟨1,8,[.v (.nilFunc)],.fn,false⟩:=z7 (zs:=[.nilFunc]) (by kernel_rfl) Tryz.underlying46 rfl trivial rfl rfl (by kernel_rfl) (by kernel_rfl) (by kernel_rfl)
theorem ty_47 : TyOk Tryz.prog 47 ⟨1,8,[.v (.nilFunc)],.fn,false⟩:=z7 (zs:=[.nilFunc]) (by kernel_rfl) Tryz.underlying47 rfl trivial rfl rfl (by kernel_rfl) (by kernel_rfl) (by kernel_rfl)
theorem ty_48 : TyOk Tryz.prog 48 ⟨4,72,[.v (.int .i64 0),.v (.slice none 0 0),.v (.string ⟨#[]⟩),.v (.slice none 0 0)],.st [(0,3),(1,42),(2,9),(3,42)],false⟩:=z7 (zs:=[.int .i64 0,.slice none 0 0,.string ⟨#[]⟩,.slice none 0 0]) (by kernel_rfl) Tryz.underlying48 rfl rfl rfl rfl (by kernel_rfl) (by kernel_rfl) (by kernel_rfl)
theorem ty_49 : TyOk Tryz.prog 49 ⟨4,72,[.v (.int .i64 0),.v (.slice none 0 0),.v (.string ⟨#[]⟩),.v (.slice none 0 0)],.st [(0,3),(1,42),(2,9),(3,42)],false⟩:=z7 (zs:=[.int .i64 0,.slice none 0 0,.string ⟨#[]⟩,.slice none 0 0]) (by kernel_rfl) Tryz.underlying49 rfl rfl rfl rfl (by kernel_rfl) (by kernel_rfl) (by kernel_rfl)
theorem ty_50 : TyOk Tryz.prog 50 ⟨1,8,[.v (.nilFunc)],.fn,false⟩:=z7 (zs:=[.nilFunc]) (by kernel_rfl) Tryz.underlying50 rfl trivial rfl rfl (by kernel_rfl) (by kernel_rfl) (by kernel_rfl)
theorem ty_51 : TyOk Tryz.prog 51 ⟨1,8,[.v (.nilFunc)],.fn,false⟩:=z7 (zs:=[.nilFunc]) (by kernel_rfl) Tryz.underlying51 rfl trivial rfl rfl (by kernel_rfl) (by kernel_rfl) (by kernel_rfl)
theorem ty_52 : TyOk Tryz.prog 52 ⟨1,24,[.v (.slice none 0 0)],.sl 44,false⟩:=z7 (zs:=[.slice none 0 0]) (by kernel_rfl) Tryz.underlying52 rfl rfl rfl rfl (by kernel_rfl) (by kernel_rfl) (by kernel_rfl)
theorem ty_53 : TyOk Tryz.prog 53 ⟨1,8,[.v (.nilFunc)],.fn,false⟩:=z7 (zs:=[.nilFunc]) (by kernel_rfl) Tryz.underlying53 rfl trivial rfl rfl (by kernel_rfl) (by kernel_rfl) (by kernel_rfl)
theorem ty_54 : TyOk Tryz.prog 54 ⟨1,24,[.v (.slice none 0 0)],.sl 9,false⟩:=z7 (zs:=[.slice none 0 0]) (by kernel_rfl) Tryz.underlying54 rfl rfl rfl rfl (by kernel_rfl) (by kernel_rfl) (by kernel_rfl)
theorem ty_55 : TyOk Tryz.prog 55 ⟨13,152,[.v (.int .i64 0),.v (.int .i64 0),.v (.int .i64 0),.v (.string ⟨#[]⟩),.v (.slice none 0 0),.v (.slice none 0 0),.v (.int .i64 0),.v (.int .i64 0),.v (.int .i64 0),.v (.int .i64 0),.v (.string ⟨#[]⟩),.v (.int .i64 0),.v (.int .i64 0)],.st [(0,2),(1,3),(2,3),(3,9),(4,54),(5,54),(6,3),(7,3),(8,3),(9,3),(10,9),(11,3),(12,3)],false⟩:=z7 (zs:=[.int .i64 0,.int .i64 0,.int .i64 0,.string ⟨#[]⟩,.slice none 0 0,.slice none 0 0,.int .i64 0,.int .i64 0,.int .i64 0,.int .i64 0,.string ⟨#[]⟩,.int .i64 0,.int .i64 0]) (by kernel_rfl) Tryz.underlying55 rfl rfl rfl rfl (by kernel_rfl) (by kernel_rfl) (by kernel_rfl)
theorem ty_56 : TyOk Tryz.prog 56 ⟨13,152,[.v (.int .i64 0),.v (.int .i64 0),.v (.int .i64 0),.v (.string ⟨#[]⟩),.v (.slice none 0 0),.v (.slice none 0 0),.v (.int .i64 0),.v (.int .i64 0),.v (.int .i64 0),.v (.int .i64 0),.v (.string ⟨#[]⟩),.v (.int .i64 0),.v (.int .i64 0)],.st [(0,2),(1,3),(2,3),(3,9),(4,54),(5,54),(6,3),(7,3),(8,3),(9,3),(10,9),(11,3),(12,3)],false⟩:=z7 (zs:=[.int .i64 0,.int .i64 0,.int .i64 0,.string ⟨#[]⟩,.slice none 0 0,.slice none 0 0,.int .i64 0,.int .i64 0,.int .i64 0,.int .i64 0,.string ⟨#[]⟩,.int .i64 0,.int .i64 0]) (by kernel_rfl) Tryz.underlying56 rfl rfl rfl rfl (by kernel_rfl) (by kernel_rfl) (by kernel_rfl)
theorem ty_58 : TyOk Tryz.prog 58 ⟨1,8,[.v (.nilFunc)],.fn,false⟩:=z7 (zs:=[.nilFunc]) (by kernel_rfl) Tryz.underlying58 rfl trivial rfl rfl (by kernel_rfl) (by kernel_rfl) (by kernel_rfl)
theorem ty_67 : TyOk Tryz.prog 67 ⟨1,24,[.v (.slice none 0 0)],.sl 5,false⟩:=z7 (zs:=[.slice none 0 0]) (by kernel_rfl) Tryz.underlying67 rfl rfl rfl rfl (by kernel_rfl) (by kernel_rfl) (by kernel_rfl)
theorem ty_69 : TyOk Tryz.prog 69 ⟨1,4,[.v (.int .u32 0)],.int .u32,false⟩:=z7 (zs:=[.int .u32 0]) (by kernel_rfl) Tryz.underlying69 rfl rfl rfl rfl (by kernel_rfl) (by kernel_rfl) (by kernel_rfl)
theorem ty_70 : TyOk Tryz.prog 70 ⟨1,4,[.v (.int .u32 0)],.int .u32,false⟩:=z7 (zs:=[.int .u32 0]) (by kernel_rfl) Tryz.underlying70 rfl rfl rfl rfl (by kernel_rfl) (by kernel_rfl) (by kernel_rfl)
theorem ty_78 : TyOk Tryz.prog 78 ⟨1,8,[.v (.nilFunc)],.fn,false⟩:=z7 (zs:=[.nilFunc]) (by kernel_rfl) Tryz.underlying78 rfl trivial rfl rfl (by kernel_rfl) (by kernel_rfl) (by kernel_rfl)
theorem ty_79 : TyOk Tryz.prog 79 ⟨1,8,[.v (.nilFunc)],.fn,false⟩:=z7 (zs:=[.nilFunc]) (by kernel_rfl) Tryz.underlying79 rfl trivial rfl rfl (by kernel_rfl) (by kernel_rfl) (by kernel_rfl)
theorem ty_81 : TyOk Tryz.prog 81 ⟨1,8,[.v (.map none)],.mp 3 79,false⟩:=z7 (zs:=[.map none]) (by kernel_rfl) Tryz.underlying81 rfl ⟨rfl,rfl⟩ rfl rfl (by kernel_rfl) (by kernel_rfl) (by kernel_rfl)
theorem ty_83 : TyOk Tryz.prog 83 ⟨1,8,[.v (.pointer none)],.ptr 35,false⟩:=z7 (zs:=[.pointer none]) (by kernel_rfl) Tryz.underlying83 rfl rfl rfl rfl (by kernel_rfl) (by kernel_rfl) (by kernel_rfl)
theorem ty_86 : TyOk Tryz.prog 86 ⟨1,24,[.v (.slice none 0 0)],.sl 93,false⟩:=z7 (zs:=[.slice none 0 0]) (by kernel_rfl) Tryz.underlying86 rfl rfl rfl rfl (by kernel_rfl) (by kernel_rfl) (by kernel_rfl)
theorem ty_88 : TyOk Tryz.prog 88 ⟨1,8,[.v (.nilFunc)],.fn,false⟩:=z7 (zs:=[.nilFunc]) (by kernel_rfl) Tryz.underlying88 rfl trivial rfl rfl (by kernel_rfl) (by kernel_rfl) (by kernel_rfl)
theorem ty_92 : TyOk Tryz.prog 92 ⟨4,40,[.v (.string ⟨#[]⟩),.v (.int .i64 0),.v (.int .i64 0),.v (.int .i64 0)],.st [(0,9),(1,3),(2,3),(3,3)],true⟩:=z7 (zs:=[.string ⟨#[]⟩,.int .i64 0,.int .i64 0,.int .i64 0]) (by kernel_rfl) Tryz.underlying92 rfl rfl rfl rfl (by kernel_rfl) (by kernel_rfl) (by kernel_rfl)
theorem ty_93 : TyOk Tryz.prog 93 ⟨4,40,[.v (.string ⟨#[]⟩),.v (.int .i64 0),.v (.int .i64 0),.v (.int .i64 0)],.st [(0,9),(1,3),(2,3),(3,3)],true⟩:=z7 (zs:=[.string ⟨#[]⟩,.int .i64 0,.int .i64 0,.int .i64 0]) (by kernel_rfl) Tryz.underlying93 rfl rfl rfl rfl (by kernel_rfl) (by kernel_rfl) (by kernel_rfl)
theorem ty_95 : TyOk Tryz.prog 95 ⟨1,24,[.v (.slice none 0 0)],.sl 3,false⟩:=z7 (zs:=[.slice none 0 0]) (by kernel_rfl) Tryz.underlying95 rfl rfl rfl rfl (by kernel_rfl) (by kernel_rfl) (by kernel_rfl)
theorem ty_96 : TyOk Tryz.prog 96 ⟨3,40,[.v (.slice none 0 0),.v (.bool false),.v (.int .i64 0)],.st [(0,95),(1,4),(2,3)],false⟩:=z7 (zs:=[.slice none 0 0,.bool false,.int .i64 0]) (by kernel_rfl) Tryz.underlying96 rfl rfl rfl rfl (by kernel_rfl) (by kernel_rfl) (by kernel_rfl)
theorem ty_97 : TyOk Tryz.prog 97 ⟨3,40,[.v (.slice none 0 0),.v (.bool false),.v (.int .i64 0)],.st [(0,95),(1,4),(2,3)],false⟩:=z7 (zs:=[.slice none 0 0,.bool false,.int .i64 0]) (by kernel_rfl) Tryz.underlying97 rfl rfl rfl rfl (by kernel_rfl) (by kernel_rfl) (by kernel_rfl)
theorem ty_100 : TyOk Tryz.prog 100 ⟨1,24,[.v (.slice none 0 0)],.sl 105,false⟩:=z7 (zs:=[.slice none 0 0]) (by kernel_rfl) Tryz.underlying100 rfl rfl rfl rfl (by kernel_rfl) (by kernel_rfl) (by kernel_rfl)
theorem ty_104 : TyOk Tryz.prog 104 ⟨4,40,[.v (.string ⟨#[]⟩),.v (.int .i64 0),.v (.int .i64 0),.v (.int .i64 0)],.st [(0,9),(1,3),(2,3),(3,3)],true⟩:=z7 (zs:=[.string ⟨#[]⟩,.int .i64 0,.int .i64 0,.int .i64 0]) (by kernel_rfl) Tryz.underlying104 rfl rfl rfl rfl (by kernel_rfl) (by kernel_rfl) (by kernel_rfl)
theorem ty_105 : TyOk Tryz.prog 105 ⟨4,40,[.v (.string ⟨#[]⟩),.v (.int .i64 0),.v (.int .i64 0),.v (.int .i64 0)],.st [(0,9),(1,3),(2,3),(3,3)],true⟩:=z7 (zs:=[.string ⟨#[]⟩,.int .i64 0,.int .i64 0,.int .i64 0]) (by kernel_rfl) Tryz.underlying105 rfl rfl rfl rfl (by kernel_rfl) (by kernel_rfl) (by kernel_rfl)
theorem ty_108 : TyOk Tryz.prog 108 ⟨3,40,[.v (.slice none 0 0),.v (.bool false),.v (.int .i64 0)],.st [(0,95),(1,4),(2,3)],false⟩:=z7 (zs:=[.slice none 0 0,.bool false,.int .i64 0]) (by kernel_rfl) Tryz.underlying108 rfl rfl rfl rfl (by kernel_rfl) (by kernel_rfl) (by kernel_rfl)
theorem ty_120 : TyOk Tryz.prog 120 ⟨3,48,[.v (.string ⟨#[]⟩),.v (.string ⟨#[]⟩),.v (.string ⟨#[]⟩)],.st [(0,9),(1,9),(2,9)],true⟩:=z7 (zs:=[.string ⟨#[]⟩,.string ⟨#[]⟩,.string ⟨#[]⟩]) (by kernel_rfl) Tryz.underlying120 rfl rfl rfl rfl (by kernel_rfl) (by kernel_rfl) (by kernel_rfl)
theorem ty_121 : TyOk Tryz.prog 121 ⟨3,48,[.v (.string ⟨#[]⟩),.v (.string ⟨#[]⟩),.v (.string ⟨#[]⟩)],.st [(0,9),(1,9),(2,9)],true⟩:=z7 (zs:=[.string ⟨#[]⟩,.string ⟨#[]⟩,.string ⟨#[]⟩]) (by kernel_rfl) Tryz.underlying121 rfl rfl rfl rfl (by kernel_rfl) (by kernel_rfl) (by kernel_rfl)
theorem ty_125 : TyOk Tryz.prog 125 ⟨1,8,[.v (.nilFunc)],.fn,false⟩:=z7 (zs:=[.nilFunc]) (by kernel_rfl) Tryz.underlying125 rfl trivial rfl rfl (by kernel_rfl) (by kernel_rfl) (by kernel_rfl)
theorem ty_126 : TyOk Tryz.prog 126 ⟨1,8,[.v (.nilFunc)],.fn,false⟩:=z7 (zs:=[.nilFunc]) (by kernel_rfl) Tryz.underlying126 rfl trivial rfl rfl (by kernel_rfl) (by kernel_rfl) (by kernel_rfl)
theorem ty_127 : TyOk Tryz.prog 127 ⟨1,8,[.v (.nilFunc)],.fn,false⟩:=z7 (zs:=[.nilFunc]) (by kernel_rfl) Tryz.underlying127 rfl trivial rfl rfl (by kernel_rfl) (by kernel_rfl) (by kernel_rfl)
theorem ty_128 : TyOk Tryz.prog 128 ⟨1,8,[.v (.nilFunc)],.fn,false⟩:=z7 (zs:=[.nilFunc]) (by kernel_rfl) Tryz.underlying128 rfl trivial rfl rfl (by kernel_rfl) (by kernel_rfl) (by kernel_rfl)
theorem ty_129 : TyOk Tryz.prog 129 ⟨1,8,[.v (.nilFunc)],.fn,false⟩:=z7 (zs:=[.nilFunc]) (by kernel_rfl) Tryz.underlying129 rfl trivial rfl rfl (by kernel_rfl) (by kernel_rfl) (by kernel_rfl)
theorem ty_130 : TyOk Tryz.prog 130 ⟨1,8,[.v (.nilFunc)],.fn,false⟩:=z7 (zs:=[.nilFunc]) (by kernel_rfl) Tryz.underlying130 rfl trivial rfl rfl (by kernel_rfl) (by kernel_rfl) (by kernel_rfl)
theorem ty_140 : TyOk Tryz.prog 140 ⟨90,1440,List.replicate 90 (.v (.string ⟨#[]⟩)),.arr 30 121,false⟩:=z7 (zs:=List.replicate 90 (.string ⟨#[]⟩)) (by kernel_rfl) Tryz.underlying140 List.map_replicate ⟨rfl,rfl⟩ List.length_replicate rfl (by kernel_rfl) (by kernel_rfl) (by kernel_rfl)
theorem ty_142 : TyOk Tryz.prog 142 ⟨177,2832,List.replicate 177 (.v (.string ⟨#[]⟩)),.arr 59 121,false⟩:=z7 (zs:=List.replicate 177 (.string ⟨#[]⟩)) (by kernel_rfl) Tryz.underlying142 List.map_replicate ⟨rfl,rfl⟩ List.length_replicate rfl (by kernel_rfl) (by kernel_rfl) (by kernel_rfl)
theorem ty_147 : TyOk Tryz.prog 147 ⟨78,1248,List.replicate 78 (.v (.string ⟨#[]⟩)),.arr 26 121,false⟩:=z7 (zs:=List.replicate 78 (.string ⟨#[]⟩)) (by kernel_rfl) Tryz.underlying147 List.map_replicate ⟨rfl,rfl⟩ List.length_replicate rfl (by kernel_rfl) (by kernel_rfl) (by kernel_rfl)
theorem ty_152 : TyOk Tryz.prog 152 ⟨3,40,[.v (.int .i64 0),.v (.string ⟨#[]⟩),.v (.string ⟨#[]⟩)],.st [(0,3),(1,9),(2,9)],true⟩:=z7 (zs:=[.int .i64 0,.string ⟨#[]⟩,.string ⟨#[]⟩]) (by kernel_rfl) Tryz.underlying152 rfl rfl rfl rfl (by kernel_rfl) (by kernel_rfl) (by kernel_rfl)
theorem ty_153 : TyOk Tryz.prog 153 ⟨3,40,[.v (.int .i64 0),.v (.string ⟨#[]⟩),.v (.string ⟨#[]⟩)],.st [(0,3),(1,9),(2,9)],true⟩:=z7 (zs:=[.int .i64 0,.string ⟨#[]⟩,.string ⟨#[]⟩]) (by kernel_rfl) Tryz.underlying153 rfl rfl rfl rfl (by kernel_rfl) (by kernel_rfl) (by kernel_rfl)
theorem ty_154 : TyOk Tryz.prog 154 ⟨1,8,[.v (.pointer none)],.ptr 25,false⟩:=z7 (zs:=[.pointer none]) (by kernel_rfl) Tryz.underlying154 rfl rfl rfl rfl (by kernel_rfl) (by kernel_rfl) (by kernel_rfl)
theorem ty_159 : TyOk Tryz.prog 159 ⟨1,8,[.v (.map none)],.mp 3 47,false⟩:=z7 (zs:=[.map none]) (by kernel_rfl) Tryz.underlying159 rfl ⟨rfl,rfl⟩ rfl rfl (by kernel_rfl) (by kernel_rfl) (by kernel_rfl)
theorem ty_161 : TyOk Tryz.prog 161 ⟨256,256,List.replicate 256 (.v (.int .u8 0)),.arr 256 5,false⟩:=z7 (zs:=List.replicate 256 (.int .u8 0)) (by kernel_rfl) Tryz.underlying161 List.map_replicate ⟨rfl,rfl⟩ List.length_replicate rfl (by kernel_rfl) (by kernel_rfl) (by kernel_rfl)
theorem ty_163 : TyOk Tryz.prog 163 ⟨1,8,[.v (.nilFunc)],.fn,false⟩:=z7 (zs:=[.nilFunc]) (by kernel_rfl) Tryz.underlying163 rfl trivial rfl rfl (by kernel_rfl) (by kernel_rfl) (by kernel_rfl)
theorem ty_168 : TyOk Tryz.prog 168 ⟨1,24,[.v (.slice none 0 0)],.sl 170,false⟩:=z7 (zs:=[.slice none 0 0]) (by kernel_rfl) Tryz.underlying168 rfl rfl rfl rfl (by kernel_rfl) (by kernel_rfl) (by kernel_rfl)
theorem ty_169 : TyOk Tryz.prog 169 ⟨2,16,[.v (.int .i64 0),.v (.int .i64 0)],.st [(0,3),(1,3)],true⟩:=z7 (zs:=[.int .i64 0,.int .i64 0]) (by kernel_rfl) Tryz.underlying169 rfl rfl rfl rfl (by kernel_rfl) (by kernel_rfl) (by kernel_rfl)
theorem ty_170 : TyOk Tryz.prog 170 ⟨2,16,[.v (.int .i64 0),.v (.int .i64 0)],.st [(0,3),(1,3)],true⟩:=z7 (zs:=[.int .i64 0,.int .i64 0]) (by kernel_rfl) Tryz.underlying170 rfl rfl rfl rfl (by kernel_rfl) (by kernel_rfl) (by kernel_rfl)
theorem ty_172 : TyOk Tryz.prog 172 ⟨1,8,[.v (.pointer none)],.ptr 186,false⟩:=z7 (zs:=[.pointer none]) (by kernel_rfl) Tryz.underlying172 rfl rfl rfl rfl (by kernel_rfl) (by kernel_rfl) (by kernel_rfl)
theorem ty_174 : TyOk Tryz.prog 174 ⟨256,256,List.replicate 256 (.v (.bool false)),.arr 256 4,false⟩:=z7 (zs:=List.replicate 256 (.bool false)) (by kernel_rfl) Tryz.underlying174 List.map_replicate ⟨rfl,rfl⟩ List.length_replicate rfl (by kernel_rfl) (by kernel_rfl) (by kernel_rfl)
theorem ty_175 : TyOk Tryz.prog 175 ⟨256,256,List.replicate 256 (.v (.bool false)),.arr 256 4,false⟩:=z7 (zs:=List.replicate 256 (.bool false)) (by kernel_rfl) Tryz.underlying175 List.map_replicate ⟨rfl,rfl⟩ List.length_replicate rfl (by kernel_rfl) (by kernel_rfl) (by kernel_rfl)
theorem ty_180 : TyOk Tryz.prog 180 ⟨1,8,[.v (.int .u64 0)],.int .u64,false⟩:=z7 (zs:=[.int .u64 0]) (by kernel_rfl) Tryz.underlying180 rfl rfl rfl rfl (by kernel_rfl) (by kernel_rfl) (by kernel_rfl)
theorem ty_183 : TyOk Tryz.prog 183 ⟨1,24,[.v (.slice none 0 0)],.sl 189,false⟩:=z7 (zs:=[.slice none 0 0]) (by kernel_rfl) Tryz.underlying183 rfl rfl rfl rfl (by kernel_rfl) (by kernel_rfl) (by kernel_rfl)
theorem ty_184 : TyOk Tryz.prog 184 ⟨1,24,[.v (.slice none 0 0)],.sl 192,false⟩:=z7 (zs:=[.slice none 0 0]) (by kernel_rfl) Tryz.underlying184 rfl rfl rfl rfl (by kernel_rfl) (by kernel_rfl) (by kernel_rfl)
theorem ty_185 : TyOk Tryz.prog 185 ⟨3,56,[.v (.slice none 0 0),.v (.slice none 0 0),.v (.int .i64 0)],.st [(0,183),(1,184),(2,3)],false⟩:=z7 (zs:=[.slice none 0 0,.slice none 0 0,.int .i64 0]) (by kernel_rfl) Tryz.underlying185 rfl rfl rfl rfl (by kernel_rfl) (by kernel_rfl) (by kernel_rfl)
theorem ty_186 : TyOk Tryz.prog 186 ⟨3,56,[.v (.slice none 0 0),.v (.slice none 0 0),.v (.int .i64 0)],.st [(0,183),(1,184),(2,3)],false⟩:=z7 (zs:=[.slice none 0 0,.slice none 0 0,.int .i64 0]) (by kernel_rfl) Tryz.underlying186 rfl rfl rfl rfl (by kernel_rfl) (by kernel_rfl) (by kernel_rfl)
theorem ty_187 : TyOk Tryz.prog 187 ⟨1,2,[.v (.int .u16 0)],.int .u16,false⟩:=z7 (zs:=[.int .u16 0]) (by kernel_rfl) Tryz.underlying187 rfl rfl rfl rfl (by kernel_rfl) (by kernel_rfl) (by kernel_rfl)
theorem ty_188 : TyOk Tryz.prog 188 ⟨3,6,[.v (.int .u16 0),.v (.int .u16 0),.v (.int .u16 0)],.st [(0,187),(1,187),(2,187)],true⟩:=z7 (zs:=[.int .u16 0,.int .u16 0,.int .u16 0]) (by kernel_rfl) Tryz.underlying188 rfl rfl rfl rfl (by kernel_rfl) (by kernel_rfl) (by kernel_rfl)
theorem ty_189 : TyOk Tryz.prog 189 ⟨3,6,[.v (.int .u16 0),.v (.int .u16 0),.v (.int .u16 0)],.st [(0,187),(1,187),(2,187)],true⟩:=z7 (zs:=[.int .u16 0,.int .u16 0,.int .u16 0]) (by kernel_rfl) Tryz.underlying189 rfl rfl rfl rfl (by kernel_rfl) (by kernel_rfl) (by kernel_rfl)
theorem ty_191 : TyOk Tryz.prog 191 ⟨3,12,[.v (.int .u32 0),.v (.int .u32 0),.v (.int .u32 0)],.st [(0,69),(1,69),(2,69)],true⟩:=z7 (zs:=[.int .u32 0,.int .u32 0,.int .u32 0]) (by kernel_rfl) Tryz.underlying191 rfl rfl rfl rfl (by kernel_rfl) (by kernel_rfl) (by kernel_rfl)
theorem ty_192 : TyOk Tryz.prog 192 ⟨3,12,[.v (.int .u32 0),.v (.int .u32 0),.v (.int .u32 0)],.st [(0,69),(1,69),(2,69)],true⟩:=z7 (zs:=[.int .u32 0,.int .u32 0,.int .u32 0]) (by kernel_rfl) Tryz.underlying192 rfl rfl rfl rfl (by kernel_rfl) (by kernel_rfl) (by kernel_rfl)
theorem ty_194 : TyOk Tryz.prog 194 ⟨1,8,[.v (.pointer none)],.ptr 175,false⟩:=z7 (zs:=[.pointer none]) (by kernel_rfl) Tryz.underlying194 rfl rfl rfl rfl (by kernel_rfl) (by kernel_rfl) (by kernel_rfl)
theorem ty_197 : TyOk Tryz.prog 197 ⟨1,8,[.v (.pointer none)],.ptr 189,false⟩:=z7 (zs:=[.pointer none]) (by kernel_rfl) Tryz.underlying197 rfl rfl rfl rfl (by kernel_rfl) (by kernel_rfl) (by kernel_rfl)
theorem ty_198 : TyOk Tryz.prog 198 ⟨1,8,[.v (.pointer none)],.ptr 192,false⟩:=z7 (zs:=[.pointer none]) (by kernel_rfl) Tryz.underlying198 rfl rfl rfl rfl (by kernel_rfl) (by kernel_rfl) (by kernel_rfl)
theorem ty_199 : TyOk Tryz.prog 199 ⟨4,40,[.v (.pointer none),.v (.pointer none),.v (.pointer none),.v (.string ⟨#[]⟩)],.st [(0,17),(1,17),(2,17),(3,9)],false⟩:=z7 (zs:=[.pointer none,.pointer none,.pointer none,.string ⟨#[]⟩]) (by kernel_rfl) Tryz.underlying199 rfl rfl rfl rfl (by kernel_rfl) (by kernel_rfl) (by kernel_rfl)
theorem ty_200 : TyOk Tryz.prog 200 ⟨4,40,[.v (.pointer none),.v (.pointer none),.v (.pointer none),.v (.string ⟨#[]⟩)],.st [(0,17),(1,17),(2,17),(3,9)],false⟩:=z7 (zs:=[.pointer none,.pointer none,.pointer none,.string ⟨#[]⟩]) (by kernel_rfl) Tryz.underlying200 rfl rfl rfl rfl (by kernel_rfl) (by kernel_rfl) (by kernel_rfl)
theorem ty_201 : TyOk Tryz.prog 201 ⟨0,0,[],.arr 0 16,false⟩:=z7 (zs:=[]) (by kernel_rfl) Tryz.underlying201 rfl ⟨rfl,rfl⟩ rfl rfl (by kernel_rfl) (by kernel_rfl) (by kernel_rfl)
theorem ty_202 : TyOk Tryz.prog 202 ⟨0,0,[],.st [(0,201)],false⟩:=z7 (zs:=[]) (by kernel_rfl) Tryz.underlying202 rfl rfl rfl rfl (by kernel_rfl) (by kernel_rfl) (by kernel_rfl)
theorem ty_203 : TyOk Tryz.prog 203 ⟨0,0,[],.st [(0,201)],false⟩:=z7 (zs:=[]) (by kernel_rfl) Tryz.underlying203 rfl rfl rfl rfl (by kernel_rfl) (by kernel_rfl) (by kernel_rfl)
theorem ty_204 : TyOk Tryz.prog 204 ⟨1,1,[.v (.int .u8 0)],.int .u8,false⟩:=z7 (zs:=[.int .u8 0]) (by kernel_rfl) Tryz.underlying204 rfl rfl rfl rfl (by kernel_rfl) (by kernel_rfl) (by kernel_rfl)
theorem ty_205 : TyOk Tryz.prog 205 ⟨1,1,[.v (.int .u8 0)],.int .u8,false⟩:=z7 (zs:=[.int .u8 0]) (by kernel_rfl) Tryz.underlying205 rfl rfl rfl rfl (by kernel_rfl) (by kernel_rfl) (by kernel_rfl)
theorem ty_207 : TyOk Tryz.prog 207 ⟨1,8,[.v (.pointer none)],.ptr 5,false⟩:=z7 (zs:=[.pointer none]) (by kernel_rfl) Tryz.underlying207 rfl rfl rfl rfl (by kernel_rfl) (by kernel_rfl) (by kernel_rfl)
theorem ty_208 : TyOk Tryz.prog 208 ⟨1,4,[.v (.int .i32 0)],.int .i32,false⟩:=z7 (zs:=[.int .i32 0]) (by kernel_rfl) Tryz.underlying208 rfl rfl rfl rfl (by kernel_rfl) (by kernel_rfl) (by kernel_rfl)
theorem ty_209 : TyOk Tryz.prog 209 ⟨1,4,[.v (.int .i32 0)],.int .i32,false⟩:=z7 (zs:=[.int .i32 0]) (by kernel_rfl) Tryz.underlying209 rfl rfl rfl rfl (by kernel_rfl) (by kernel_rfl) (by kernel_rfl)
theorem ty_210 : TyOk Tryz.prog 210 ⟨11,48,[.v (.int .u64 0),.v (.int .u64 0),.v (.int .u32 0),.v (.int .u8 0),.v (.int .u8 0),.v (.int .u8 0),.v (.int .u8 0),.v (.nilFunc),.v (.pointer none),.v (.int .i32 0),.v (.int .i32 0)],.st [(0,12),(1,12),(2,69),(3,204),(4,5),(5,5),(6,205),(7,206),(8,207),(9,208),(10,209)],false⟩:=z7 (zs:=[.int .u64 0,.int .u64 0,.int .u32 0,.int .u8 0,.int .u8 0,.int .u8 0,.int .u8 0,.nilFunc,.pointer none,.int .i32 0,.int .i32 0]) (by kernel_rfl) Tryz.underlying210 rfl rfl rfl rfl (by kernel_rfl) (by kernel_rfl) (by kernel_rfl)
theorem ty_211 : TyOk Tryz.prog 211 ⟨11,48,[.v (.int .u64 0),.v (.int .u64 0),.v (.int .u32 0),.v (.int .u8 0),.v (.int .u8 0),.v (.int .u8 0),.v (.int .u8 0),.v (.nilFunc),.v (.pointer none),.v (.int .i32 0),.v (.int .i32 0)],.st [(0,12),(1,12),(2,69),(3,204),(4,5),(5,5),(6,205),(7,206),(8,207),(9,208),(10,209)],false⟩:=z7 (zs:=[.int .u64 0,.int .u64 0,.int .u32 0,.int .u8 0,.int .u8 0,.int .u8 0,.int .u8 0,.nilFunc,.pointer none,.int .i32 0,.int .i32 0]) (by kernel_rfl) Tryz.underlying211 rfl rfl rfl rfl (by kernel_rfl) (by kernel_rfl) (by kernel_rfl)
theorem ty_212 : TyOk Tryz.prog 212 ⟨1,8,[.v (.pointer none)],.oth,false⟩:=z7 (zs:=[.pointer none]) (by kernel_rfl) Tryz.underlying212 rfl trivial rfl rfl (by kernel_rfl) (by kernel_rfl) (by kernel_rfl)
def zgh : Nat→Option TyI
 | 1=>some ⟨1,8,[.v (.nilFunc)],.fn,false⟩
 | 2=>some ⟨1,8,[.v (.int .i64 0)],.int .i64,false⟩
 | 3=>some ⟨1,8,[.v (.int .i64 0)],.int .i64,false⟩
 | 4=>some ⟨1,1,[.v (.bool false)],.bool,false⟩
 | 5=>some ⟨1,1,[.v (.int .u8 0)],.int .u8,false⟩
 | 6=>some ⟨1,1,[.v (.int .u8 0)],.int .u8,false⟩
 | 7=>some ⟨4,24,[.v (.int .i64 0),.v (.int .i64 0),.v (.bool false),.v (.int .u8 0)],.st [(0,2),(1,3),(2,4),(3,6)],false⟩
 | 8=>some ⟨4,24,[.v (.int .i64 0),.v (.int .i64 0),.v (.bool false),.v (.int .u8 0)],.st [(0,2),(1,3),(2,4),(3,6)],false⟩
 | 9=>some ⟨1,16,[.v (.string ⟨#[]⟩)],.str,false⟩
 | 10=>some ⟨1,16,[.v (.string ⟨#[]⟩)],.str,false⟩
 | 11=>some ⟨1,16,[.v (.string ⟨#[]⟩)],.str,false⟩
 | 12=>some ⟨1,8,[.v (.int .u64 0)],.int .u64,false⟩
 | 13=>some ⟨2,24,[.v (.string ⟨#[]⟩),.v (.int .u64 0)],.st [(0,9),(1,12)],false⟩
 | 14=>some ⟨2,24,[.v (.string ⟨#[]⟩),.v (.int .u64 0)],.st [(0,9),(1,12)],false⟩
 | 15=>some ⟨1,8,[.v (.pointer none)],.ptr 200,false⟩
 | 16=>some ⟨1,8,[.v (.pointer none)],.ptr 203,false⟩
 | 17=>some ⟨1,8,[.v (.pointer none)],.ptr 211,false⟩
 | 18=>some ⟨1,8,[.v (.pointer none)],.st [(0,17)],false⟩
 | 19=>some ⟨1,8,[.v (.pointer none)],.st [(0,17)],false⟩
 | 21=>some ⟨1,4,[.v (.int .i32 0)],.int .i32,false⟩
 | 22=>some ⟨1,8,[.v (.nilFunc)],.fn,false⟩
 | 23=>some ⟨1,8,[.v (.nilFunc)],.fn,false⟩
 | 24=>some ⟨2,16,[.v (.int .i64 0),.v (.int .i64 0)],.st [(0,3),(1,3)],true⟩
 | 25=>some ⟨2,16,[.v (.int .i64 0),.v (.int .i64 0)],.st [(0,3),(1,3)],true⟩
 | 26=>some ⟨1,24,[.v (.slice none 0 0)],.sl 153,false⟩
 | 27=>some ⟨1,24,[.v (.slice none 0 0)],.st [(0,26)],false⟩
 | 28=>some ⟨1,24,[.v (.slice none 0 0)],.st [(0,26)],false⟩
 | 29=>some ⟨1,24,[.v (.slice none 0 0)],.st [(0,28)],false⟩
 | 30=>some ⟨1,24,[.v (.slice none 0 0)],.st [(0,28)],false⟩
 | 31=>some ⟨1,24,[.v (.slice none 0 0)],.st [(0,28)],false⟩
 | 32=>some ⟨3,64,[.v (.slice none 0 0),.v (.slice none 0 0),.v (.string ⟨#[]⟩)],.st [(0,30),(1,31),(2,9)],false⟩
 | 33=>some ⟨3,64,[.v (.slice none 0 0),.v (.slice none 0 0),.v (.string ⟨#[]⟩)],.st [(0,30),(1,31),(2,9)],false⟩
 | 34=>some ⟨16,176,[.v (.int .i64 0),.v (.int .i64 0),.v (.bool false),.v (.int .i64 0),.v (.int .i64 0),.v (.int .i64 0),.v (.int .i64 0),.v (.int .i64 0),.v (.slice none 0 0),.v (.slice none 0 0),.v (.string ⟨#[]⟩),.v (.int .i64 0),.v (.int .i64 0),.v (.string ⟨#[]⟩),.v (.int .i64 0),.v (.int .i64 0)],.st [(0,25),(2,4),(3,2),(4,2),(5,2),(6,3),(7,3),(8,33),(11,3),(12,3),(13,9),(14,3),(15,3)],false⟩
 | 35=>some ⟨16,176,[.v (.int .i64 0),.v (.int .i64 0),.v (.bool false),.v (.int .i64 0),.v (.int .i64 0),.v (.int .i64 0),.v (.int .i64 0),.v (.int .i64 0),.v (.slice none 0 0),.v (.slice none 0 0),.v (.string ⟨#[]⟩),.v (.int .i64 0),.v (.int .i64 0),.v (.string ⟨#[]⟩),.v (.int .i64 0),.v (.int .i64 0)],.st [(0,25),(2,4),(3,2),(4,2),(5,2),(6,3),(7,3),(8,33),(11,3),(12,3),(13,9),(14,3),(15,3)],false⟩
 | 36=>some ⟨1,24,[.v (.slice none 0 0)],.sl 49,false⟩
 | 37=>some ⟨1,8,[.v (.int .i64 0)],.int .i64,false⟩
 | 39=>some ⟨1,8,[.v (.nilFunc)],.fn,false⟩
 | 41=>some ⟨1,8,[.v (.nilFunc)],.fn,false⟩
 | 42=>some ⟨1,24,[.v (.slice none 0 0)],.sl 2,false⟩
 | 43=>some ⟨6,88,[.v (.int .i64 0),.v (.int .i64 0),.v (.int .i64 0),.v (.slice none 0 0),.v (.string ⟨#[]⟩),.v (.slice none 0 0)],.st [(0,3),(1,3),(2,3),(3,42),(4,9),(5,42)],false⟩
 | _=>none
theorem zgd : TabOk Tryz.prog zgh:=by
 intro t i h
 unfold zgh at h
 split at h
 ·exact Option.some.inj h ▸ ty_1
 ·exact Option.some.inj h ▸ ty_2
 ·exact Option.some.inj h ▸ ty_3
 ·exact Option.some.inj h ▸ ty_4
 ·exact Option.some.inj h ▸ ty_5
 ·exact Option.some.inj h ▸ ty_6
 ·exact Option.some.inj h ▸ ty_7
 ·exact Option.some.inj h ▸ ty_8
 ·exact Option.some.inj h ▸ ty_9
 ·exact Option.some.inj h ▸ ty_10
 ·exact Option.some.inj h ▸ ty_11
 ·exact Option.some.inj h ▸ ty_12
 ·exact Option.some.inj h ▸ ty_13
 ·exact Option.some.inj h ▸ ty_14
 ·exact Option.some.inj h ▸ ty_15
 ·exact Option.some.inj h ▸ ty_16
 ·exact Option.some.inj h ▸ ty_17
 ·exact Option.some.inj h ▸ ty_18
 ·exact Option.some.inj h ▸ ty_19
 ·exact Option.some.inj h ▸ ty_21
 ·exact Option.some.inj h ▸ ty_22
 ·exact Option.some.inj h ▸ ty_23
 ·exact Option.some.inj h ▸ ty_24
 ·exact Option.some.inj h ▸ ty_25
 ·exact Option.some.inj h ▸ ty_26
 ·exact Option.some.inj h ▸ ty_27
 ·exact Option.some.inj h ▸ ty_28
 ·exact Option.some.inj h ▸ ty_29
 ·exact Option.some.inj h ▸ ty_30
 ·exact Option.some.inj h ▸ ty_31
 ·exact Option.some.inj h ▸ ty_32
 ·exact Option.some.inj h ▸ ty_33
 ·exact Option.some.inj h ▸ ty_34
 ·exact Option.some.inj h ▸ ty_35
 ·exact Option.some.inj h ▸ ty_36
 ·exact Option.some.inj h ▸ ty_37
 ·exact Option.some.inj h ▸ ty_39
 ·exact Option.some.inj h ▸ ty_41
 ·exact Option.some.inj h ▸ ty_42
 ·exact Option.some.inj h ▸ ty_43
 ·cases h
def zgg : Nat→Option TyI
 | 44=>some ⟨6,88,[.v (.int .i64 0),.v (.int .i64 0),.v (.int .i64 0),.v (.slice none 0 0),.v (.string ⟨#[]⟩),.v (.slice none 0 0)],.st [(0,3),(1,3),(2,3),(3,42),(4,9),(5,42)],false⟩
 | 45=>some ⟨1,8,[.v (.nilFunc)],.fn,false⟩
 | 46=>some ⟨1,8,[.v (.nilFunc)],.fn,false⟩
 | 47=>some ⟨1,8,[.v (.nilFunc)],.fn,false⟩
 | 48=>some ⟨4,72,[.v (.int .i64 0),.v (.slice none 0 0),.v (.string ⟨#[]⟩),.v (.slice none 0 0)],.st [(0,3),(1,42),(2,9),(3,42)],false⟩
 | 49=>some ⟨4,72,[.v (.int .i64 0),.v (.slice none 0 0),.v (.string ⟨#[]⟩),.v (.slice none 0 0)],.st [(0,3),(1,42),(2,9),(3,42)],false⟩
 | 50=>some ⟨1,8,[.v (.nilFunc)],.fn,false⟩
 | 51=>some ⟨1,8,[.v (.nilFunc)],.fn,false⟩
 | 52=>some ⟨1,24,[.v (.slice none 0 0)],.sl 44,false⟩
 | 53=>some ⟨1,8,[.v (.nilFunc)],.fn,false⟩
 | 54=>some ⟨1,24,[.v (.slice none 0 0)],.sl 9,false⟩
 | 55=>some ⟨13,152,[.v (.int .i64 0),.v (.int .i64 0),.v (.int .i64 0),.v (.string ⟨#[]⟩),.v (.slice none 0 0),.v (.slice none 0 0),.v (.int .i64 0),.v (.int .i64 0),.v (.int .i64 0),.v (.int .i64 0),.v (.string ⟨#[]⟩),.v (.int .i64 0),.v (.int .i64 0)],.st [(0,2),(1,3),(2,3),(3,9),(4,54),(5,54),(6,3),(7,3),(8,3),(9,3),(10,9),(11,3),(12,3)],false⟩
 | 56=>some ⟨13,152,[.v (.int .i64 0),.v (.int .i64 0),.v (.int .i64 0),.v (.string ⟨#[]⟩),.v (.slice none 0 0),.v (.slice none 0 0),.v (.int .i64 0),.v (.int .i64 0),.v (.int .i64 0),.v (.int .i64 0),.v (.string ⟨#[]⟩),.v (.int .i64 0),.v (.int .i64 0)],.st [(0,2),(1,3),(2,3),(3,9),(4,54),(5,54),(6,3),(7,3),(8,3),(9,3),(10,9),(11,3),(12,3)],false⟩
 | 58=>some ⟨1,8,[.v (.nilFunc)],.fn,false⟩
 | 67=>some ⟨1,24,[.v (.slice none 0 0)],.sl 5,false⟩
 | 69=>some ⟨1,4,[.v (.int .u32 0)],.int .u32,false⟩
 | 70=>some ⟨1,4,[.v (.int .u32 0)],.int .u32,false⟩
 | 78=>some ⟨1,8,[.v (.nilFunc)],.fn,false⟩
 | 79=>some ⟨1,8,[.v (.nilFunc)],.fn,false⟩
 | 81=>some ⟨1,8,[.v (.map none)],.mp 3 79,false⟩
 | 83=>some ⟨1,8,[.v (.pointer none)],.ptr 35,false⟩
 | 86=>some ⟨1,24,[.v (.slice none 0 0)],.sl 93,false⟩
 | 88=>some ⟨1,8,[.v (.nilFunc)],.fn,false⟩
 | 92=>some ⟨4,40,[.v (.string ⟨#[]⟩),.v (.int .i64 0),.v (.int .i64 0),.v (.int .i64 0)],.st [(0,9),(1,3),(2,3),(3,3)],true⟩
 | 93=>some ⟨4,40,[.v (.string ⟨#[]⟩),.v (.int .i64 0),.v (.int .i64 0),.v (.int .i64 0)],.st [(0,9),(1,3),(2,3),(3,3)],true⟩
 | 95=>some ⟨1,24,[.v (.slice none 0 0)],.sl 3,false⟩
 | 96=>some ⟨3,40,[.v (.slice none 0 0),.v (.bool false),.v (.int .i64 0)],.st [(0,95),(1,4),(2,3)],false⟩
 | 97=>some ⟨3,40,[.v (.slice none 0 0),.v (.bool false),.v (.int .i64 0)],.st [(0,95),(1,4),(2,3)],false⟩
 | 100=>some ⟨1,24,[.v (.slice none 0 0)],.sl 105,false⟩
 | 104=>some ⟨4,40,[.v (.string ⟨#[]⟩),.v (.int .i64 0),.v (.int .i64 0),.v (.int .i64 0)],.st [(0,9),(1,3),(2,3),(3,3)],true⟩
 | 105=>some ⟨4,40,[.v (.string ⟨#[]⟩),.v (.int .i64 0),.v (.int .i64 0),.v (.int .i64 0)],.st [(0,9),(1,3),(2,3),(3,3)],true⟩
 | 108=>some ⟨3,40,[.v (.slice none 0 0),.v (.bool false),.v (.int .i64 0)],.st [(0,95),(1,4),(2,3)],false⟩
 | 120=>some ⟨3,48,[.v (.string ⟨#[]⟩),.v (.string ⟨#[]⟩),.v (.string ⟨#[]⟩)],.st [(0,9),(1,9),(2,9)],true⟩
 | 121=>some ⟨3,48,[.v (.string ⟨#[]⟩),.v (.string ⟨#[]⟩),.v (.string ⟨#[]⟩)],.st [(0,9),(1,9),(2,9)],true⟩
 | 125=>some ⟨1,8,[.v (.nilFunc)],.fn,false⟩
 | 126=>some ⟨1,8,[.v (.nilFunc)],.fn,false⟩
 | 127=>some ⟨1,8,[.v (.nilFunc)],.fn,false⟩
 | 128=>some ⟨1,8,[.v (.nilFunc)],.fn,false⟩
 | 129=>some ⟨1,8,[.v (.nilFunc)],.fn,false⟩
 | 130=>some ⟨1,8,[.v (.nilFunc)],.fn,false⟩
 | _=>none
theorem zgc : TabOk Tryz.prog zgg:=by
 intro t i h
 unfold zgg at h
 split at h
 ·exact Option.some.inj h ▸ ty_44
 ·exact Option.some.inj h ▸ ty_45
 ·exact Option.some.inj h ▸ ty_46
 ·exact Option.some.inj h ▸ ty_47
 ·exact Option.some.inj h ▸ ty_48
 ·exact Option.some.inj h ▸ ty_49
 ·exact Option.some.inj h ▸ ty_50
 ·exact Option.some.inj h ▸ ty_51
 ·exact Option.some.inj h ▸ ty_52
 ·exact Option.some.inj h ▸ ty_53
 ·exact Option.some.inj h ▸ ty_54
 ·exact Option.some.inj h ▸ ty_55
 ·exact Option.some.inj h ▸ ty_56
 ·exact Option.some.inj h ▸ ty_58
 ·exact Option.some.inj h ▸ ty_67
 ·exact Option.some.inj h ▸ ty_69
 ·exact Option.some.inj h ▸ ty_70
 ·exact Option.some.inj h ▸ ty_78
 ·exact Option.some.inj h ▸ ty_79
 ·exact Option.some.inj h ▸ ty_81
 ·exact Option.some.inj h ▸ ty_83
 ·exact Option.some.inj h ▸ ty_86
 ·exact Option.some.inj h ▸ ty_88
 ·exact Option.some.inj h ▸ ty_92
 ·exact Option.some.inj h ▸ ty_93
 ·exact Option.some.inj h ▸ ty_95
 ·exact Option.some.inj h ▸ ty_96
 ·exact Option.some.inj h ▸ ty_97
 ·exact Option.some.inj h ▸ ty_100
 ·exact Option.some.inj h ▸ ty_104
 ·exact Option.some.inj h ▸ ty_105
 ·exact Option.some.inj h ▸ ty_108
 ·exact Option.some.inj h ▸ ty_120
 ·exact Option.some.inj h ▸ ty_121
 ·exact Option.some.inj h ▸ ty_125
 ·exact Option.some.inj h ▸ ty_126
 ·exact Option.some.inj h ▸ ty_127
 ·exact Option.some.inj h ▸ ty_128
 ·exact Option.some.inj h ▸ ty_129
 ·exact Option.some.inj h ▸ ty_130
 ·cases h
def zgf : Nat→Option TyI
 | 140=>some ⟨90,1440,List.replicate 90 (.v (.string ⟨#[]⟩)),.arr 30 121,false⟩
 | 142=>some ⟨177,2832,List.replicate 177 (.v (.string ⟨#[]⟩)),.arr 59 121,false⟩
 | 147=>some ⟨78,1248,List.replicate 78 (.v (.string ⟨#[]⟩)),.arr 26 121,false⟩
 | 152=>some ⟨3,40,[.v (.int .i64 0),.v (.string ⟨#[]⟩),.v (.string ⟨#[]⟩)],.st [(0,3),(1,9),(2,9)],true⟩
 | 153=>some ⟨3,40,[.v (.int .i64 0),.v (.string ⟨#[]⟩),.v (.string ⟨#[]⟩)],.st [(0,3),(1,9),(2,9)],true⟩
 | 154=>some ⟨1,8,[.v (.pointer none)],.ptr 25,false⟩
 | 159=>some ⟨1,8,[.v (.map none)],.mp 3 47,false⟩
 | 161=>some ⟨256,256,List.replicate 256 (.v (.int .u8 0)),.arr 256 5,false⟩
 | 163=>some ⟨1,8,[.v (.nilFunc)],.fn,false⟩
 | 168=>some ⟨1,24,[.v (.slice none 0 0)],.sl 170,false⟩
 | 169=>some ⟨2,16,[.v (.int .i64 0),.v (.int .i64 0)],.st [(0,3),(1,3)],true⟩
 | 170=>some ⟨2,16,[.v (.int .i64 0),.v (.int .i64 0)],.st [(0,3),(1,3)],true⟩
 | 172=>some ⟨1,8,[.v (.pointer none)],.ptr 186,false⟩
 | 174=>some ⟨256,256,List.replicate 256 (.v (.bool false)),.arr 256 4,false⟩
 | 175=>some ⟨256,256,List.replicate 256 (.v (.bool false)),.arr 256 4,false⟩
 | 180=>some ⟨1,8,[.v (.int .u64 0)],.int .u64,false⟩
 | 183=>some ⟨1,24,[.v (.slice none 0 0)],.sl 189,false⟩
 | 184=>some ⟨1,24,[.v (.slice none 0 0)],.sl 192,false⟩
 | 185=>some ⟨3,56,[.v (.slice none 0 0),.v (.slice none 0 0),.v (.int .i64 0)],.st [(0,183),(1,184),(2,3)],false⟩
 | 186=>some ⟨3,56,[.v (.slice none 0 0),.v (.slice none 0 0),.v (.int .i64 0)],.st [(0,183),(1,184),(2,3)],false⟩
 | 187=>some ⟨1,2,[.v (.int .u16 0)],.int .u16,false⟩
 | 188=>some ⟨3,6,[.v (.int .u16 0),.v (.int .u16 0),.v (.int .u16 0)],.st [(0,187),(1,187),(2,187)],true⟩
 | 189=>some ⟨3,6,[.v (.int .u16 0),.v (.int .u16 0),.v (.int .u16 0)],.st [(0,187),(1,187),(2,187)],true⟩
 | 191=>some ⟨3,12,[.v (.int .u32 0),.v (.int .u32 0),.v (.int .u32 0)],.st [(0,69),(1,69),(2,69)],true⟩
 | 192=>some ⟨3,12,[.v (.int .u32 0),.v (.int .u32 0),.v (.int .u32 0)],.st [(0,69),(1,69),(2,69)],true⟩
 | 194=>some ⟨1,8,[.v (.pointer none)],.ptr 175,false⟩
 | 197=>some ⟨1,8,[.v (.pointer none)],.ptr 189,false⟩
 | 198=>some ⟨1,8,[.v (.pointer none)],.ptr 192,false⟩
 | 199=>some ⟨4,40,[.v (.pointer none),.v (.pointer none),.v (.pointer none),.v (.string ⟨#[]⟩)],.st [(0,17),(1,17),(2,17),(3,9)],false⟩
 | 200=>some ⟨4,40,[.v (.pointer none),.v (.pointer none),.v (.pointer none),.v (.string ⟨#[]⟩)],.st [(0,17),(1,17),(2,17),(3,9)],false⟩
 | 201=>some ⟨0,0,[],.arr 0 16,false⟩
 | 202=>some ⟨0,0,[],.st [(0,201)],false⟩
 | 203=>some ⟨0,0,[],.st [(0,201)],false⟩
 | 204=>some ⟨1,1,[.v (.int .u8 0)],.int .u8,false⟩
 | 205=>some ⟨1,1,[.v (.int .u8 0)],.int .u8,false⟩
 | 207=>some ⟨1,8,[.v (.pointer none)],.ptr 5,false⟩
 | 208=>some ⟨1,4,[.v (.int .i32 0)],.int .i32,false⟩
 | 209=>some ⟨1,4,[.v (.int .i32 0)],.int .i32,false⟩
 | 210=>some ⟨11,48,[.v (.int .u64 0),.v (.int .u64 0),.v (.int .u32 0),.v (.int .u8 0),.v (.int .u8 0),.v (.int .u8 0),.v (.int .u8 0),.v (.nilFunc),.v (.pointer none),.v (.int .i32 0),.v (.int .i32 0)],.st [(0,12),(1,12),(2,69),(3,204),(4,5),(5,5),(6,205),(7,206),(8,207),(9,208),(10,209)],false⟩
 | 211=>some ⟨11,48,[.v (.int .u64 0),.v (.int .u64 0),.v (.int .u32 0),.v (.int .u8 0),.v (.int .u8 0),.v (.int .u8 0),.v (.int .u8 0),.v (.nilFunc),.v (.pointer none),.v (.int .i32 0),.v (.int .i32 0)],.st [(0,12),(1,12),(2,69),(3,204),(4,5),(5,5),(6,205),(7,206),(8,207),(9,208),(10,209)],false⟩
 | _=>none
theorem zgb : TabOk Tryz.prog zgf:=by
 intro t i h
 unfold zgf at h
 split at h
 ·exact Option.some.inj h ▸ ty_140
 ·exact Option.some.inj h ▸ ty_142
 ·exact Option.some.inj h ▸ ty_147
 ·exact Option.some.inj h ▸ ty_152
 ·exact Option.some.inj h ▸ ty_153
 ·exact Option.some.inj h ▸ ty_154
 ·exact Option.some.inj h ▸ ty_159
 ·exact Option.some.inj h ▸ ty_161
 ·exact Option.some.inj h ▸ ty_163
 ·exact Option.some.inj h ▸ ty_168
 ·exact Option.some.inj h ▸ ty_169
 ·exact Option.some.inj h ▸ ty_170
 ·exact Option.some.inj h ▸ ty_172
 ·exact Option.some.inj h ▸ ty_174
 ·exact Option.some.inj h ▸ ty_175
 ·exact Option.some.inj h ▸ ty_180
 ·exact Option.some.inj h ▸ ty_183
 ·exact Option.some.inj h ▸ ty_184
 ·exact Option.some.inj h ▸ ty_185
 ·exact Option.some.inj h ▸ ty_186
 ·exact Option.some.inj h ▸ ty_187
 ·exact Option.some.inj h ▸ ty_188
 ·exact Option.some.inj h ▸ ty_189
 ·exact Option.some.inj h ▸ ty_191
 ·exact Option.some.inj h ▸ ty_192
 ·exact Option.some.inj h ▸ ty_194
 ·exact Option.some.inj h ▸ ty_197
 ·exact Option.some.inj h ▸ ty_198
 ·exact Option.some.inj h ▸ ty_199
 ·exact Option.some.inj h ▸ ty_200
 ·exact Option.some.inj h ▸ ty_201
 ·exact Option.some.inj h ▸ ty_202
 ·exact Option.some.inj h ▸ ty_203
 ·exact Option.some.inj h ▸ ty_204
 ·exact Option.some.inj h ▸ ty_205
 ·exact Option.some.inj h ▸ ty_207
 ·exact Option.some.inj h ▸ ty_208
 ·exact Option.some.inj h ▸ ty_209
 ·exact Option.some.inj h ▸ ty_210
 ·exact Option.some.inj h ▸ ty_211
 ·cases h
def zge : Nat→Option TyI
 | 212=>some ⟨1,8,[.v (.pointer none)],.oth,false⟩
 | _=>none
theorem zga : TabOk Tryz.prog zge:=by
 intro t i h
 unfold zge at h
 split at h
 ·exact Option.some.inj h ▸ ty_212
 ·cases h
def tab (t : Nat) : Option TyI:=(zgh t).or ((zgg t).or ((zgf t).or ((zge t).or (none))))
theorem zc : TabOk Tryz.prog tab:=by
 intro t i h
 unfold tab at h
 rcases Option.or_eq_some_iff.1 h with h | ⟨-,h⟩
 ·exact zgd t i h
 rcases Option.or_eq_some_iff.1 h with h | ⟨-,h⟩
 ·exact zgc t i h
 rcases Option.or_eq_some_iff.1 h with h | ⟨-,h⟩
 ·exact zgb t i h
 rcases Option.or_eq_some_iff.1 h with h | ⟨-,h⟩
 ·exact zga t i h
 cases h
theorem tab_3 : tab 3 = some ⟨1,8,[.v (.int .i64 0)],.int .i64,false⟩:=rfl
theorem tab_47 : tab 47 = some ⟨1,8,[.v (.nilFunc)],.fn,false⟩:=rfl
theorem tab_79 : tab 79 = some ⟨1,8,[.v (.nilFunc)],.fn,false⟩:=rfl
theorem tab_81 : tab 81 = some ⟨1,8,[.v (.map none)],.mp 3 79,false⟩:=rfl
theorem tab_159 : tab 159 = some ⟨1,8,[.v (.map none)],.mp 3 47,false⟩:=rfl
end

section
open Go.RowKit
set_option maxRecDepth 10000
theorem zfv {s : List UInt8} {m : Nat} {v : UInt8} (h : m < s.length) : putL (encL cY s) (m * 1) [U8 (v.toNat : Int)] = encL cY (s.set m v):=by
 have:=zep cY s m 0 s[m] v [U8 (v.toNat : Int)] (List.getElem?_eq_getElem h) (Nat.le_refl _) rfl
 rw [vw,Nat.mul_one,Nat.add_zero] at this
 rw [Nat.mul_one];exact this
end

section
open Go.RowKit
set_option maxRecDepth 10000
end

section
open Go.RowKit
set_option maxRecDepth 10000
/- a byte of a command -/
/- a byte that is no part of a command -/
end

section
open Go.RowKit
set_option maxRecDepth 10000
theorem CallT.empty {P : Program} {f : FuncId} {Q : T→Hp→Prop} (hgo : goB P f = true) (h : ∀ A k,CallT P f [.v (.slice A 0 k)] [] Q) : CallT P f [.islc [] 0 none] [] Q:=
 ⟨hgo,fun X0 M us hS hr=>by
  obtain ⟨u,q,rfl,⟨A,k,rfl,h2⟩,hq⟩:=hr
  exact (h A k).2 X0 M _ hS ⟨_,q,rfl,rfl,hq⟩⟩
end

section
open Go.RowKit
set_option maxRecDepth 10000
def lok (c m : Int) : Bool:=decide (32≤c) && decide (c≤126) && decide (0≤m) && decide (m≤1)
def lby (c m : Int) : Int:=if lok c m = true then (if m = 1∧97≤c∧c≤122 then c - 32 else c) else 0
theorem zbc (c m : Int) : CallP Tryz.prog 113 [I64 c,I64 m] (.tup [U8 (lby c m),BL (lok c m)]):=by
 have w8 : ∀ n : Int,0≤n∧n < 256→IntKind.u8.wrap n = n:=fun n h=>wrapU h
 refine CallP.intro2 z5 z5 ?_;refine CallT.intro zc Tryz.func113 rfl (by kernel_rfl) (Nat.le_of_ble_eq_true rfl) ?_;refine zf zc [] rfl ?_;iterate 2 refine za rfl ?_
 refine zb ?_;refine zn ?_;refine zf zc [] rfl ?_;iterate 3 refine za rfl ?_
 refine' zu (d:=11) [_,_,_] rfl ?_ rfl ?_
 rotate_left
 ·refine zt rfl rfl (fun hb1_2=>?_) (fun hb1_2=>?_)
  ·have ghb1_2:=hb1_2
   try simp only [zh,Bool.not_true,Bool.not_false] at ghb1_2
   refine za rfl ?_;refine zg rfl rfl hb1_2 ?_;refine za rfl ?_;refine zr rfl (fun _=>rfl) ?_;exact zb ⟨rfl,rfl⟩
  ·refine zl rfl rfl hb1_2 ?_;exact zr rfl (fun h=>absurd (h.symm.trans hb1_2) (by decide)) (zb ⟨rfl,rfl⟩)
 refine za rfl ?_;refine' zu (d:=15) [_,_,_] rfl ?_ rfl ?_
 rotate_left
 ·refine zt rfl rfl (fun hb1_6=>?_) (fun hb1_6=>?_)
  ·have ghb1_6:=hb1_6
   try simp only [zh,Bool.not_true,Bool.not_false] at ghb1_6
   refine za rfl ?_;refine zg rfl rfl hb1_6 ?_;refine za rfl ?_;refine zr rfl (fun _=>rfl) ?_;exact zb ⟨rfl,rfl⟩
  ·refine zl rfl rfl hb1_6 ?_;exact zr rfl (fun h=>absurd (h.symm.trans hb1_6) (by decide)) (zb ⟨rfl,rfl⟩)
 refine za rfl ?_;refine' zu (d:=19) [_,_,_] rfl ?_ rfl ?_
 rotate_left
 ·refine zt rfl rfl (fun hb1_10=>?_) (fun hb1_10=>?_)
  ·have ghb1_10:=hb1_10
   try simp only [zh,Bool.not_true,Bool.not_false] at ghb1_10
   refine za rfl ?_;refine zg rfl rfl hb1_10 ?_;refine za rfl ?_;refine zr rfl (fun _=>rfl) ?_;exact zb ⟨rfl,rfl⟩
  ·refine zl rfl rfl hb1_10 ?_;exact zr rfl (fun h=>absurd (h.symm.trans hb1_10) (by decide)) (zb ⟨rfl,rfl⟩)
 refine zb ?_;refine zm rfl (fun hc0=>?_) (fun hc0=>?_)
 ·(try simp only [zh] at hc0);have e2 : lok c m = false:=(by unfold lok;simp;omega);have e1 : lby c m = 0:=(by unfold lby;rw [e2];rfl)
  refine zf zc [] rfl ?_;iterate 2 refine za rfl ?_
  refine zb ?_;refine zq ?_;exact ⟨trivial,_,rfl,Cv.eq (by rw [e1,e2];first | rfl | (show T.tup [T.v (.int .u8 (IntKind.u8.wrap _)),_] = _;rw [w8 _ (by omega)];rfl)) rfl⟩
 ·(try simp only [zh] at hc0);have e2 : lok c m = true:=(by unfold lok;simp;omega)
  refine zo ?_;refine zn ?_;refine zf zc [] rfl ?_;iterate 3 refine za rfl ?_
  refine' zu (d:=25) [_,_,_] rfl ?_ rfl ?_
  rotate_left
  ·refine zt rfl rfl (fun hb3_2=>?_) (fun hb3_2=>?_)
   ·have ghb3_2:=hb3_2
    try simp only [zh,Bool.not_true,Bool.not_false] at ghb3_2
    refine za rfl ?_;refine zg rfl rfl hb3_2 ?_;refine za rfl ?_;refine z3 rfl (fun _=>rfl) ?_;exact zb ⟨rfl,rfl⟩
   ·refine zl rfl rfl hb3_2 ?_;exact z3 rfl (fun h=>absurd (h.symm.trans hb3_2) (by decide)) (zb ⟨rfl,rfl⟩)
  refine za rfl ?_;refine' zu (d:=29) [_,_,_] rfl ?_ rfl ?_
  rotate_left
  ·refine zt rfl rfl (fun hb3_6=>?_) (fun hb3_6=>?_)
   ·have ghb3_6:=hb3_6
    try simp only [zh,Bool.not_true,Bool.not_false] at ghb3_6
    refine za rfl ?_;refine zg rfl rfl hb3_6 ?_;refine za rfl ?_;refine z3 rfl (fun _=>rfl) ?_;exact zb ⟨rfl,rfl⟩
   ·refine zl rfl rfl hb3_6 ?_;exact z3 rfl (fun h=>absurd (h.symm.trans hb3_6) (by decide)) (zb ⟨rfl,rfl⟩)
  refine zb ?_;refine zm rfl (fun hc1=>?_) (fun hc1=>?_)
  ·(try simp only [zh] at hc1);have e1 : lby c m = c - 32:=(by unfold lby;rw [if_pos e2,if_pos (by omega)])
   refine zw zc [] rfl ?_;refine za rfl ?_;first | refine yu rfl rfl (by omega) ?_ | refine za rfl ?_
   refine za rfl ?_;refine zb ?_;refine zf zc [] rfl ?_;refine za rfl ?_;first | refine za rfl ?_ | refine zbs zc rfl rfl rfl rfl rfl rfl rfl rfl (by first | omega | (dsimp only;omega) | assumption) ?_
   iterate 2 refine za rfl ?_
   refine zb ?_;refine zq ?_;exact ⟨trivial,_,rfl,Cv.eq (by rw [e1,e2];first | rfl | (show T.tup [T.v (.int .u8 (IntKind.u8.wrap _)),_] = _;rw [w8 _ (by omega)];rfl)) rfl⟩
  ·(try simp only [zh] at hc1);have e1 : lby c m = c:=(by unfold lby;rw [if_pos e2,if_neg (by omega)])
   refine zo ?_;refine zf zc [] rfl ?_;refine za rfl ?_;first | refine za rfl ?_ | refine zbs zc rfl rfl rfl rfl rfl rfl rfl rfl (by first | omega | (dsimp only;omega) | assumption) ?_
   iterate 2 refine za rfl ?_
   refine zb ?_;refine zq ?_;exact ⟨trivial,_,rfl,Cv.eq (by rw [e1,e2];first | rfl | (show T.tup [T.v (.int .u8 (IntKind.u8.wrap _)),_] = _;rw [w8 _ (by omega)];rfl)) rfl⟩
end

section
open Go.RowKit
set_option maxRecDepth 10000
set_option maxHeartbeats 1000000
structure Rq where
 code : Int
 n : List Int
 b : List UInt8
 l : List Int
deriving DecidableEq,Inhabited
abbrev cIf (l : List Int) : T:=.islc (encL cI l) l.length none
def cRq : Cd Rq:=⟨4,fun r=>[I64 r.code,cIf r.n,strT r.b,cIf r.l],fun _=>rfl,fun r=>by simp only [T.pureL,T.pure,zp];rfl,fun _=>rfl,by decide⟩
theorem vx : cRq.sz = 4:=rfl
abbrev rqT (l : List Rq) : T:=.islc (encL cRq l) l.length none
theorem xq {p : Prop} (h : p:=by repeat' first | exact CvL.nil | refine CvL.cons ?_ ?_ | exact Cv.nil _ (.inl rfl) | refine Cv.fslc0 ⟨rfl,by simp⟩ ?_ | refine Cv.islc ?_ (.inr rfl) | exact Cv.pure zbo) : p:=h
end

section
structure Lk where
 let8 : List UInt8
 fm : Int
 tz : Int
 cu : Int
deriving DecidableEq,Inhabited
structure Ed where
 c : Ec
 made : Bool
 win : Int
 pen : Int
 fnt : Int
 w : Int
 h : Int
 top : Int
 left : Int
 cnt : Int
 asked : Int
deriving DecidableEq,Inhabited
def Ed.cols (e : Ed) : Nat:=(e.w / 4).toNat
def Ed.rows (e : Ed) : Nat:=(e.h / 6).toNat
def padN (l : List UInt8) (n : Nat) : List UInt8:=l.take n ++ List.replicate (n - l.length) 32
theorem su (l : List UInt8) (n : Nat) : (padN l n).length = n:=by unfold padN;rw [List.length_append,List.length_take,List.length_replicate];omega
def Ed.look (e : Ed) (y : Nat) : Lk:=
 let t:=e.c.bf.text
 let line:=e.top + y
 if (lnN t : Int)≤line then ⟨padN [] e.cols,0,0,-1⟩
 else
  let s:=lineN t line
  let b:=(placeN t line 0 : Int)
  let a:=max (max ((e.c.lo : Int) - b) 0 - e.left) 0
  let z:=min (min ((e.c.hi : Int) - b) (s.length + 1) - e.left) e.cols
  ⟨padN (s.drop e.left.toNat) e.cols,if a < z then a else 0,if a < z then z else 0,if ((spotN t e.c.cur).1 : Int) = line then (spotN t e.c.cur).2 - e.left else -1⟩
def Ed.looks (e : Ed) : List Lk:=(List.range e.rows).map e.look
theorem Ed.look_len (e : Ed) (y : Nat) : (e.look y).let8.length = e.cols:=by
 unfold Ed.look
 dsimp only
 split <;> exact su _ _
def Ed.opR (e : Ed) (op : Int) : Rq:=⟨20,[e.pen,1,op,0,0,0,0],[],[]⟩
def Ed.fillR (e : Ed) (x y w h : Int) : Rq:=⟨30,[e.win,e.pen],[],[x,y,w,h]⟩
def Ed.drawnR (e : Ed) (y : Nat) (k : Lk) : List Rq:=
 [⟨36,[e.win,e.pen,0,6 * (y : Int) + 5,1],k.let8,[]⟩] ++ (if k.fm < k.tz then [e.opR 6,e.fillR (4 * k.fm) (6 * (y : Int)) (4 * (k.tz - k.fm)) 6,e.opR 3] else []) ++ (if 0≤k.cu then [e.fillR (4 * k.cu) (6 * (y : Int) + 5) 4 1] else [])
theorem Ed.drawnR_len (e : Ed) (y : Nat) (k : Lk) : (e.drawnR y k).length≤5:=by
 unfold Ed.drawnR
 rw [List.length_append,List.length_append]
 split <;> split <;> simp
def Ed.seen (e : Ed) : Ed:={ e with top:=sightN e.top (spotN e.c.bf.text e.c.cur).1 e.rows,left:=sightN e.left (spotN e.c.bf.text e.c.cur).2 e.cols }
structure Ed.Ok (e : Ed) (top : Int) : Prop where
 side : 4≤e.w∧e.w≤128∧6≤e.h∧e.h≤128
 text : e.c.bf.text.length≤4096
 cur : e.c.cur≤e.c.bf.text.length∧e.c.anc≤e.c.bf.text.length
 past : e.c.bf.past.length≤256∧e.c.bf.fut.length≤256
 sight : 0≤e.top∧e.top≤4096∧0≤e.left∧e.left≤4096
 cop : e.c.cop.length≤4096
 cnt : 0≤e.cnt∧e.cnt≤top∧0≤e.asked∧e.asked≤top + 1
end

section
/- what was done and undone fits the text -/
def unT (t : List UInt8) (o : BSt) : List UInt8:=t.take o.pos ++ o.out ++ t.drop (o.pos + o.inn.length)
def reT (t : List UInt8) (o : BSt) : List UInt8:=t.take o.pos ++ o.inn ++ t.drop (o.pos + o.out.length)
def okU : List BSt→List UInt8→Prop
 | [],t=>t.length≤4096
 | o :: l,t=>t.length≤4096∧o.pos + o.inn.length≤t.length∧reT (unT t o) o = t∧okU l (unT t o)
def okF : List BSt→List UInt8→Prop
 | [],t=>t.length≤4096
 | o :: l,t=>t.length≤4096∧o.pos + o.out.length≤t.length∧unT (reT t o) o = t∧okF l (reT t o)
theorem za3 {l : List BSt} {t : List UInt8} (h : okU l t) : t.length≤4096:=by cases l with | nil=>exact h | cons o l=>exact h.1
theorem zdc {l : List BSt} {t : List UInt8} (h : okF l t) : t.length≤4096:=by cases l with | nil=>exact h | cons o l=>exact h.1
theorem za2 : ∀ {l : List BSt} {t : List UInt8} (n : Nat),okU l t→okU (l.take n) t
 | [],t,n,h=>by simpa using h
 | o :: l,t,0,h=>h.1
 | o :: l,t,n + 1,h=>⟨h.1,h.2.1,h.2.2.1,za2 n h.2.2.2⟩
theorem zed : ∀ {l : List BSt} {t : List UInt8} (n : Nat),okF l t→okF (l.take n) t
 | [],t,n,h=>by simpa using h
 | o :: l,t,0,h=>h.1
 | o :: l,t,n + 1,h=>⟨h.1,h.2.1,h.2.2.1,zed n h.2.2.2⟩
theorem zc5 (l : List BSt) (o : BSt) : ∃ n,(wth l o).reverse = o :: l.reverse.take n:=by
 unfold wth
 split
 ·exact ⟨255,by rw [List.reverse_append,List.reverse_singleton,List.singleton_append,List.reverse_drop,show l.length - (l.length - 255) = 255 by omega]⟩
 ·exact ⟨l.length,by rw [List.reverse_append,List.reverse_singleton,List.singleton_append,List.take_of_length_le (by simp)]⟩
theorem zat (l : List BSt) (o : BSt) (h : l.length≤256) : (wth l o).length≤256:=by
 unfold wth
 split <;> simp only [List.length_append,List.length_drop,List.length_singleton] <;> omega
theorem zf8 {t : List UInt8} {o : BSt} (h : o.pos + o.inn.length≤t.length) : (unT t o).length + o.inn.length = t.length + o.out.length:=by
 unfold unT;simp only [List.length_append,List.length_take,List.length_drop];omega
theorem q7 {t : List UInt8} {o : BSt} (h : o.pos + o.out.length≤t.length) : (reT t o).length + o.out.length = t.length + o.inn.length:=by
 unfold reT;simp only [List.length_append,List.length_take,List.length_drop];omega
theorem zf7 {t : List UInt8} {o : BSt} (h : o.pos + o.out.length≤t.length) (hs : (t.drop o.pos).take o.out.length = o.out) : unT (reT t o) o = t:=by
 have h1 : (t.take o.pos).length = o.pos:=by rw [List.length_take];omega
 have e1 : (reT t o).take o.pos = t.take o.pos:=by
  unfold reT
  rw [List.append_assoc,List.take_append_of_le_length (by omega),List.take_of_length_le (by omega)]
 have e2 : (reT t o).drop (o.pos + o.inn.length) = t.drop (o.pos + o.out.length):=by
  unfold reT
  rw [List.drop_append_of_le_length (by rw [List.length_append];omega),List.drop_eq_nil_of_le (by rw [List.length_append];omega),List.nil_append]
 unfold unT
 rw [e1,e2,← List.drop_drop]
 conv=>lhs;lhs;rhs;rw [← hs]
 rw [List.append_assoc,List.take_append_drop,List.take_append_drop]
structure Bf.Ok (b : Bf) : Prop where
 u : okU b.past.reverse b.text
 f : okF b.fut.reverse b.text
 few : b.past.length≤256∧b.fut.length≤256
theorem Bf.Ok.chg {b : Bf} (ok : b.Ok) {o : BSt} (h : o.pos + o.out.length≤b.text.length) (hs : (b.text.drop o.pos).take o.out.length = o.out) (hl : b.text.length + o.inn.length≤4096 + o.out.length) : (b.chg o).Ok:=by
 have e:=zf7 h hs
 have hr:=q7 h
 obtain ⟨n,hn⟩:=zc5 b.past o
 refine ⟨?_,?_,zat _ _ ok.few.1,Nat.zero_le _⟩
 ·show okU (wth b.past o).reverse (reT b.text o)
  rw [hn]
  refine ⟨by omega,by omega,by rw [e],?_⟩
  rw [e]
  exact za2 n ok.u
 ·show (reT b.text o).length≤4096
  omega
theorem Bf.Ok.undo {b : Bf} (ok : b.Ok) : b.undo.1.Ok:=by
 unfold Bf.undo
 cases hp : b.past.getLast? with
 | none=>exact ok
 | some o=>
  obtain ⟨l,hl⟩:=List.getLast?_eq_some_iff.1 hp
  have hu:=ok.u
  rw [hl,List.reverse_append,List.reverse_singleton,List.singleton_append] at hu
  obtain ⟨h1,h2,h3,h4⟩:=hu
  have hr:=zf8 h2
  have hf:=ok.few
  obtain ⟨n,hn⟩:=zc5 b.fut o
  refine ⟨?_,?_,?_,zat _ _ hf.2⟩
  ·show okU b.past.dropLast.reverse (unT b.text o)
   rw [hl,List.dropLast_concat]
   exact h4
  ·show okF (wth b.fut o).reverse (unT b.text o)
   rw [hn]
   refine ⟨za3 h4,by omega,by rw [h3],?_⟩
   rw [h3]
   exact zed n ok.f
  ·show b.past.dropLast.length≤256
   rw [List.length_dropLast];omega
theorem Bf.Ok.redo {b : Bf} (ok : b.Ok) : b.redo.1.Ok:=by
 unfold Bf.redo
 cases hp : b.fut.getLast? with
 | none=>exact ok
 | some o=>
  obtain ⟨l,hl⟩:=List.getLast?_eq_some_iff.1 hp
  have hu:=ok.f
  rw [hl,List.reverse_append,List.reverse_singleton,List.singleton_append] at hu
  obtain ⟨h1,h2,h3,h4⟩:=hu
  have hr:=q7 h2
  have hf:=ok.few
  obtain ⟨n,hn⟩:=zc5 b.past o
  refine ⟨?_,?_,zat _ _ hf.1,?_⟩
  ·show okU (wth b.past o).reverse (reT b.text o)
   rw [hn]
   refine ⟨zdc h4,by omega,by rw [h3],?_⟩
   rw [h3]
   exact za2 n ok.u
  ·show okF b.fut.dropLast.reverse (reT b.text o)
   rw [hl,List.dropLast_concat]
   exact h4
  ·show b.fut.dropLast.length≤256
   rw [List.length_dropLast];omega
structure Ec.Ok (e : Ec) : Prop where
 bf : e.bf.Ok
 cur : e.cur≤e.bf.text.length∧e.anc≤e.bf.text.length
 cop : e.cop.length≤4096
theorem Bf.Ok.len {b : Bf} (ok : b.Ok) : b.text.length≤4096:=za3 ok.u
theorem zg7 {t : List UInt8} {a b : Nat} (h : a≤b) (hb : b≤t.length) : (t.drop a).take ((t.take b).drop a).length = (t.take b).drop a:=by
 rw [List.length_drop,List.length_take,List.drop_take]
 congr 1
 omega
theorem Ec.Ok.cutAt {e : Ec} (ok : e.Ok) {a b : Nat} (h : a≤b) (hb : b≤e.bf.text.length) :
  ({ e with bf:=e.bf.chg ⟨a,(e.bf.text.take b).drop a,[]⟩,cur:=a,anc:=a } : Ec).Ok:=by
 have hl : ((e.bf.text.take b).drop a).length = b - a:=by rw [List.length_drop,List.length_take];omega
 have hlen:=ok.bf.len
 refine ⟨ok.bf.chg (by dsimp only;omega) (zg7 h hb) (by dsimp only [List.length_nil];omega),?_,ok.cop⟩
 have hr:=q7 (t:=e.bf.text) (o:=⟨a,(e.bf.text.take b).drop a,[]⟩) (by dsimp only;omega)
 have h2 : (e.bf.chg ⟨a,(e.bf.text.take b).drop a,[]⟩).text.length = (reT e.bf.text ⟨a,(e.bf.text.take b).drop a,[]⟩).length:=rfl
 dsimp only [List.length_nil] at hr ⊢
 omega
theorem Ec.Ok.cut {e : Ec} (ok : e.Ok) : e.cut.Ok∧e.cut.cop = e.cop:=by
 unfold Ec.cut
 split
 ·exact ⟨ok,rfl⟩
 ·have h:=ok.cur
  exact ⟨ok.cutAt (by unfold Ec.lo Ec.hi;omega) (by unfold Ec.hi;omega),rfl⟩
theorem Ec.Ok.ins {e : Ec} (ok : e.Ok) (s : List UInt8) : (e.ins s).Ok:=by
 unfold Ec.ins
 split
 ·exact ok
 ·have h:=ok.cur
  refine ⟨ok.bf.chg (by dsimp only [List.length_nil];omega) (by simp) (by dsimp only [List.length_nil];omega),?_,ok.cop⟩
  have hr:=q7 (t:=e.bf.text) (o:=⟨e.cur,[],s⟩) (by dsimp only [List.length_nil];omega)
  have h2 : (e.bf.chg ⟨e.cur,[],s⟩).text.length = (reT e.bf.text ⟨e.cur,[],s⟩).length:=rfl
  dsimp only [List.length_nil] at hr ⊢
  omega
theorem Ec.Ok.put {e : Ec} (ok : e.Ok) (s : List UInt8) : (e.put s).Ok:=ok.cut.1.ins s
theorem Ec.Ok.back {e : Ec} (ok : e.Ok) {p : Bf × Bool} (hp : p.1.Ok) : (e.back p).Ok:=by
 unfold Ec.back
 split
 ·exact ⟨hp,by dsimp only;omega,ok.cop⟩
 ·exact ok
theorem Ec.Ok.erase {e : Ec} (ok : e.Ok) : e.erase.Ok:=by
 unfold Ec.erase
 split
 ·exact ok.cut.1
 ·split
  ·exact ok
  ·have h:=ok.cur
   exact ok.cutAt (by omega) h.1
def Ec.eraseF (e : Ec) : Ec:=if e.lo≠e.hi then e.cut else if e.bf.text.length≤e.cur then e else { e with bf:=e.bf.chg ⟨e.cur,(e.bf.text.take (e.cur + 1)).drop e.cur,[]⟩,cur:=e.cur,anc:=e.cur }
theorem Ec.Ok.eraseF {e : Ec} (ok : e.Ok) : e.eraseF.Ok:=by
 unfold Ec.eraseF
 split
 ·exact ok.cut.1
 ·split
  ·exact ok
  ·exact ok.cutAt (by omega) (by omega)
def Ec.goes (e : Ec) (code : Int) : Option Nat:=
 let t:=e.bf.text
 let p:=spotN t e.cur
 if code = 130 then some (e.cur - 1)
 else if code = 131 then some (min (e.cur + 1) t.length)
 else if code = 132 then some (placeN t p.1 0)
 else if code = 133 then some (placeN t p.1 (lineN t p.1).length)
 else if code = 134 then some (placeN t ((p.1 : Int) - 1) p.2)
 else if code = 135 then some (placeN t ((p.1 : Int) + 1) p.2)
 else none
theorem Ec.goes_le {e : Ec} (ok : e.Ok) {code : Int} {k : Nat} (h : e.goes code = some k) : k≤e.bf.text.length:=by
 have hc:=ok.cur
 unfold Ec.goes at h
 dsimp only at h
 split at h
 ·injection h with h;omega
 split at h
 ·injection h with h;omega
 split at h
 ·injection h with h;subst h;exact v9 _ _ _
 split at h
 ·injection h with h;subst h;exact v9 _ _ _
 split at h
 ·injection h with h;subst h;exact v9 _ _ _
 split at h
 ·injection h with h;subst h;exact v9 _ _ _
 ·cases h
def letN (code mods : Int) : Option UInt8:=
 if code < 32∨126 < code∨mods < 0∨1 < mods then none
 else some (UInt8.ofNat (if mods = 1∧97≤code∧code≤122 then code - 32 else code).toNat)
def Ec.cmd (e : Ec) (code : Int) : Ec:=
 if code = 122 then e.back e.bf.undo
 else if code = 121 then e.back e.bf.redo
 else if code = 97 then { e with anc:=0,cur:=e.bf.text.length }
 else if code = 99 then (if e.lo < e.hi then { e with cop:=(e.bf.text.take e.hi).drop e.lo } else e)
 else e
def Ec.key (e : Ec) (code mods : Int) : Ec:=
 if mods = 4 then e.cmd code
 else if 1 < mods then e
 else match letN code mods with
  | some b=>e.put [b]
  | none=>
   match e.goes code with
   | some k=>if mods = 0 then { e with cur:=k,anc:=k } else { e with cur:=k }
   | none=>if mods≠0 then e else if code = 13 then e.put [10] else if code = 8 then e.erase else if code = 127 then e.eraseF else e
theorem Ec.Ok.cmd {e : Ec} (ok : e.Ok) (code : Int) : (e.cmd code).Ok:=by
 unfold Ec.cmd
 split
 ·exact ok.back ok.bf.undo
 split
 ·exact ok.back ok.bf.redo
 split
 ·exact ⟨ok.bf,⟨Nat.le_refl _,Nat.zero_le _⟩,ok.cop⟩
 split
 ·split
  ·refine ⟨ok.bf,ok.cur,?_⟩
   have:=ok.bf.len
   show ((e.bf.text.take e.hi).drop e.lo).length≤4096
   rw [List.length_drop,List.length_take];omega
  ·exact ok
 ·exact ok
theorem Ec.Ok.key {e : Ec} (ok : e.Ok) (code mods : Int) : (e.key code mods).Ok:=by
 unfold Ec.key
 split
 ·exact ok.cmd code
 split
 ·exact ok
 split
 ·exact ok.put _
 split
 ·rename_i k hk
  have:=Ec.goes_le ok hk
  split
  ·exact ⟨ok.bf,⟨this,this⟩,ok.cop⟩
  ·exact ⟨ok.bf,⟨this,ok.cur.2⟩,ok.cop⟩
 split
 ·exact ok
 split
 ·exact ok.put _
 split
 ·exact ok.erase
 split
 ·exact ok.eraseF
 ·exact ok
end

section
open Go.RowKit
set_option linter.unusedVariables false
end

section
open Go.RowKit
set_option maxRecDepth 10000
structure Fr where
 fr : Int
 w : Int
 h : Int
 title : List UInt8
deriving DecidableEq,Inhabited
structure Wt where
 g : Int
 known : Bool
 w : Int
 h : Int
deriving DecidableEq,Inhabited
structure Mg where
 base : Int
 cnt : Int
 made : Int
 w : Int
 h : Int
 fresh : Bool
 F : List (Int × Fr)
 W : List (Int × Wt)
 on : Bool
 df : Int
 dx : Int
 dy : Int
deriving DecidableEq
def posK {α : Type} (l : List (Int × α)) (id : Int) : Option Nat:=l.findIdx? (fun e=>e.1 == id)
def posB {α : Type} (l : List (Int × α)) (p : α→Bool) : Option Nat:=l.findIdx? (fun e=>p e.2)
theorem qd {α : Type} {l : List α} {p : α→Bool} {i : Nat} (h : l.findIdx? p = some i) : ∃ e,l[i]? = some e∧p e = true:=by
 obtain ⟨h1,h2,-⟩:=List.findIdx?_eq_some_iff_getElem.1 h
 exact ⟨l[i],List.getElem?_eq_getElem h1,h2⟩
theorem zg3 {α : Type} {l : List (Int × α)} {id : Int} {i : Nat} (h : posK l id = some i) : ∃ v,l[i]? = some (id,v):=by
 obtain ⟨⟨a,v⟩,h1,h2⟩:=qd h
 have : a = id:=by simpa using h2
 subst this
 exact ⟨v,h1⟩
theorem zb4 {α : Type} {l : List (Int × α)} {id : Int} (h : posK l id = none) : id∉l.map Prod.fst:=by
 intro hm
 obtain ⟨e,h1,h2⟩:=List.mem_map.1 hm
 have:=List.findIdx?_eq_none_iff.1 h e h1
 simp [h2] at this
theorem q9 {α : Type} {l : List (Int × α)} {p : α→Bool} {i : Nat} (h : posB l p = some i) : ∃ e,l[i]? = some e∧p e.2 = true:=qd h
def rq (c : Int) (n : List Int) : Rq:=⟨c,n,[],[]⟩
def farI (step all taken : Int) : Int:=if taken ≥ all then 0 else if all - taken≤0∨12582912 < all - taken then step else step % (all - taken + 1)
def spotX (n w X W : Int) : Int:=X + farI (12 * min (max n 0) 1048576) W w
def spotY (n h Y H : Int) : Int:=Y + farI (10 * min (max n 0) 1048576) H h
def titleB (v : Int) : UInt8:=if v < 32∨v > 126 then 63 else UInt8.ofNat v.toNat
def titleL (row : List Int) : List UInt8:=(row.take 32).map titleB
def Mg.mapReq (m : Mg) (id : Int) : Mg × List Rq:=
 match posK m.F id with
 | some i=>({ m with cnt:=m.cnt + 2 },[rq 3 [id],rq 3 [(m.F[i]!).2.fr]])
 | none=>
  match posK m.W id with
  | some _=>(m,[])
  | none=>({ m with cnt:=m.cnt + 2,W:=m.W ++ [(id,⟨m.cnt + 1,false,0,0⟩)] },[rq 9 [id],rq 15 [id,8,0,0,64,0]])
def Mg.refused (m : Mg) (seq : Int) : Mg:=
 match posB m.W (fun k=>k.g == seq || k.g + 1 == seq) with
 | some i=>{ m with W:=m.W.eraseIdx i }
 | none=>m
def Mg.sized (m : Mg) (seq w h : Int) : Mg:=
 match posB m.W (fun k=>k.g == seq) with
 | some i=>{ m with W:=m.W.set i ((m.W[i]!).1,⟨(m.W[i]!).2.g,w != 0,w,h⟩) }
 | none=>m
def Mg.draw (m : Mg) (f : Fr) : Rq:=⟨36,[f.fr,m.base + 1,1,7,1],f.title,[]⟩
def Mg.manage (m : Mg) (id : Int) (k : Wt) (row : List Int) : Mg × List Rq:=
 if k.known = false then (m,[])
 else if 126 < k.w∨118 < k.h then ({ m with cnt:=m.cnt + 1 },[rq 3 [id]])
 else
  let f : Fr:=⟨m.base + 10 + m.made,k.w,k.h,titleL row⟩
  ({ m with cnt:=m.cnt + 7,made:=m.made + 1,F:=m.F ++ [(id,f)] },
   [rq 1 [f.fr,1,spotX m.made (k.w + 2) 0 m.w,spotY m.made (k.h + 10) 0 m.h,k.w + 2,k.h + 10,200,1,1],rq 7 [f.fr,32,0,0,0,0,0,3356],rq 54 [id,1],rq 6 [id,f.fr,1,9],rq 3 [id],rq 3 [f.fr],m.draw f])
def Mg.titled (m : Mg) (seq : Int) (row : List Int) : Mg × List Rq:=
 match posB m.W (fun k=>k.g + 1 == seq) with
 | some i=>Mg.manage { m with W:=m.W.eraseIdx i } (m.W[i]!).1 (m.W[i]!).2 row
 | none=>(m,[])
def bit (mask k : Int) : Bool:=mask / k % 2 == 1
def confW (f : Fr) (mask w : Int) : Int:=if bit mask 4 then w else f.w
def confH (f : Fr) (mask h : Int) : Int:=if bit mask 8 then h else f.h
def confBig (f : Fr) (mask w h : Int) : Bool:=(bit mask 4 || bit mask 8) && (decide (1≤confW f mask w) && decide (confW f mask w≤126) && decide (1≤confH f mask h) && decide (confH f mask h≤118))
def confA (f : Fr) (id mask x y w h mode : Int) : List Rq:=
 (if confBig f mask w h then [rq 5 [id,12,0,0,confW f mask w,confH f mask h,0,0],rq 5 [f.fr,12,0,0,confW f mask w + 2,confH f mask h + 10,0,0]] else [])
  ++ (if bit mask 1 || bit mask 2 then [rq 5 [f.fr,mask % 4,x,y,0,0,0,0]] else []) ++ (if bit mask 16 then [rq 5 [f.fr,16,0,0,0,0,0,mode]] else [])
theorem zig (f : Fr) (id mask x y w h mode : Int) : (confA f id mask x y w h mode).length≤4:=by
 unfold confA
 rw [List.length_append,List.length_append]
 have h1 : ∀ (b : Bool) (p q : Rq),(if b then [p,q] else []).length≤2:=fun b p q=>by cases b <;> simp
 have h2 : ∀ (b : Bool) (p : Rq),(if b then [p] else []).length≤1:=fun b p=>by cases b <;> simp
 have:=h1 (confBig f mask w h) (rq 5 [id,12,0,0,confW f mask w,confH f mask h,0,0]) (rq 5 [f.fr,12,0,0,confW f mask w + 2,confH f mask h + 10,0,0])
 have:=h2 (bit mask 1 || bit mask 2) (rq 5 [f.fr,mask % 4,x,y,0,0,0,0])
 have:=h2 (bit mask 16) (rq 5 [f.fr,16,0,0,0,0,0,mode])
 omega
def Mg.conf (m : Mg) (id mask x y w h sib mode : Int) : Mg × List Rq:=
 match posK m.F id with
 | none=>({ m with cnt:=m.cnt + 1 },[rq 5 [id,mask,x,y,w,h,sib,mode]])
 | some i=>({ m with cnt:=m.cnt + ((confA (m.F[i]!).2 id mask x y w h mode).length : Nat),F:=if confBig (m.F[i]!).2 mask w h then m.F.set i (id,⟨(m.F[i]!).2.fr,confW (m.F[i]!).2 mask w,confH (m.F[i]!).2 mask h,(m.F[i]!).2.title⟩) else m.F },confA (m.F[i]!).2 id mask x y w h mode)
def Mg.own (m : Mg) (event id : Int) : Option Nat:=
 match posK m.F id with
 | some i=>if (m.F[i]!).2.fr = event then some i else none
 | none=>none
def Mg.unmap (m : Mg) (event id : Int) : Mg × List Rq:=
 match m.own event id with
 | some i=>({ m with cnt:=m.cnt + 1 },[rq 4 [(m.F[i]!).2.fr]])
 | none=>(m,[])
def Mg.forget (m : Mg) (i : Nat) : Mg × List Rq:=
 let f:=(m.F[i]!).2.fr
 let hit:=m.on && (m.df == f)
 ({ m with cnt:=m.cnt + 1,F:=m.F.eraseIdx i,on:=if hit then false else m.on,df:=if hit then 0 else m.df,dx:=if hit then 0 else m.dx,dy:=if hit then 0 else m.dy },[rq 2 [f]])
def Mg.destroy (m : Mg) (event id : Int) : Mg × List Rq:=
 match m.own event id with
 | some i=>m.forget i
 | none=>(m,[])
def Mg.reparent (m : Mg) (event id parent : Int) : Mg × List Rq:=
 match m.own event id with
 | some i=>if parent = (m.F[i]!).2.fr then (m,[]) else m.forget i
 | none=>(m,[])
def Mg.of (m : Mg) (frame : Int) : Option Nat:=posB m.F (fun f=>f.fr == frame)
def Mg.expose (m : Mg) (frame count : Int) : Mg × List Rq:=
 match m.of frame with
 | some i=>if count = 0 then ({ m with cnt:=m.cnt + 1 },[m.draw (m.F[i]!).2]) else (m,[])
 | none=>(m,[])
def Mg.press (m : Mg) (frame x y : Int) : Mg × List Rq:=
 match m.of frame with
 | some i=>({ m with cnt:=m.cnt + 1,on:=true,df:=(m.F[i]!).2.fr,dx:=x,dy:=y },[rq 5 [(m.F[i]!).2.fr,16,0,0,0,0,0,0]])
 | none=>(m,[])
def boundI (v : Int) : Int:=min (max v (-32768)) 32767
def Mg.move (m : Mg) (x y : Int) : Mg × List Rq:=
 if m.on = true then ({ m with cnt:=m.cnt + 1 },[rq 5 [m.df,3,boundI (x - m.dx),boundI (y - m.dy),0,0,0,0]]) else (m,[])
def Mg.release (m : Mg) : Mg:={ m with on:=false,df:=0,dx:=0,dy:=0 }
def needsE (code : Int) : Nat:=
 if code = 17 then 2 else if code = 19 then 9 else if code = 16 then 2 else if code = 14 then 2 else if code = 20 then 6 else if code = 10 then 6 else if code = 3 then 9 else if code = 4 then 9 else if code = 5 then 9 else 0
def Mg.ev (m : Mg) (code : Int) (n : List Int) : Mg × List Rq:=
 if code = 17 then m.mapReq n[1]! else if code = 19 then m.conf n[1]! n[2]! n[3]! n[4]! n[5]! n[6]! n[7]! n[8]! else if code = 16 then m.unmap n[0]! n[1]! else if code = 14 then m.destroy n[0]! n[1]!
 else if code = 20 then m.reparent n[0]! n[1]! n[2]! else if code = 10 then m.expose n[0]! n[5]! else if code = 3 then m.press n[0]! n[4]! n[5]! else if code = 4 then (m.release,[]) else if code = 5 then m.move n[6]! n[7]! else (m,[])
structure Ot where
 kind : Int
 code : Int
 seq : Int
 n : List Int
 b : List UInt8
 l : List Int
deriving DecidableEq
def Mg.step (m : Mg) (o : Ot) : Mg × List Rq:=
 let m:={ m with fresh:=false }
 if o.kind = 0 then (m.refused o.seq,[])
 else if o.kind = 1 then (if o.code = 9∧7≤o.n.length then (m.sized o.seq o.n[3]! o.n[4]!,[]) else if o.code = 15∧3≤o.n.length then m.titled o.seq o.l else (m,[]))
 else if o.kind = 2 then (if needsE o.code≠0∧needsE o.code≤o.n.length then m.ev o.code o.n else (m,[]))
 else (m,[])
def r32 (n : Int) : Prop:=-2147483648≤n∧n≤2147483647
structure Mg.Ok (m : Mg) (top : Int) : Prop where
 base : 1048576≤m.base∧m.base≤8388608
 cnt : 0≤m.made∧m.made≤m.cnt∧m.cnt≤top
 side : 1≤m.w∧m.w≤128∧1≤m.h∧m.h≤128
 fresh : m.fresh = true→m.F = []∧m.W = []
 fk : (m.F.map Prod.fst).Nodup
 wk : (m.W.map Prod.fst).Nodup
 dis : ∀ e∈m.F,e.1∉m.W.map Prod.fst
 fr : ∀ e∈m.F,m.base + 10≤e.2.fr∧e.2.fr < m.base + 10 + m.made
 frs : (m.F.map (fun e=>e.2.fr)).Nodup
 fs : ∀ e∈m.F,r32 e.2.w∧r32 e.2.h∧e.2.title.length≤32
 wg : ∀ e∈m.W,1≤e.2.g∧e.2.g + 1≤m.cnt
 wgs : m.W.Pairwise (fun a b=>a.2.g + 1 < b.2.g)
 wv : ∀ e∈m.W,e.2.known = (e.2.w != 0)∧r32 e.2.w∧r32 e.2.h
 ids : (∀ e∈m.F,0≤e.1∧e.1≤2147483647)∧(∀ e∈m.W,0≤e.1∧e.1≤2147483647)
 dr : r32 m.df∧r32 m.dx∧r32 m.dy
 lens : m.F.length≤m.made∧m.W.length≤m.cnt
theorem Mg.Ok.mono {m : Mg} {a b : Int} (ok : m.Ok a) (h : a≤b) : m.Ok b:={ ok with cnt:=⟨ok.cnt.1,ok.cnt.2.1,by have:=ok.cnt.2.2;omega⟩ }
theorem getM {α : Type} [Inhabited α] {l : List α} {i : Nat} {e : α} (h : l[i]? = some e) : l[i]! = e:=by rw [List.getElem!_eq_getElem?_getD,h];rfl
theorem zca {α : Type} {l : List α} {i : Nat} {e : α} (h : l[i]? = some e) : e∈l:=List.mem_of_getElem? h
theorem zb9 {α β : Type} {l : List α} {f : α→β} (h : (l.map f).Nodup) {i j : Nat} {a b : α} (ha : l[i]? = some a) (hb : l[j]? = some b) (he : f a = f b) : i = j:=by
 have h1 : (l.map f)[i]? = some (f a):=by rw [List.getElem?_map,ha];rfl
 have h2 : (l.map f)[j]? = some (f a):=by rw [List.getElem?_map,hb,he];rfl
 obtain ⟨k1,k2⟩:=List.getElem?_eq_some_iff.1 h1
 obtain ⟨k3,k4⟩:=List.getElem?_eq_some_iff.1 h2
 exact (List.getElem_inj h).1 (k2.trans k4.symm)
theorem zg8 {α : Type} {r : α→α→Prop} {l : List α} (h : l.Pairwise r) {i j : Nat} {a b : α} (ha : l[i]? = some a) (hb : l[j]? = some b) (hij : i < j) : r a b:=by
 obtain ⟨k1,rfl⟩:=List.getElem?_eq_some_iff.1 ha
 obtain ⟨k2,rfl⟩:=List.getElem?_eq_some_iff.1 hb
 exact List.pairwise_iff_getElem.1 h i j k1 k2 hij
theorem Mg.Ok.one {m : Mg} {top : Int} (ok : m.Ok top) (s : Int) {i j : Nat} {a b : Int × Wt} (ha : m.W[i]? = some a) (hb : m.W[j]? = some b) (h1 : s = a.2.g∨s = a.2.g + 1) (h2 : s = b.2.g∨s = b.2.g + 1) : i = j:=by
 rcases Nat.lt_trichotomy i j with h | h | h
 ·have:=zg8 ok.wgs ha hb h;omega
 ·exact h
 ·have:=zg8 ok.wgs hb ha h;omega
end

section
open Go.RowKit
set_option maxRecDepth 10000
theorem Mg.Ok.tick {m : Mg} {top k : Int} (ok : m.Ok top) (hk : 0≤k) : ({ m with cnt:=m.cnt + k } : Mg).Ok (top + k):=
 { ok with
  cnt:=⟨ok.cnt.1,by have:=ok.cnt.2.1;dsimp only;omega,by have:=ok.cnt.2.2;dsimp only;omega⟩
  wg:=fun e he=>⟨(ok.wg e he).1,by have:=(ok.wg e he).2;dsimp only;omega⟩
  lens:=⟨ok.lens.1,by have:=ok.lens.2;dsimp only;omega⟩ }
theorem Mg.Ok.stale {m : Mg} {top : Int} (ok : m.Ok top) : ({ m with fresh:=false } : Mg).Ok top:={ ok with fresh:=fun h=>by cases h }
theorem Mg.Ok.dropW {m : Mg} {top : Int} (ok : m.Ok top) (hf : m.fresh = false) (i : Nat) : ({ m with W:=m.W.eraseIdx i } : Mg).Ok top:=
 have hs : (m.W.eraseIdx i).Sublist m.W:=List.eraseIdx_sublist _ _
 { ok with
  fresh:=fun h=>by simp [hf] at h
  wk:=ok.wk.sublist (hs.map _)
  dis:=fun e he hm=>ok.dis e he ((hs.map _).subset hm)
  wg:=fun e he=>ok.wg e (hs.subset he)
  wgs:=ok.wgs.sublist hs
  wv:=fun e he=>ok.wv e (hs.subset he)
  ids:=⟨ok.ids.1,fun e he=>ok.ids.2 e (hs.subset he)⟩
  lens:=⟨ok.lens.1,by have:=ok.lens.2;have:=hs.length_le;dsimp only;omega⟩ }
theorem Mg.Ok.dropF {m : Mg} {top : Int} (ok : m.Ok top) (hf : m.fresh = false) (i : Nat) : ({ m with F:=m.F.eraseIdx i } : Mg).Ok top:=
 have hs : (m.F.eraseIdx i).Sublist m.F:=List.eraseIdx_sublist _ _
 { ok with
  fresh:=fun h=>by simp [hf] at h
  fk:=ok.fk.sublist (hs.map _)
  dis:=fun e he=>ok.dis e (hs.subset he)
  fr:=fun e he=>ok.fr e (hs.subset he)
  frs:=ok.frs.sublist (hs.map _)
  fs:=fun e he=>ok.fs e (hs.subset he)
  ids:=⟨fun e he=>ok.ids.1 e (hs.subset he),ok.ids.2⟩
  lens:=⟨by have:=ok.lens.1;have:=hs.length_le;dsimp only;omega,ok.lens.2⟩ }
theorem rt {α : Type} {l : List α} {a : α} (h : l.Nodup) (ha : a∉l) : (l ++ [a]).Nodup:=
 List.nodup_append.2 ⟨h,by simp,fun x hx y hy=>by rw [List.mem_singleton] at hy;subst hy;rintro rfl;exact ha hx⟩
theorem Mg.Ok.mapReq {m : Mg} {top : Int} (ok : m.Ok top) (hf : m.fresh = false) (id : Int) (hid : 0≤id∧id≤2147483647) : (m.mapReq id).1.Ok (top + 7):=by
 unfold Mg.mapReq
 cases h1 : posK m.F id with
 | some i=>exact (ok.tick (k:=2) (by omega)).mono (by omega)
 | none=>
  cases h2 : posK m.W id with
  | some i=>exact ok.mono (by omega)
  | none=>
   have t:=ok.tick (k:=2) (by omega)
   have hnF:=zb4 h1
   have hnW:=zb4 h2
   refine Mg.Ok.mono (a:=top + 2) ?_ (by omega)
   exact { t with
    fresh:=fun h=>by simp [hf] at h
    wk:=by
     show ((m.W ++ [_]).map Prod.fst).Nodup
     rw [List.map_append]
     exact rt ok.wk hnW
    dis:=fun e he hm=>by
     simp only [List.map_append,List.mem_append,List.map_cons,List.map_nil,List.mem_singleton] at hm
     rcases hm with hm | hm
     ·exact ok.dis e he hm
     ·exact hnF (List.mem_map.2 ⟨e,he,hm⟩)
    wg:=fun e he=>by
     have hc:=ok.cnt
     simp only [List.mem_append,List.mem_singleton] at he
     rcases he with he | rfl
     ·exact t.wg e he
     ·dsimp only;omega
    wgs:=by
     show (m.W ++ [_]).Pairwise _
     rw [List.pairwise_append]
     refine ⟨ok.wgs,List.pairwise_singleton _ _,fun a ha b hb=>?_⟩
     rw [List.mem_singleton] at hb
     subst hb
     have:=(ok.wg a ha).2
     dsimp only;omega
    wv:=fun e he=>by
     simp only [List.mem_append,List.mem_singleton] at he
     rcases he with he | rfl
     ·exact ok.wv e he
     ·exact ⟨rfl,by unfold r32;dsimp only;omega,by unfold r32;dsimp only;omega⟩
    ids:=⟨ok.ids.1,fun e he=>by
     simp only [List.mem_append,List.mem_singleton] at he
     rcases he with he | rfl
     ·exact ok.ids.2 e he
     ·exact hid⟩
    lens:=⟨ok.lens.1,by have:=ok.lens.2;simp only [List.length_append,List.length_singleton];omega⟩ }
theorem Mg.Ok.refused {m : Mg} {top : Int} (ok : m.Ok top) (hf : m.fresh = false) (s : Int) : (m.refused s).Ok top:=by
 unfold Mg.refused
 split
 ·exact ok.dropW hf _
 ·exact ok
theorem v7 {α β : Type} {l : List α} {f : α→β} {i : Nat} {a b : α} (h : l[i]? = some a) (he : f b = f a) : (l.set i b).map f = l.map f:=by
 rw [List.map_set,he]
 refine List.ext_getElem? fun j=>?_
 rw [List.getElem?_set]
 by_cases hj : i = j
 ·subst hj
  rw [if_pos rfl,List.getElem?_map,h]
  have:=(List.getElem?_eq_some_iff.1 h).1
  rw [if_pos (by rw [List.length_map];exact this)];rfl
 ·rw [if_neg hj]
theorem Mg.Ok.sized {m : Mg} {top : Int} (ok : m.Ok top) (hf : m.fresh = false) (s w h : Int) (hw : r32 w) (hh : r32 h) : (m.sized s w h).Ok top:=by
 unfold Mg.sized
 cases hp : posB m.W (fun k=>k.g == s) with
 | none=>exact ok
 | some i=>
  obtain ⟨e,he,-⟩:=q9 hp
  simp only [getM he]
  have hm:=zca he
  have hk : ∀ x∈m.W.set i (e.1,⟨e.2.g,w != 0,w,h⟩),x∈m.W∨x = (e.1,⟨e.2.g,w != 0,w,h⟩):=fun x hx=>List.mem_or_eq_of_mem_set hx
  have hf1 : (m.W.set i (e.1,⟨e.2.g,w != 0,w,h⟩)).map Prod.fst = m.W.map Prod.fst:=v7 he rfl
  have hf2 : (m.W.set i (e.1,⟨e.2.g,w != 0,w,h⟩)).map (fun x=>x.2.g) = m.W.map (fun x=>x.2.g):=v7 he rfl
  exact { ok with
   fresh:=fun h=>by simp [hf] at h
   wk:=by show ((m.W.set i _).map Prod.fst).Nodup;rw [hf1];exact ok.wk
   dis:=fun x hx=>by show _∉(m.W.set i _).map Prod.fst;rw [hf1];exact ok.dis x hx
   wg:=fun x hx=>by
    rcases hk x hx with hx | rfl
    ·exact ok.wg x hx
    ·exact ok.wg e hm
   wgs:=by
    have:=ok.wgs
    have h1 : (m.W.map (fun x=>x.2.g)).Pairwise (fun a b=>a + 1 < b):=List.pairwise_map.2 this
    rw [← hf2] at h1
    exact List.pairwise_map.1 h1
   wv:=fun x hx=>by
    rcases hk x hx with hx | rfl
    ·exact ok.wv x hx
    ·exact ⟨rfl,hw,hh⟩
   ids:=⟨ok.ids.1,fun x hx=>by
    rcases hk x hx with hx | rfl
    ·exact ok.ids.2 x hx
    ·exact ok.ids.2 e hm⟩
   lens:=⟨ok.lens.1,by have:=ok.lens.2;simp only [List.length_set];exact this⟩ }
theorem Mg.Ok.manage {m : Mg} {top : Int} (ok : m.Ok top) (hf : m.fresh = false) (id : Int) (k : Wt) (row : List Int) (hid : 0≤id∧id≤2147483647) (hF : id∉m.F.map Prod.fst) (hW : id∉m.W.map Prod.fst) (hw : r32 k.w) (hh : r32 k.h) (htop : top≤1000000) : (m.manage id k row).1.Ok (top + 7):=by
 unfold Mg.manage
 split
 ·exact ok.mono (by omega)
 ·split
  ·exact (ok.tick (k:=1) (by omega)).mono (by omega)
  ·have t:=ok.tick (k:=7) (by omega)
   have hb:=ok.base
   have hc:=ok.cnt
   exact { t with
    cnt:=⟨by dsimp only;omega,by dsimp only;omega,by dsimp only;omega⟩
    fresh:=fun h=>by simp [hf] at h
    fk:=by
     show ((m.F ++ [_]).map Prod.fst).Nodup
     rw [List.map_append]
     exact rt ok.fk hF
    dis:=fun e he=>by
     simp only [List.mem_append,List.mem_singleton] at he
     rcases he with he | rfl
     ·exact ok.dis e he
     ·exact hW
    fr:=fun e he=>by
     simp only [List.mem_append,List.mem_singleton] at he
     rcases he with he | rfl
     ·have:=ok.fr e he;dsimp only;omega
     ·dsimp only;omega
    frs:=by
     show ((m.F ++ [_]).map _).Nodup
     rw [List.map_append]
     refine rt ok.frs fun hm=>?_
     obtain ⟨e,he,h2⟩:=List.mem_map.1 hm
     have:=ok.fr e he
     dsimp only at h2
     omega
    fs:=fun e he=>by
     simp only [List.mem_append,List.mem_singleton] at he
     rcases he with he | rfl
     ·exact ok.fs e he
     ·exact ⟨hw,hh,by unfold titleL;rw [List.length_map,List.length_take];omega⟩
    ids:=⟨fun e he=>by
     simp only [List.mem_append,List.mem_singleton] at he
     rcases he with he | rfl
     ·exact ok.ids.1 e he
     ·exact hid,ok.ids.2⟩
    lens:=⟨by have:=ok.lens.1;simp only [List.length_append,List.length_singleton];omega,t.lens.2⟩ }
theorem zdd {α β : Type} {l : List α} {f : α→β} (h : (l.map f).Nodup) {i : Nat} {e : α} (he : l[i]? = some e) : f e∉(l.eraseIdx i).map f:=by
 intro hm
 obtain ⟨x,h1,h2⟩:=List.mem_map.1 hm
 obtain ⟨j,hj⟩:=List.mem_iff_getElem?.1 h1
 rw [List.getElem?_eraseIdx] at hj
 split at hj
 ·have:=zb9 h hj he h2;omega
 ·have:=zb9 h hj he h2;omega
theorem Mg.Ok.titled {m : Mg} {top : Int} (ok : m.Ok top) (hf : m.fresh = false) (s : Int) (row : List Int) (htop : top≤1000000) : (m.titled s row).1.Ok (top + 7):=by
 unfold Mg.titled
 cases hp : posB m.W (fun k=>k.g + 1 == s) with
 | none=>exact ok.mono (by omega)
 | some i=>
  obtain ⟨e,he,-⟩:=q9 hp
  simp only [getM he]
  have hm:=zca he
  have hv:=ok.wv e hm
  refine (ok.dropW hf i).manage hf e.1 e.2 row (ok.ids.2 e hm) (fun k=>?_) (zdd ok.wk he) hv.2.1 hv.2.2 htop
  obtain ⟨x,h1,h2⟩:=List.mem_map.1 k
  exact ok.dis x h1 (h2 ▸ List.mem_map.2 ⟨e,hm,rfl⟩)
theorem Mg.Ok.setF {m : Mg} {top : Int} (ok : m.Ok top) (hf : m.fresh = false) {i : Nat} {id : Int} {v v' : Fr} (he : m.F[i]? = some (id,v)) (h1 : v'.fr = v.fr) (h2 : r32 v'.w∧r32 v'.h∧v'.title.length≤32) : ({ m with F:=m.F.set i (id,v') } : Mg).Ok top:=by
 have hm:=zca he
 have hk : ∀ x∈m.F.set i (id,v'),x∈m.F∨x = (id,v'):=fun x hx=>List.mem_or_eq_of_mem_set hx
 have hf1 : (m.F.set i (id,v')).map Prod.fst = m.F.map Prod.fst:=v7 he rfl
 have hf2 : (m.F.set i (id,v')).map (fun x=>x.2.fr) = m.F.map (fun x=>x.2.fr):=v7 he h1
 exact { ok with
  fresh:=fun h=>by simp [hf] at h
  fk:=by show ((m.F.set i _).map Prod.fst).Nodup;rw [hf1];exact ok.fk
  dis:=fun x hx=>by
   rcases hk x hx with hx | rfl
   ·exact ok.dis x hx
   ·exact ok.dis (id,v) hm
  fr:=fun x hx=>by
   rcases hk x hx with hx | rfl
   ·exact ok.fr x hx
   ·have:=ok.fr _ hm;dsimp only at *;rw [h1];exact this
  frs:=by show ((m.F.set i _).map _).Nodup;rw [hf2];exact ok.frs
  fs:=fun x hx=>by
   rcases hk x hx with hx | rfl
   ·exact ok.fs x hx
   ·exact h2
  ids:=⟨fun x hx=>by
   rcases hk x hx with hx | rfl
   ·exact ok.ids.1 x hx
   ·exact ok.ids.1 (id,v) hm,ok.ids.2⟩
  lens:=⟨by have:=ok.lens.1;simp only [List.length_set];exact this,ok.lens.2⟩ }
theorem Mg.Ok.conf {m : Mg} {top : Int} (ok : m.Ok top) (hf : m.fresh = false) (id mask x y w h sib mode : Int) : (m.conf id mask x y w h sib mode).1.Ok (top + 7):=by
 unfold Mg.conf
 cases hp : posK m.F id with
 | none=>exact (ok.tick (k:=1) (by omega)).mono (by omega)
 | some i=>
  obtain ⟨v,he⟩:=zg3 hp
  simp only [getM he]
  have hl:=zig v id mask x y w h mode
  have t:=ok.tick (k:=((confA v id mask x y w h mode).length : Nat)) (by omega)
  refine Mg.Ok.mono (a:=top + ((confA v id mask x y w h mode).length : Nat)) ?_ (by omega)
  cases hb : confBig v mask w h with
  | false=>exact t
  | true=>
   have hb2:=hb
   unfold confBig at hb2
   simp only [Bool.and_eq_true,decide_eq_true_eq] at hb2
   exact t.setF hf he rfl ⟨by unfold r32;dsimp only;omega,by unfold r32;dsimp only;omega,(ok.fs _ (zca he)).2.2⟩
theorem Mg.Ok.forget {m : Mg} {top : Int} (ok : m.Ok top) (hf : m.fresh = false) (i : Nat) : (m.forget i).1.Ok (top + 7):=by
 unfold Mg.forget
 have t:=(ok.dropF hf i).tick (k:=1) (by omega)
 have hd:=ok.dr
 refine Mg.Ok.mono (a:=top + 1) ?_ (by omega)
 exact { t with
  dr:=by
   unfold r32 at *
   dsimp only
   refine ⟨?_,?_,?_⟩ <;> split <;> omega }
theorem Mg.Ok.press {m : Mg} {top : Int} (ok : m.Ok top) (fr x y : Int) (hx : r32 x) (hy : r32 y) (htop : top≤1000000) : (m.press fr x y).1.Ok (top + 7):=by
 unfold Mg.press
 cases hp : m.of fr with
 | none=>exact ok.mono (by omega)
 | some i=>
  obtain ⟨e,he,-⟩:=q9 hp
  simp only [getM he]
  have hfr:=ok.fr e (zca he)
  have hb:=ok.base
  have hc:=ok.cnt
  have t:=ok.tick (k:=1) (by omega)
  refine Mg.Ok.mono (a:=top + 1) ?_ (by omega)
  exact { t with dr:=⟨by unfold r32;dsimp only;omega,hx,hy⟩ }
theorem Mg.Ok.release {m : Mg} {top : Int} (ok : m.Ok top) : m.release.Ok top:=
 { ok with dr:=⟨by unfold r32;simp [Mg.release],by unfold r32;simp [Mg.release],by unfold r32;simp [Mg.release]⟩ }
theorem Mg.Ok.move {m : Mg} {top : Int} (ok : m.Ok top) (x y : Int) : (m.move x y).1.Ok (top + 7):=by
 unfold Mg.move
 split
 ·exact (ok.tick (k:=1) (by omega)).mono (by omega)
 ·exact ok.mono (by omega)
theorem Mg.Ok.unmap {m : Mg} {top : Int} (ok : m.Ok top) (a b : Int) : (m.unmap a b).1.Ok (top + 7):=by
 unfold Mg.unmap
 split
 ·exact (ok.tick (k:=1) (by omega)).mono (by omega)
 ·exact ok.mono (by omega)
theorem Mg.Ok.destroy {m : Mg} {top : Int} (ok : m.Ok top) (hf : m.fresh = false) (a b : Int) : (m.destroy a b).1.Ok (top + 7):=by
 unfold Mg.destroy
 split
 ·exact ok.forget hf _
 ·exact ok.mono (by omega)
theorem Mg.Ok.reparent {m : Mg} {top : Int} (ok : m.Ok top) (hf : m.fresh = false) (a b c : Int) : (m.reparent a b c).1.Ok (top + 7):=by
 unfold Mg.reparent
 split
 ·split
  ·exact ok.mono (by omega)
  ·exact ok.forget hf _
 ·exact ok.mono (by omega)
theorem Mg.Ok.expose {m : Mg} {top : Int} (ok : m.Ok top) (a b : Int) : (m.expose a b).1.Ok (top + 7):=by
 unfold Mg.expose
 split
 ·split
  ·exact (ok.tick (k:=1) (by omega)).mono (by omega)
  ·exact ok.mono (by omega)
 ·exact ok.mono (by omega)
structure Ot.Few (o : Ot) : Prop where
 n : ∀ v∈o.n,r32 v
 l : ∀ v∈o.l,r32 v
 pos : o.kind = 2→∀ v∈o.n.take 3,0≤v
theorem Ot.Few.at {o : Ot} (h : o.Few) {i : Nat} (hi : i < o.n.length) : r32 o.n[i]!:=by rw [getElem!_pos o.n i hi];exact h.n _ (List.getElem_mem hi)
theorem Ot.Few.first {o : Ot} (h : o.Few) (hk : o.kind = 2) {i : Nat} (hi : i < o.n.length) (h3 : i < 3) : 0≤o.n[i]!∧o.n[i]!≤2147483647:=by
 refine ⟨?_,(h.at hi).2⟩
 rw [getElem!_pos o.n i hi]
 exact h.pos hk _ (List.mem_iff_getElem?.2 ⟨i,by rw [List.getElem?_take_of_lt h3];exact List.getElem?_eq_getElem hi⟩)
theorem Mg.Ok.step {m : Mg} {top : Int} (ok : m.Ok top) (o : Ot) (ho : o.Few) (htop : top≤1000000) : (m.step o).1.Ok (top + 7):=by
 have ok2:=ok.stale
 have hf : ({ m with fresh:=false } : Mg).fresh = false:=rfl
 unfold Mg.step
 generalize ({ m with fresh:=false } : Mg) = x at *
 dsimp only
 split
 ·exact (ok2.refused hf _).mono (by omega)
 split
 ·split
  ·rename_i h;exact (ok2.sized hf _ _ _ (ho.at (by omega)) (ho.at (by omega))).mono (by omega)
  ·split
   ·exact ok2.titled hf _ _ htop
   ·exact ok2.mono (by omega)
 split
 ·rename_i hk
  split
  ·rename_i h
   have hl:=h.2
   unfold needsE at hl
   unfold Mg.ev
   split
   ·rename_i hc;rw [if_pos hc] at hl;exact ok2.mapReq hf _ (ho.first hk (by omega) (by omega))
   rename_i c1;rw [if_neg c1] at hl
   split
   ·rename_i hc;rw [if_pos hc] at hl;exact ok2.conf hf _ _ _ _ _ _ _ _
   rename_i c2;rw [if_neg c2] at hl
   split
   ·exact ok2.unmap _ _
   rename_i c3;rw [if_neg c3] at hl
   split
   ·exact ok2.destroy hf _ _
   rename_i c4;rw [if_neg c4] at hl
   split
   ·exact ok2.reparent hf _ _ _
   rename_i c5;rw [if_neg c5] at hl
   split
   ·exact ok2.expose _ _
   rename_i c6;rw [if_neg c6] at hl
   split
   ·rename_i hc;rw [if_pos hc] at hl;exact ok2.press _ _ _ (ho.at (by omega)) (ho.at (by omega)) htop
   split
   ·exact ok2.release.mono (by omega)
   split
   ·exact ok2.move _ _
   ·exact ok2.mono (by omega)
  ·exact ok2.mono (by omega)
 ·exact ok2.mono (by omega)
end

section
open Go.RowKit
set_option maxRecDepth 10000
set_option maxHeartbeats 1000000
abbrev frC (f : Fr) : List T:=[I64 f.fr,I64 f.w,I64 f.h,strT f.title]
abbrev frT (f : Fr) : T:=.agg (frC f)
abbrev kF {α : Type} (l : List (Int × α)) : List Value:=l.map fun e=>Value.int .i64 e.1
abbrev tF (l : List (Int × Fr)) : List T:=l.map fun e=>frT e.2
end

section
open Go.RowKit
set_option maxRecDepth 10000
set_option maxHeartbeats 1000000
end

section
open Go.RowKit
set_option maxRecDepth 10000
set_option maxHeartbeats 1000000
end

section
open Go.RowKit
set_option maxRecDepth 10000
set_option maxHeartbeats 1000000
theorem kF_set {α : Type} {l : List (Int × α)} {i : Nat} {id : Int} {v v' : α} (h : l[i]? = some (id,v)) : kF (l.set i (id,v')) = kF l:=v7 h rfl
theorem setF {l : List (Int × Fr)} {i : Nat} {id : Int} {v v' : Fr} (h : l[i]? = some (id,v)) : mapP (kF l) ((tF l).set i (frT v')) = mapP (kF (l.set i (id,v'))) (tF (l.set i (id,v'))):=by rw [kF_set h,tF,tF,List.map_set]
end

section
open Go.RowKit
set_option maxRecDepth 10000
set_option maxHeartbeats 1000000
theorem CallP.of_glo {P : Program} {f : FuncId} {args : List T} {r : T} (hp : T.pureL args = true) (hr : r.pure = true) (hgo : goB P f = true)
  (h : ∀ (M : Mp) vs,Glo M→(∀ B,M.X B→B < M.w.heap.size)→RepL M args vs→Calls P f vs.toArray M.w (fun e w'=>∃ u,e = .returned u∧Below M.w.heap.size M.w w'∧Rep ⟨M.β,M.X,w'⟩ r u)) : CallP P f args r:=by
 refine ⟨hp,hr,hgo,fun X0 M vs hS hrep=>?_⟩
 refine (h M vs hS.glo hS.bnd hrep).mono ?_;rintro e w' ⟨u,rfl,hb,hu⟩;have hk : ∀ B,B < M.w.heap.size→w'.heap[B]? = M.w.heap[B]?:=fun B hB=>hb.block B hB
 have hE : Evo X0 M ⟨M.β,M.X,w'⟩:=⟨fun _ _ h=>h,fun _ _ h=>h,fun B hB _=>hk B hB,fun B s hs=>by
  have : B < M.w.heap.size:=by
   rcases Nat.lt_or_ge B M.w.heap.size with h1 | h1
   ·exact h1
   ·simp [World.shape?,Array.getElem?_eq_none h1] at hs
  rw [← hs];exact xp (hk B this),hb.os,⟨hb.tape,fun d=>d.elim⟩,hb.output,hb.size⟩
 exact ⟨u,r,[],⟨M.β,M.X,w'⟩,rfl,rfl,rfl,hE,hS.world hE hk,hu⟩
theorem zb2 (M : Mp) : ∀ (l : List (List UInt8)) (a : Array Value) (j : Nat),(∀ i s,l[i]? = some s→a[j + i]? = some (.string ⟨s.toArray⟩))→RepA M (encL cStr l) a j
 | [],a,j,h=>trivial
 | s :: l,a,j,h=>⟨_,by simpa using h 0 s rfl,rfl,zb2 M l a (j + 1) fun i s' h'=>by
  have:=h (i + 1) s' (by simpa using h')
  rwa [show j + (i + 1) = j + 1 + i from by omega] at this⟩
theorem zka (s : List UInt8) (hs : s.length≤1000) (has : ∀ b∈s,b.toNat < 128) (hn : (Lib.fields s).length≤1000) :
  CallP Tryz.prog 101 [strT s] (.islc (encL cStr (Lib.fields s)) (Lib.fields s).length none):=by
 refine CallP.of_glo rfl (by simp only [T.pure,zp]) (by kernel_rfl) fun M vs hG hX hrep=>?_
 obtain rfl : vs = [.string ⟨s.toArray⟩]:=by obtain ⟨u,q,rfl,rfl,rfl⟩:=hrep;rfl
 have htab : Lib.TabIs Tryz.prog M.w "strings.asciiSpace" .u8 Lib.asciiSpaceTab := by
  obtain ⟨-,e,f,hb⟩:=hG 0 spaceA (show glT 0 = some spaceA from if_pos rfl)
  unfold Lib.TabIs World.var?
  rw [show Tryz.prog.globalNamed "strings.asciiSpace" = some 0 from by kernel_rfl]
  simp only [Option.bind_some,hb]
  rfl
 refine (Tryz.strings_Fields_laid ⟨s.toArray⟩ M.w (by show s.toArray.size < _;rw [List.size_toArray];omega) (fun j b h=>has b (by have:=List.mem_of_getElem? h;simpa using this)) htab).mono ?_;rintro e w' ⟨rfl,rfl⟩;have hl : (⟨s.toArray⟩ : ByteArray).data.toList = s:=by simp
 rw [hl]
 refine ⟨_,rfl,⟨rfl,rfl,rfl,by show _≤(M.w.heap.push _).size;rw [Array.size_push];omega,fun k hk=>by show (M.w.heap.push _)[k]? = _;rw [Array.getElem?_push_lt hk,Array.getElem?_eq_getElem hk]⟩,?_⟩
 refine ⟨some ⟨M.w.heap.size,0,none⟩,(Lib.fields s).length,rfl,Nat.le_refl _,by unfold maxLen;omega,fun q h=>(by cases h),.inr ⟨M.w.heap.size,0,_,rfl,⟨fun hx=>Nat.lt_irrefl _ (hX _ hx),_,_,by show (M.w.heap.push _)[M.w.heap.size]? = _;rw [Array.getElem?_push_size]⟩,?_⟩⟩
 refine zb2 _ _ _ _ fun i s' h=>?_
 rw [Nat.zero_add,List.getElem?_toArray,List.getElem?_map,h];rfl
theorem zfn (s c : List UInt8) (hs : s.length≤1000) (hc : c.length≤1000) (has : ∀ b∈s,b.toNat < 128) (hac : ∀ b∈c,b.toNat < 128) :
  CallP Tryz.prog 118 [strT s,strT c] (I64 (Lib.indexAny s c)):=by
 refine CallP.of_glo rfl rfl (by kernel_rfl) fun M vs hG hX hrep=>?_
 obtain rfl : vs = [.string ⟨s.toArray⟩,.string ⟨c.toArray⟩]:=by obtain ⟨u,q,rfl,rfl,u2,q2,rfl,rfl,rfl⟩:=hrep;rfl
 refine (Tryz.strings_IndexAny_laid ⟨s.toArray⟩ ⟨c.toArray⟩ M.w (by show s.toArray.size < _;rw [List.size_toArray];omega) (by show c.toArray.size < _;rw [List.size_toArray];omega) (fun j b h=>has b (by have:=List.mem_of_getElem? h;simpa using this)) (fun j b h=>hac b (by have:=List.mem_of_getElem? h;simpa using this))).mono ?_;rintro e w' ⟨rfl,hb⟩;refine ⟨_,rfl,hb,?_⟩
 have hl : (⟨s.toArray⟩ : ByteArray).data.toList = s:=by simp
 have hl2 : (⟨c.toArray⟩ : ByteArray).data.toList = c:=by simp
 rw [hl,hl2];rfl
end

section
open Go.RowKit
set_option maxRecDepth 10000
set_option maxHeartbeats 1000000
section
variable {q : Bool} {P : Program} {tab : Tab} {im : List Nat} {ds : List (Option Nat)} {l : List Oper} {E : Env} {H : Hp} {K : Env→Hp→Prop} {d : Nat} {ty : TypeId} {pos : String} {after : Array Edge}
theorem ze2 [Dr] {x hi : Operand} {t : Nat} {k : IntKind} {m : Nat} {xs : List UInt8} {i : TyI} (hT : tab t = some i) (hk : i.k = .str) (hx : E.opd x = some (strT xs)) (hh : E.opd hi = some (.v (.int k (m : Int)))) (hm : m≤xs.length) (kk : VX q P tab im ds l ((d,strT (xs.take m)) :: E) H K) : VX q P tab im ds (⟨some d,.slice t x none (some hi) none,ty,pos,after,none⟩ :: l) E H K:=by
 refine za (t:=strT (xs.take m)) ?_ kk
 have hs : (m : Int)≤((⟨xs.toArray⟩ : ByteArray).size : Int):=by show (m : Int)≤(xs.length : Int);omega
 have he : (⟨xs.toArray⟩ : ByteArray).extract 0 m = ⟨(xs.take m).toArray⟩:=by
  have : ∀ a b : ByteArray,a.data = b.data→a = b:=fun ⟨_⟩ ⟨_⟩ h=>by simp only at h;subst h;rfl
  apply this
  rw [ByteArray.data_extract]
  simp
 simp only [opM,hx,optI,hh,mSlice,hT,hk,Option.isSome_none,Bool.false_eq_true,if_false,Option.getD_some,Option.getD_none]
 rw [if_pos ⟨Int.le_refl 0,Int.natCast_nonneg m,hs⟩,Int.toNat_natCast,Int.toNat_zero,he]
theorem wj [Dr] {x y : Operand} {t t2 : Nat} {a b : List UInt8} (hx : E.opd x = some (strT a)) (hy : E.opd y = some (strT b)) (k : VX q P tab im ds l ((d,BL (a == b)) :: E) H K) : VX q P tab im ds (⟨some d,.binOp .eql t x y t2,ty,pos,after,none⟩ :: l) E H K:=by
 refine za (t:=BL (a == b)) ?_ k
 simp only [opM,hx,hy,mBin,binStr]
 rw [zaw]
 rfl
end
abbrev digs : List UInt8:=[45,48,49,50,51,52,53,54,55,56,57]
def sizeS (f : List UInt8) : Int:=IntKind.i64.wrap (IntKind.u8.wrap (((f[f.length - 1]?.getD 0).toNat : Int) - 48))
def splitS (f : List UInt8) : List UInt8 × Int:=
 if Lib.indexAny f digs < 0 then (f,0) else (f.take (Lib.indexAny f digs).toNat,if f[(Lib.indexAny f digs).toNat]?.getD 0 = 45 then IntKind.i64.wrap (0 - sizeS f) else sizeS f)
def fieldB (f : List UInt8) : Bool:=decide (f.length≤1000) && f.all (fun b=>decide (b.toNat < 128)) && decide (Lib.indexAny f digs < f.length)
def lineB (s : List UInt8) : Bool:=decide (s.length≤1000) && s.all (fun b=>decide (b.toNat < 128)) && decide ((Lib.fields s).length≤1000) && (Lib.fields s).all fieldB
theorem split_p (f : List UInt8) (h : fieldB f = true) : CallP Tryz.prog 102 [strT f] (.tup [strT (splitS f).1,I64 (splitS f).2]):=by
 unfold fieldB at h
 simp only [Bool.and_eq_true,decide_eq_true_eq,List.all_eq_true] at h
 obtain ⟨⟨h1,h2⟩,h3⟩:=h
 have hix:=zfn f digs h1 (by decide) h2 (by decide)
 unfold splitS
 generalize Lib.indexAny f digs = a at *
 by_cases ha : a < 0
 ·rw [if_pos ha]
  refine CallP.intro2 z5 z5 ?_;refine CallT.intro zc Tryz.func102 rfl (by kernel_rfl) (Nat.le_of_ble_eq_true rfl) ?_;refine zf zc [] rfl ?_;iterate 2 refine za rfl ?_
  refine zb ?_;refine zf zc [] rfl ?_;refine za rfl ?_;refine zi rfl rfl rfl (hix) ?_;refine za rfl ?_;refine zb ?_;refine zn ?_;refine zf zc [] rfl ?_;iterate 2 refine za rfl ?_
  refine zb ?_;refine zm rfl (fun hc0=>?_) (fun hc0=>?_)
  ·(try simp only [zh] at hc0)
   refine zf zc [] rfl ?_;iterate 3 refine za rfl ?_
   refine zb ?_;refine zq ?_;exact ⟨trivial,_,rfl,Cv.eq (by first | rfl | (simp [*];done)) rfl⟩
  ·exact absurd hc0 (by first | omega | (simp;omega) | simp [ha])
 ·rw [if_neg ha]
  obtain ⟨m,rfl⟩:=Int.eq_ofNat_of_zero_le (show 0≤a by omega)
  rw [Int.toNat_natCast]
  have hm : m < f.length:=by omega
  have hlast : f[f.length - 1]? = some (f[f.length - 1]?.getD 0):=by rw [List.getElem?_eq_getElem (by omega)];rfl
  have hat : f[m]? = some (f[m]?.getD 0):=by rw [List.getElem?_eq_getElem hm];rfl
  have hlc : ((f.length : Int) - 1) = ((f.length - 1 : Nat) : Int):=by omega
  refine CallP.intro2 z5 z5 ?_;refine CallT.intro zc Tryz.func102 rfl (by kernel_rfl) (Nat.le_of_ble_eq_true rfl) ?_;refine zf zc [] rfl ?_;iterate 2 refine za rfl ?_
  refine zb ?_;refine zf zc [] rfl ?_;refine za rfl ?_;refine zi rfl rfl rfl (hix) ?_;refine za rfl ?_;refine zb ?_;refine zn ?_;refine zf zc [] rfl ?_;iterate 2 refine za rfl ?_
  refine zb ?_;refine zm rfl (fun hc0=>?_) (fun hc0=>?_)
  ·exact absurd hc0 (by first | omega | (simp;omega) | simp)
  ·(try simp only [zh] at hc0)
   refine zo ?_;refine zf zc [] rfl ?_;iterate 2 refine za rfl ?_
   refine za (t:=I64 (f.length : Nat)) rfl ?_;first | refine yu rfl rfl (by omega) ?_ | refine za rfl ?_
   refine xw rfl rfl rfl rfl hlc hlast ?_;first | refine yu rfl rfl (by omega) ?_ | refine za rfl ?_
   first | refine za rfl ?_ | refine zbs zc rfl rfl rfl rfl rfl rfl rfl rfl (by first | omega | (dsimp only;omega) | assumption) ?_
   refine za rfl ?_;refine zb ?_;refine zn ?_;refine zf zc [] rfl ?_;iterate 2 refine za rfl ?_
   refine xw rfl rfl rfl rfl rfl hat ?_;refine za rfl ?_;refine zb ?_;refine zm rfl (fun hc1=>?_) (fun hc1=>?_)
   ·have hx : f[m]?.getD 0 = 45:=(UInt8.toNat_inj.1 (by have : (((f[m]?.getD 0).toNat : Nat) : Int) = 45:=(by simpa using hc1);show (f[m]?.getD 0).toNat = 45;omega))
    refine zw zc [] rfl ?_;iterate 3 refine za rfl ?_
    refine zb ?_;refine zf zc [] rfl ?_;iterate 2 refine za rfl ?_
    refine ze2 rfl rfl rfl rfl z8 ?_;iterate 3 refine za rfl ?_
    refine zb ?_;refine zq ?_;exact ⟨trivial,_,rfl,Cv.eq (by rw [if_pos hx];rfl) rfl⟩
   ·have hx : ¬ f[m]?.getD 0 = 45:=(fun k=>by rw [k] at hc1;simp at hc1)
    refine zo ?_;refine zf zc [] rfl ?_;iterate 2 refine za rfl ?_
    refine ze2 rfl rfl rfl rfl z8 ?_;iterate 3 refine za rfl ?_
    refine zb ?_;refine zq ?_;exact ⟨trivial,_,rfl,Cv.eq (by rw [if_neg hx];rfl) rfl⟩
structure Fm where
 fx : List Int
 b : Bool
 l : Int
abbrev fmT (m : Fm) : T:=.agg [cIf m.fx,BL m.b,I64 m.l]
def fmAdd (m : Fm) (f : List UInt8) : Fm:=if (splitS f).1 = [66] then { m with b:=true } else if (splitS f).1 = [76] then { m with l:=(splitS f).2 } else { m with fx:=m.fx ++ [(splitS f).2] }
def fmOf (fs : List (List UInt8)) : Fm:=fs.foldl fmAdd ⟨[],false,0⟩
theorem zhy (fs : List (List UInt8)) (f : List UInt8) : fmOf (fs ++ [f]) = fmAdd (fmOf fs) f:=by unfold fmOf;rw [List.foldl_append];rfl
theorem zj9 (fs : List (List UInt8)) : (fmOf fs).fx.length≤fs.length:=by
 have : ∀ (fs : List (List UInt8)) (m : Fm),(fs.foldl fmAdd m).fx.length≤m.fx.length + fs.length:=by
  intro fs
  induction fs with
  | nil=>intro m;simp
  | cons f fs ih=>
   intro m
   rw [List.foldl_cons]
   refine Nat.le_trans (ih _) ?_;have : (fmAdd m f).fx.length≤m.fx.length + 1:=by
    unfold fmAdd
    split
    ·simp
    ·split <;> simp
   simp only [List.length_cons];omega
 have h:=this fs ⟨[],false,0⟩
 unfold fmOf
 simpa using h
theorem form_p (s : List UInt8) (h : lineB s = true) : CallP Tryz.prog 72 [strT s] (fmT (fmOf (Lib.fields s))):=by
 unfold lineB at h
 simp only [Bool.and_eq_true,decide_eq_true_eq,List.all_eq_true] at h
 obtain ⟨⟨⟨h1,h2⟩,h3⟩,h4⟩:=h
 have hfp:=zka s h1 h2 h3
 generalize Lib.fields s = fs at *
 have hpu:=zp cI (fmOf fs).fx
 refine CallP.intro2 z5 z5 ?_;refine CallT.intro zc Tryz.func72 rfl (by kernel_rfl) (Nat.le_of_ble_eq_true rfl) ?_;refine zf zc [] rfl ?_;refine yc rfl rfl ?_;refine zb ?_;refine zf zc [] rfl ?_;refine yc rfl rfl ?_;refine zb ?_;refine zn ?_;refine zf zc [] rfl ?_;refine za rfl ?_;refine zi rfl rfl rfl (hfp) ?_;iterate 2 refine za rfl ?_
 refine zb ?_;refine yf ?_;refine yy (σ:=Nat) (fun k=>fs.length - k) (fun k=>k≤fs.length) (fun k=>[(11,I64 k),(2,.ptr 0 0),(3,.ptr 1 0)]) (fun k=>[.c [NIL,BL false,I64 0],.c [.slc 2 0 (fmOf (fs.take k)).fx.length 1 none,BL (fmOf (fs.take k)).b,I64 (fmOf (fs.take k)).l],.c (encL cI (fmOf (fs.take k)).fx)]) [9,10] rfl (0) ?_ ?_ ?_
 ·refine ⟨[some 0,some 1,none],rfl,yo,yn,?_,?_⟩ <;> (repeat' first | exact trivial | exact ym | exact yq | exact yp rfl | refine yb ?_ ?_ | refine z4 rfl ?_ ?_ | refine zx ?_ ?_ | refine yk rfl ?_ | fail) <;> first | exact xd | (first | exact CvL.pure rfl | exact CvL.cons (Cv.nilv rfl) (CvL.pure rfl))
 ·(try dsimp only);omega
 rintro k hk;refine zf zc [] rfl ?_;refine za rfl ?_;refine zb ?_;refine zn ?_;refine zm rfl (fun hc0=>?_) (fun hc0=>?_)
 ·(try simp only [zh] at hc0);have hkl : k < fs.length:=(by omega);have hff:=h4 fs[k]! (List.mem_iff_getElem?.2 ⟨k,getE hkl⟩);have hsp:=split_p fs[k]! hff;have hsn : fmOf (fs.take (k + 1)) = fmAdd (fmOf (fs.take k)) fs[k]!:=(by rw [List.take_add_one,List.getElem?_eq_getElem hkl,getElem!_pos fs k hkl];exact zhy _ _);have hlen:=zj9 (fs.take k);have htk : (fs.take k).length = k:=(by rw [List.length_take];omega)
  generalize fmOf (fs.take k) = m at *
  unfold fmAdd at hsn
  generalize splitS fs[k]! = r at *
  refine zo ?_;refine zn ?_;refine yf ?_;refine zf zc [] rfl ?_;first | refine z9 rfl rfl rfl rfl rfl rfl (by omega) ?_ | refine ut rfl rfl rfl rfl rfl rfl rfl (by omega) ?_ | refine ut rfl rfl rfl rfl rfl rfl au_z (by omega) ?_ | refine uu rfl rfl rfl rfl rfl rfl rfl (by omega) ?_ | refine z9 rfl rfl rfl rfl rfl au_z (by omega) ?_ | refine uu rfl rfl rfl rfl rfl rfl au_z (by omega) ?_ | refine za rfl ?_
  first | refine za rfl ?_ | refine zd rfl rfl zj ?_ | refine ze rfl rfl rfl zj ?_
  refine za rfl ?_;refine zb ?_;refine zf zc [] rfl ?_;refine za rfl ?_;refine zi rfl rfl rfl (hsp) ?_;iterate 5 refine za rfl ?_
  refine zb ?_;refine zf zc [] rfl ?_;refine za rfl ?_;refine zb ?_;refine yf ?_;refine zf zc [] rfl ?_;refine wj rfl rfl ?_;refine za rfl ?_;refine zb ?_;refine zm rfl (fun hc1=>?_) (fun hc1=>?_)
  ·have hb : r.1 = [66]:=(by simpa using hc1);rw [if_pos hb] at hsn
   refine zw zc [] rfl ?_;refine za rfl ?_;refine zk rfl rfl rfl rfl rfl yh rfl ?_;refine zb ?_;refine zw zc [] rfl ?_;first | refine zy rfl rfl (by omega) ?_ | refine za rfl ?_
   refine za rfl ?_;refine zb ?_;refine ⟨k + 1,by (try dsimp only);omega,?_,(by refine ⟨[some 0,some 1,some 2],rfl,yo,yn,?_,?_⟩ <;> (repeat' first | exact trivial | exact ym | exact yq | exact yp rfl | refine yb ?_ ?_ | refine z4 rfl ?_ ?_ | refine zx ?_ ?_ | refine yk rfl ?_ | fail) <;> first | exact xd | (first | exact CvL.pure rfl | (rw [hsn];exact CvL.cons (Cv.slc rfl (.inl rfl)) (CvL.pure rfl)) | exact CvL.eq (by rw [hsn]) (zp _ _)))⟩
   (try dsimp only);omega
  ·have hb : ¬ r.1 = [66]:=(by simpa using hc1);rw [if_neg hb] at hsn
   refine zf zc [] rfl ?_;refine wj rfl rfl ?_;refine za rfl ?_;refine zb ?_;refine zm rfl (fun hc2=>?_) (fun hc2=>?_)
   ·have hb2 : r.1 = [76]:=(by simpa using hc2);rw [if_pos hb2] at hsn
    refine zw zc [] rfl ?_;iterate 2 refine za rfl ?_
    refine zk rfl rfl rfl rfl rfl yh rfl ?_;refine zb ?_;refine zw zc [] rfl ?_;first | refine zy rfl rfl (by omega) ?_ | refine za rfl ?_
    refine za rfl ?_;refine zb ?_;refine ⟨k + 1,by (try dsimp only);omega,?_,(by refine ⟨[some 0,some 1,some 2],rfl,yo,yn,?_,?_⟩ <;> (repeat' first | exact trivial | exact ym | exact yq | exact yp rfl | refine yb ?_ ?_ | refine z4 rfl ?_ ?_ | refine zx ?_ ?_ | refine yk rfl ?_ | fail) <;> first | exact xd | (first | exact CvL.pure rfl | (rw [hsn];exact CvL.cons (Cv.slc rfl (.inl rfl)) (CvL.pure rfl)) | exact CvL.eq (by rw [hsn]) (zp _ _)))⟩
    (try dsimp only);omega
   ·have hb2 : ¬ r.1 = [76]:=(by simpa using hc2);rw [if_neg hb2] at hsn
    refine zw zc [24] rfl ?_;refine za rfl ?_;first | refine za rfl ?_ | refine zd rfl rfl zj ?_ | refine ze rfl rfl rfl zj ?_
    refine za rfl ?_;refine ya rfl rfl ?_;first | refine xb rfl rfl rfl rfl rfl rfl yh yh yh ?_ | refine yw rfl rfl rfl rfl rfl rfl rfl rfl yh yh yh yh yh ?_
    refine za rfl ?_;refine zk rfl rfl rfl rfl rfl yh rfl ?_;refine zb ?_;refine zw zc [] rfl ?_;first | refine zy rfl rfl (by omega) ?_ | refine za rfl ?_
    refine za rfl ?_;refine zb ?_;refine ⟨k + 1,by (try dsimp only);omega,?_,(by refine ⟨[some 0,some 1,some 3],rfl,yo,yn,?_,?_⟩ <;> (repeat' first | exact trivial | exact ym | exact yq | exact yp rfl | refine yb ?_ ?_ | refine z4 rfl ?_ ?_ | refine zx ?_ ?_ | refine yk rfl ?_ | fail) <;> first | exact xd | (first | exact CvL.pure rfl | (rw [hsn,List.length_append];exact CvL.cons (Cv.slc rfl (.inr rfl)) (CvL.pure rfl)) | exact CvL.eq (by rw [hsn,yr,List.drop_zero,List.take_of_length_le (by rw [ye,t8];exact Nat.le_refl _)];rfl) (zp _ _)))⟩
    (try dsimp only);omega
 ·(try simp only [zh] at hc0);obtain rfl : k = fs.length:=(by omega);rw [List.take_length]
  refine yz ?_;refine zf zc [] rfl ?_;first | refine za rfl ?_ | refine zd rfl rfl zj ?_ | refine ze rfl rfl rfl zj ?_
  refine zk rfl rfl rfl rfl rfl yh rfl ?_;refine zb ?_;refine zq ?_;exact ⟨trivial,_,rfl,Cv.agg (CvL.cons (Cv.fslc0 ⟨rfl,by simp⟩ (CvL.pure hpu)) (CvL.pure rfl))⟩
end

section
open Go.RowKit
set_option maxRecDepth 100000
set_option maxHeartbeats 1000000
section
variable {q : Bool} {P : Program} {tab : Tab} {im : List Nat} {ds : List (Option Nat)} {l : List Oper} {E : Env} {H : Hp} {K : Env→Hp→Prop} {d : Nat} {ty : TypeId} {pos : String} {after : Array Edge}
theorem ba_part (xs : List UInt8) (a b : Nat) : (⟨xs.toArray⟩ : ByteArray).extract a b = ⟨((xs.take b).drop a).toArray⟩:=by
 have : ∀ a b : ByteArray,a.data = b.data→a = b:=fun ⟨_⟩ ⟨_⟩ h=>by simp only at h;subst h;rfl
 apply this
 rw [ByteArray.data_extract,List.drop_take]
 simp
theorem zbp [Dr] {x : Operand} {lo hi : Option Operand} {L Hh : Option Int} {t p r : Nat} {xs : List UInt8} {i : TyI} (hT : tab t = some i) (hk : i.k = .str) (hx : E.opd x = some (strT xs)) (hl : optI lo E.opd = some L) (hh : optI hi E.opd = some Hh)
  (hp : L.getD 0 = (p : Int)) (hr : Hh.getD (xs.length : Int) = (r : Int)) (h1 : p≤r) (h2 : r≤xs.length) (kk : VX q P tab im ds l ((d,strT ((xs.take r).drop p)) :: E) H K) : VX q P tab im ds (⟨some d,.slice t x lo hi none,ty,pos,after,none⟩ :: l) E H K:=by
 refine za (t:=strT ((xs.take r).drop p)) ?_ kk
 have hs : ((⟨xs.toArray⟩ : ByteArray).size : Int) = (xs.length : Int):=rfl
 simp only [opM,hx,hl,hh,mSlice,hT,hk,Option.isSome_none,Bool.false_eq_true,if_false,show optI none E.opd = some none from rfl]
 rw [hs,hr,hp,if_pos ⟨by omega,by omega,by omega⟩,Int.toNat_natCast,Int.toNat_natCast,ba_part]
theorem vj [Dr] {x lo : Operand} {t p : Nat} {k : IntKind} {z : Int} {xs : List UInt8} {i : TyI} (hT : tab t = some i) (hk : i.k = .str) (hx : E.opd x = some (strT xs)) (hl : E.opd lo = some (.v (.int k z)))
  (hp : z = (p : Int)) (h1 : p≤xs.length) (kk : VX q P tab im ds l ((d,strT (xs.drop p)) :: E) H K) : VX q P tab im ds (⟨some d,.slice t x (some lo) none none,ty,pos,after,none⟩ :: l) E H K:=
 zbp (p:=p) (r:=xs.length) (L:=some z) (Hh:=none) hT hk hx (by simp only [optI,hl]) rfl hp rfl h1 (Nat.le_refl _) (by rw [List.take_length];exact kk)
theorem ur [Dr] {x hi : Operand} {t r : Nat} {k : IntKind} {z : Int} {xs : List UInt8} {i : TyI} (hT : tab t = some i) (hk : i.k = .str) (hx : E.opd x = some (strT xs)) (hl : E.opd hi = some (.v (.int k z)))
  (hp : z = (r : Int)) (h1 : r≤xs.length) (kk : VX q P tab im ds l ((d,strT (xs.take r)) :: E) H K) : VX q P tab im ds (⟨some d,.slice t x none (some hi) none,ty,pos,after,none⟩ :: l) E H K:=
 zbp (p:=0) (r:=r) (L:=none) (Hh:=some z) hT hk hx rfl (by simp only [optI,hl]) rfl hp (Nat.zero_le _) h1 (by rw [List.drop_zero];exact kk)
theorem rd [Dr] {x lo hi : Operand} {t p r : Nat} {k k2 : IntKind} {z y : Int} {xs : List UInt8} {i : TyI} (hT : tab t = some i) (hk : i.k = .str) (hx : E.opd x = some (strT xs)) (hl : E.opd lo = some (.v (.int k z))) (hh : E.opd hi = some (.v (.int k2 y)))
  (hp : z = (p : Int)) (hr : y = (r : Int)) (h1 : p≤r) (h2 : r≤xs.length) (kk : VX q P tab im ds l ((d,strT ((xs.take r).drop p)) :: E) H K) : VX q P tab im ds (⟨some d,.slice t x (some lo) (some hi) none,ty,pos,after,none⟩ :: l) E H K:=
 zbp (p:=p) (r:=r) (L:=some z) (Hh:=some y) hT hk hx (by simp only [optI,hl]) (by simp only [optI,hh]) hp hr h1 h2 kk
theorem ba_cat (a b : List UInt8) : (⟨a.toArray⟩ ++ ⟨b.toArray⟩ : ByteArray) = ⟨(a ++ b).toArray⟩:=by
 apply ByteArray.ext
 rw [ByteArray.data_append]
 simp
theorem xo [Dr] {x y : Operand} {t t2 : Nat} {a b : List UInt8} (hx : E.opd x = some (strT a)) (hy : E.opd y = some (strT b)) (h : a.length + b.length < 9223372036854775808) (k : VX q P tab im ds l ((d,strT (a ++ b)) :: E) H K) : VX q P tab im ds (⟨some d,.binOp .add t x y t2,ty,pos,after,none⟩ :: l) E H K:=by
 refine za (t:=strT (a ++ b)) ?_ k
 simp only [opM,hx,hy,mBin,binStr]
 rw [if_pos (show (⟨a.toArray⟩ : ByteArray).size + (⟨b.toArray⟩ : ByteArray).size < 2 ^ 63 from h),ba_cat]
 rfl
end
theorem Cv.fslcE {v : Vw} {b n n' z : Nat} {c : Option Nat} {cs cs' : List T} (hn : n = n') (h : v.F b cs) (hl : CvL v cs cs') : Cv v (.slc b 0 n z c) (.islc cs' n' none):=by subst hn;exact Cv.fslc0 h hl
/- bytes of strings -/
def ixN (s : List UInt8) : Int:=match nlN s with | some i=>(i : Int) | none=>-1
theorem ixN_eq : ∀ s : List UInt8,Lib.indexByte s 10 = ixN s
 | []=>rfl
 | b :: s=>by
  have ih:=ixN_eq s
  show (if (b == (10 : UInt8)) = true then 0 else if (Lib.indexByte s 10 == -1) = true then -1 else Lib.indexByte s 10 + 1) = _
  unfold ixN nlN at *
  rw [List.findIdx?_cons]
  by_cases h : (b == (10 : UInt8)) = true
  ·rw [if_pos h];simp [h]
  ·rw [if_neg h,ih]
   simp only [Bool.not_eq_true] at h
   rw [h]
   cases List.findIdx? (fun b=>b == (10 : UInt8)) s with
   | none=>rfl
   | some i=>simp only [Bool.false_eq_true,if_false,Option.map_some];rw [if_neg (by simp)];rfl
theorem sl_ix (s : ByteArray) (c : Int) (w : World) : Calls Tryz.prog 137 #[.string s,.int .u8 c] w fun e w'=>e = .returned (.int .i64 (Lib.indexByte s.data.toList c.toNat.toUInt8))∧w' = w:=by
 go_enter Tryz.func137,Tryz.ntmps137
 go_wp2
 rw [run_callFunc_extern Tryz.func147 (by kernel_rfl) (by kernel_rfl) (by kernel_rfl) (e:=Extern.BytealgIndexByte.indexByte) (by kernel_rfl),Lib.run_indexByteString]
 simp only [Result.andThen]
 rw [Oper.upon_value]
 go_wp2
 go_ret
 exact ⟨rfl,rfl⟩
theorem st_cnt (s : ByteArray) (c : UInt8) (w : World) : Calls Tryz.prog 75 #[.string s,.string ⟨#[c]⟩] w fun e w'=>e = .returned (.int .i64 (Lib.countByte s.data.toList c))∧w' = w:=by
 go_enter Tryz.func75,Tryz.ntmps75
 go_wp2
 rw [run_callFunc_extern Tryz.func107 (by kernel_rfl) (by kernel_rfl) (by kernel_rfl) (e:=Extern.BytealgCount.count) (by kernel_rfl),Lib.run_countString]
 simp only [Result.andThen]
 rw [Oper.upon_value]
 go_wp2
 go_ret
 exact ⟨rfl,rfl⟩
theorem ixB_p (s : List UInt8) : CallP Tryz.prog 136 [strT s,U8 10] (I64 (ixN s)):=by
 have h : CallP Tryz.prog 137 [strT s,U8 10] (I64 (ixN s)):=by
  refine CallP.of_world (us:=[.string ⟨s.toArray⟩,.int .u8 10]) rfl rfl (fun M vs h=>?_) (by kernel_rfl) (fun w=>?_)
  ·obtain ⟨u,r,rfl,rfl,u2,r2,rfl,rfl,rfl⟩:=h;rfl
  ·refine (sl_ix ⟨s.toArray⟩ 10 w).mono ?_;rintro e w' ⟨rfl,rfl⟩;exact ⟨_,rfl,Below.refl _ _,fun M _ _=>congrArg (Value.int IntKind.i64) (ixN_eq s)⟩
 refine CallP.intro2 z5 z5 ?_;refine CallT.intro zc Tryz.func136 rfl (by kernel_rfl) (Nat.le_of_ble_eq_true rfl) ?_;refine zf zc [] rfl ?_;refine za rfl ?_;refine zb ?_;refine zf zc [] rfl ?_;iterate 2 refine za rfl ?_
 refine zi rfl rfl rfl (h) ?_;refine za rfl ?_;refine zb ?_;refine zq ?_;exact ⟨trivial,_,rfl,Cv.eq rfl rfl⟩
theorem cnt_p (s : List UInt8) : CallP Tryz.prog 75 [strT s,strT [10]] (I64 (s.count 10 : Nat)):=by
 refine CallP.of_world (us:=[.string ⟨s.toArray⟩,.string ⟨#[10]⟩]) rfl rfl (fun M vs h=>?_) (by kernel_rfl) (fun w=>?_)
 ·obtain ⟨u,r,rfl,rfl,u2,r2,rfl,rfl,rfl⟩:=h;rfl
 ·refine (st_cnt ⟨s.toArray⟩ 10 w).mono ?_;rintro e w' ⟨rfl,rfl⟩;exact ⟨_,rfl,Below.refl _ _,fun M _ _=>rfl⟩
def lix (s : List UInt8) : Nat→Int
 | 0=>-1
 | j + 1=>if s[j]? = some 10 then (j : Int) else lix s j
theorem zhn (s t : List UInt8) : ∀ j,j≤s.length→lix (s ++ t) j = lix s j
 | 0,_=>rfl
 | j + 1,h=>by unfold lix;rw [List.getElem?_append_left (by omega),zhn s t j (by omega)]
theorem lix_rg (s : List UInt8) : ∀ j,-1≤lix s j∧lix s j < (j : Int)
 | 0=>by unfold lix;omega
 | j + 1=>by
  have:=lix_rg s j
  unfold lix
  split <;> omega
theorem zbk (s : List UInt8) (b : UInt8) : colN (s ++ [b]) = if b = 10 then 0 else colN s + 1:=by
 unfold colN
 rw [List.reverse_append,List.reverse_singleton,List.singleton_append,List.takeWhile_cons]
 by_cases h : b = 10
 ·subst h;rfl
 ·rw [if_neg h,if_pos (by simpa using h),List.length_cons]
theorem lix_col (s : List UInt8) : (s.length : Int) - lix s s.length - 1 = (colN s : Int):=by
 obtain ⟨r,rfl⟩ : ∃ r : List UInt8,s = r.reverse:=⟨s.reverse,by simp⟩
 induction r with
 | nil=>rfl
 | cons b r ih=>
  rw [List.reverse_cons]
  generalize r.reverse = s at ih ⊢
  rw [zbk,List.length_append,List.length_singleton]
  unfold lix
  rw [List.getElem?_append_right (Nat.le_refl _),Nat.sub_self,zhn s [b] _ (Nat.le_refl _)]
  by_cases h : b = 10
  ·subst h;simp;omega
  ·rw [if_neg h,if_neg (by simpa using h)];omega
theorem lixB_p (s : List UInt8) (hl : s.length≤100000) : CallP Tryz.prog 76 [strT s,U8 10] (I64 (lix s s.length)):=by
 have h : CallP Tryz.prog 109 [strT s,U8 10] (I64 (lix s s.length)):=by
  refine CallP.intro2 z5 z5 ?_;refine CallT.intro zc Tryz.func109 rfl (by kernel_rfl) (Nat.le_of_ble_eq_true rfl) ?_;refine zf zc [] rfl ?_;refine za rfl ?_;refine zb ?_;refine zn ?_;refine zf zc [] rfl ?_;refine za rfl ?_;refine za (t:=I64 (s.length : Nat)) rfl ?_;first | refine yu rfl rfl (by omega) ?_ | refine za rfl ?_
  refine za rfl ?_;refine zb ?_;refine yf ?_;refine yy (σ:=Nat) (fun j=>j) (fun j=>j≤s.length∧lix s s.length = lix s j) (fun j=>[(5,I64 ((j : Int) - 1))]) (fun j=>[]) [0,1] rfl (s.length) ?_ ?_ ?_
  ·refine ⟨[],rfl,yo,yn,?_,?_⟩ <;> (repeat' first | exact trivial | exact ym | exact yq | exact yp rfl | refine yb ?_ ?_ | refine z4 rfl ?_ ?_ | refine zx ?_ ?_ | refine yk rfl ?_ | fail) <;> first | exact xd | (exact CvL.pure rfl)
  ·(try dsimp only);omega
  rintro j hj;refine zn ?_;refine zf zc [] rfl ?_;iterate 2 refine za rfl ?_
  refine zb ?_;refine zm rfl (fun hc0=>?_) (fun hc0=>?_)
  ·(try simp only [zh] at hc0);obtain ⟨hj1,hj2⟩:=hj;have hat : s[j - 1]? = some (s[j - 1]?.getD 0):=(by rw [List.getElem?_eq_getElem (by omega)];rfl)
   refine zo ?_;refine zn ?_;refine yf ?_;refine zf zc [] rfl ?_;iterate 2 refine za rfl ?_
   refine xw rfl rfl rfl rfl (show ((j : Int) - 1) = ((j - 1 : Nat) : Int) by omega) hat ?_;iterate 2 refine za rfl ?_
   refine zb ?_;refine zm rfl (fun hc1=>?_) (fun hc1=>?_)
   ·(try simp only [zh] at hc1);have e1 : lix s j = (j : Int) - 1:=(by obtain ⟨k,rfl⟩ : ∃ k,j = k + 1:=⟨j - 1,by omega⟩;unfold lix;rw [if_pos (by rw [Nat.add_sub_cancel] at hat hc1;rw [hat];congr 1;apply UInt8.toNat.inj;show _ = 10;omega)];omega)
    refine zf zc [] rfl ?_;iterate 2 refine za rfl ?_
    refine zb ?_;refine zq ?_;exact ⟨trivial,_,rfl,Cv.eq (by rw [hj2,e1]) rfl⟩
   ·(try simp only [zh] at hc1);have e1 : lix s j = lix s (j - 1):=(by obtain ⟨k,rfl⟩ : ∃ k,j = k + 1:=⟨j - 1,by omega⟩;rw [Nat.add_sub_cancel] at *;conv=>lhs;unfold lix;rw [if_neg (by rw [hat];intro hh;injection hh with hh;rw [hh] at hc1;exact hc1 rfl)])
    refine zo ?_;refine zw zc [] rfl ?_;refine za rfl ?_;first | refine yu rfl rfl (by omega) ?_ | refine za rfl ?_
    refine za rfl ?_;refine zb ?_;refine ⟨j - 1,by (try dsimp only);omega,?_,(by refine ⟨[],rfl,yo,yn,?_,?_⟩ <;> (repeat' first | exact trivial | exact ym | exact yq | exact yp rfl | refine yb ?_ ?_ | refine z4 rfl ?_ ?_ | refine zx ?_ ?_ | refine yk rfl ?_ | fail) <;> first | exact xd | (first | exact CvL.pure rfl | exact Cv.pure rfl | exact Cv.eq (by congr 2;omega) rfl | omega))⟩
    exact ⟨by omega,by rw [hj2,e1]⟩
  ·(try simp only [zh] at hc0);obtain ⟨hj1,hj2⟩:=hj;obtain rfl : j = 0:=(by omega)
   refine yz ?_;refine zf zc [] rfl ?_;refine za rfl ?_;refine zb ?_;refine zq ?_;exact ⟨trivial,_,rfl,Cv.eq (by rw [hj2];rfl) rfl⟩
 refine CallP.intro2 z5 z5 ?_;refine CallT.intro zc Tryz.func76 rfl (by kernel_rfl) (Nat.le_of_ble_eq_true rfl) ?_;refine zf zc [] rfl ?_;refine za rfl ?_;refine zb ?_;refine zf zc [] rfl ?_;iterate 2 refine za rfl ?_
 refine zi rfl rfl rfl (h) ?_;refine za rfl ?_;refine zb ?_;refine zq ?_;exact ⟨trivial,_,rfl,Cv.eq rfl rfl⟩
end

section
open Go.RowKit
set_option maxRecDepth 100000
set_option maxHeartbeats 1000000
section
variable {q : Bool} {P : Program} {tab : Tab} {im : List Nat} {ds : List (Option Nat)} {l : List Oper} {E : Env} {H : Hp} {K : Env→Hp→Prop} {d : Nat} {ty : TypeId} {pos : String} {after : Array Edge}
theorem ze3 [Dr] {t e n p : Nat} {x lo : Operand} {k : IntKind} {z : Int} {i j : TyI} {cs : List T} {c : Option Nat} (hT : tab t = some i) (hk : i.k = .sl e) (hj : tab e = some j) (hx : E.opd x = some (.islc cs n c)) (hl : E.opd lo = some (.v (.int k z)))
  (hp : z = (p : Int)) (h1 : p < n) (kk : VX q P tab im ds l ((d,.islc (cs.drop (p * j.sz)) (n - p) (c.map fun q=>q - p)) :: E) H K) : VX q P tab im ds (⟨some d,.slice t x (some lo) none none,ty,pos,after,none⟩ :: l) E H K:=
 zi1 (p:=p) (r:=n) (L:=some z) (Hh:=none) hT hk hj hx (by simp only [optI,hl]) rfl rfl hp rfl (by omega) (Nat.le_refl _) (.inr h1) kk
end
def cSt : Cd BSt:=⟨3,fun o=>[I64 o.pos,strT o.out,strT o.inn],fun _=>rfl,fun _=>rfl,fun _=>rfl,by decide⟩
theorem zew : cSt.sz = 3:=rfl
abbrev stT (l : List BSt) : T:=.islc (encL cSt l) l.length none
abbrev stpT (o : BSt) : T:=.agg [I64 o.pos,strT o.out,strT o.inn]
abbrev bufC (b : Bf) : List T:=[stT b.past,stT b.fut,strT b.text]
abbrev bufT (b : Bf) : T:=.agg (bufC b)
theorem xl (b : Bf) : T.pureL (bufC b) = true:=by simp only [T.pureL,T.pure,zp];rfl
theorem zf2 (l : List BSt) (o : BSt) (h : l.length≤256) : CallP Tryz.prog 121 [.agg [stT l],stpT o] (.agg [stT (wth l o)]):=by
 have hp:=zp cSt l
 by_cases hf : 256≤l.length
 case pos=>
  have e : wth l o = l.drop 1 ++ [o]:=by unfold wth;rw [if_pos hf,show l.length - 255 = 1 by omega]
  have hd : (encL cSt l).drop 3 = encL cSt (l.drop 1):=u4 cSt l 1
  have hdl : (l.drop 1).length = l.length - 1:=List.length_drop ..
  have hp2:=zp cSt (l.drop 1)
  refine CallP.intro2 z5 z5 ?_;refine CallT.intro zc Tryz.func121 rfl (by kernel_rfl) (Nat.le_of_ble_eq_true rfl) ?_;refine zf zc [2,3] rfl ?_;iterate 2 refine ya rfl rfl ?_
  refine yc rfl rfl ?_;refine zb ?_;refine zf zc [] rfl ?_;refine za rfl ?_;first | refine za rfl ?_ | refine zd rfl rfl zj ?_ | refine ze rfl rfl rfl zj ?_
  refine za rfl ?_;refine zb ?_;refine zn ?_;refine zf zc [] rfl ?_;iterate 3 refine za rfl ?_
  refine zb ?_;refine zm rfl (fun hc0=>?_) (fun hc0=>?_)
  ·(try simp only [zh] at hc0)
   refine zw zc [] rfl ?_;iterate 3 refine za rfl ?_
   first | refine yu rfl rfl (by omega) ?_ | refine za rfl ?_
   first | refine zy rfl rfl (by omega) ?_ | refine za rfl ?_
   refine ze3 (p:=1) rfl rfl rfl rfl rfl (by show (l.length : Int) - 256 + 1 = _;omega) (show 1 < l.length by omega) ?_;rw [show ∀ j : Nat,1 * j = j from Nat.one_mul,hd,← hdl]
   refine za rfl ?_;refine zb ?_;refine zf zc [] rfl ?_;iterate 2 refine za rfl ?_
   first | refine zy rfl rfl (by omega) ?_ | refine za rfl ?_
   refine zi3 (a:=0) (b:=(l.drop 1).length + 1) rfl rfl rfl rfl rfl rfl rfl z8 z8 z8 (by dsimp only;omega) ?_;refine za rfl ?_;refine zb ?_;refine zf zc [] rfl ?_;iterate 2 refine za rfl ?_
   refine' yw rfl rfl rfl rfl rfl rfl (tt cSt rfl rfl rfl rfl) rfl ?h1 ?h2 ?h3 ?h4 ?h5 ?_
   case h1=>exact Nat.zero_le _
   case h2=>exact Nat.le_trans (Nat.mul_le_mul_right _ (show _≤1000 by omega)) (by decide)
   case h3=>omega
   case h4=>rw [ye];rfl
   case h5=>exact wh _ _
   refine za rfl ?_;refine zb ?_;refine zf zc [27] rfl ?_;refine za rfl ?_;first | refine za rfl ?_ | refine zd rfl rfl zj ?_ | refine ze rfl rfl rfl zj ?_
   refine ya rfl rfl ?_;refine' yw rfl rfl rfl rfl rfl rfl rfl rfl ?h1 ?h2 ?h3 ?h4 ?h5 ?_
   case h1=>show 0 + (0 + (l.drop 1).length) * 3≤_;rw [List.length_append,ye,zew];omega
   case h2=>exact Nat.le_trans (Nat.mul_le_mul_right _ (show _≤1000 by omega)) (by decide)
   case h3=>omega
   case h4=>rfl
   case h5=>rfl
   refine za rfl ?_;refine zk rfl rfl rfl rfl rfl yh rfl ?_;refine zb ?_;refine zq ?_;exact ⟨trivial,_,rfl,Cv.agg (CvL.cons (by rw [e];refine Cv.fslcE (by simp) ⟨rfl,by simp⟩ (CvL.eq ?_ (zp _ _));rw [yr,Nat.zero_mul,List.take_zero,List.nil_append,List.drop_zero,List.take_of_length_le (by show _≤(0 + (l.drop 1).length) * 3;rw [ye,zew];omega)];rfl) CvL.nil)⟩
  ·exact absurd hc0 (by simp;omega)
 case neg=>
  have e : wth l o = l ++ [o]:=qr (by omega)
  refine CallP.intro2 z5 z5 ?_;refine CallT.intro zc Tryz.func121 rfl (by kernel_rfl) (Nat.le_of_ble_eq_true rfl) ?_;refine zf zc [2,3] rfl ?_;iterate 2 refine ya rfl rfl ?_
  refine yc rfl rfl ?_;refine zb ?_;refine zf zc [] rfl ?_;refine za rfl ?_;first | refine za rfl ?_ | refine zd rfl rfl zj ?_ | refine ze rfl rfl rfl zj ?_
  refine za rfl ?_;refine zb ?_;refine zn ?_;refine zf zc [] rfl ?_;iterate 3 refine za rfl ?_
  refine zb ?_;refine zm rfl (fun hc0=>?_) (fun hc0=>?_)
  ·exact absurd hc0 (by simp;omega)
  ·(try simp only [zh] at hc0)
   refine zo ?_;refine zf zc [] rfl ?_;iterate 2 refine za rfl ?_
   first | refine zy rfl rfl (by omega) ?_ | refine za rfl ?_
   refine zi3 (a:=0) (b:=l.length + 1) rfl rfl rfl rfl rfl rfl rfl z8 z8 z8 (by dsimp only;omega) ?_;refine za rfl ?_;refine zb ?_;refine zf zc [] rfl ?_;iterate 2 refine za rfl ?_
   refine' yw rfl rfl rfl rfl rfl rfl (tt cSt rfl rfl rfl rfl) rfl ?h1 ?h2 ?h3 ?h4 ?h5 ?_
   case h1=>exact Nat.zero_le _
   case h2=>exact Nat.le_trans (Nat.mul_le_mul_right _ (show _≤1000 by omega)) (by decide)
   case h3=>omega
   case h4=>rw [ye];rfl
   case h5=>exact wh _ _
   refine za rfl ?_;refine zb ?_;refine zf zc [27] rfl ?_;refine za rfl ?_;first | refine za rfl ?_ | refine zd rfl rfl zj ?_ | refine ze rfl rfl rfl zj ?_
   refine ya rfl rfl ?_;refine' yw rfl rfl rfl rfl rfl rfl rfl rfl ?h1 ?h2 ?h3 ?h4 ?h5 ?_
   case h1=>show 0 + (0 + l.length) * 3≤_;rw [List.length_append,ye,zew];omega
   case h2=>exact Nat.le_trans (Nat.mul_le_mul_right _ (show _≤1000 by omega)) (by decide)
   case h3=>omega
   case h4=>rfl
   case h5=>rfl
   refine za rfl ?_;refine zk rfl rfl rfl rfl rfl yh rfl ?_;refine zb ?_;refine zq ?_;exact ⟨trivial,_,rfl,Cv.agg (CvL.cons (by rw [e];refine Cv.fslcE (by simp) ⟨rfl,by simp⟩ (CvL.eq ?_ (zp _ _));rw [yr,Nat.zero_mul,List.take_zero,List.nil_append,List.drop_zero,List.take_of_length_le (by show _≤(0 + l.length) * 3;rw [ye,zew];omega)];rfl) CvL.nil)⟩
theorem zbj (l : List BSt) : CallP Tryz.prog 141 [.agg [stT l]] (I64 (l.length : Nat)):=by
 have hp:=zp cSt l
 refine CallP.intro2 z5 z5 ?_;refine CallT.intro zc Tryz.func141 rfl (by kernel_rfl) (Nat.le_of_ble_eq_true rfl) ?_;refine zf zc [1] rfl ?_;refine ya rfl rfl ?_;refine za rfl ?_;refine zb ?_;refine zf zc [] rfl ?_;refine za rfl ?_;first | refine za rfl ?_ | refine zd rfl rfl zj ?_ | refine ze rfl rfl rfl zj ?_
 iterate 2 refine za rfl ?_
 refine zb ?_;refine zq ?_;exact ⟨trivial,_,rfl,Cv.eq rfl rfl⟩
theorem last_p (l : List BSt) (o : BSt) (h : l.length≤256) : CallP Tryz.prog 142 [.agg [stT (l ++ [o])]] (stpT o):=by
 have hp:=zp cSt (l ++ [o])
 have hl : (l ++ [o]).length = l.length + 1:=by simp
 refine CallP.intro2 z5 z5 ?_;refine CallT.intro zc Tryz.func142 rfl (by kernel_rfl) (Nat.le_of_ble_eq_true rfl) ?_;refine zf zc [1] rfl ?_;refine ya rfl rfl ?_;refine yc rfl rfl ?_;refine zb ?_;refine zf zc [] rfl ?_;refine za rfl ?_;first | refine za rfl ?_ | refine zd rfl rfl zj ?_ | refine ze rfl rfl rfl zj ?_
 refine za rfl ?_;first | refine za rfl ?_ | refine zd rfl rfl zj ?_ | refine ze rfl rfl rfl zj ?_
 refine za rfl ?_;first | refine yu rfl rfl (by omega) ?_ | refine za rfl ?_
 refine z9 (m:=l.length) rfl rfl rfl rfl rfl (show (((l ++ [o]).length : Nat) : Int) - 1 = _ by rw [hl];omega) (by rw [hl];omega) ?_;refine zd rfl rfl (z6 cSt (m:=l.length) (a:=o) (by simp) (by decide) rfl) ?_;refine zk rfl rfl rfl rfl rfl yh rfl ?_;refine zb ?_;refine zq ?_;exact ⟨trivial,_,rfl,Cv.eq rfl rfl⟩
theorem less_p (l : List BSt) (o : BSt) (h : l.length≤256) : CallP Tryz.prog 143 [.agg [stT (l ++ [o])]] (.agg [stT l]):=by
 have hp:=zp cSt (l ++ [o])
 have hp2:=zp cSt l
 have hl : (l ++ [o]).length = l.length + 1:=by simp
 refine CallP.intro2 z5 z5 ?_;refine CallT.intro zc Tryz.func143 rfl (by kernel_rfl) (Nat.le_of_ble_eq_true rfl) ?_;refine zf zc [1] rfl ?_;refine ya rfl rfl ?_;refine yc rfl rfl ?_;refine zb ?_;refine zf zc [] rfl ?_;refine za rfl ?_;first | refine za rfl ?_ | refine zd rfl rfl zj ?_ | refine ze rfl rfl rfl zj ?_
 refine za rfl ?_;first | refine za rfl ?_ | refine zd rfl rfl zj ?_ | refine ze rfl rfl rfl zj ?_
 refine za rfl ?_;first | refine yu rfl rfl (by omega) ?_ | refine za rfl ?_
 refine zbq (r:=l.length) rfl rfl rfl rfl rfl (show (((l ++ [o]).length : Nat) : Int) - 1 = _ by rw [hl];omega) (by rw [hl];omega) ?_;refine za rfl ?_;refine zk rfl rfl rfl rfl rfl yh rfl ?_;refine zb ?_;refine zq ?_;exact ⟨trivial,_,rfl,Cv.agg (CvL.cons (by rw [yr];exact Cv.islcT (CvL.pure hp2) (.inl rfl)) CvL.nil)⟩
theorem zcu (b : Bf) (o : BSt) (h1 : o.pos + o.out.length≤b.text.length) (h2 : b.past.length≤256) (h3 : b.text.length≤100000) (h4 : o.inn.length≤100000) : CallP Tryz.prog 111 [bufT b,stpT o] (bufT (b.chg o)):=by
 have hp:=xl b
 have hw:=zf2 b.past o h2
 have hp2:=zp cSt (wth b.past o)
 refine CallP.intro2 z5 z5 ?_;refine CallT.intro zc Tryz.func111 rfl (by kernel_rfl) (Nat.le_of_ble_eq_true rfl) ?_;refine zf zc [2,3] rfl ?_;iterate 2 refine ya rfl rfl ?_
 refine yc rfl rfl ?_;refine zb ?_;refine yv zc [] [_,_,_,_,_,_,_,_,_,_,_,_,_,_,_,_,_,_,_,_,_,_,_,_,_] rfl yj yj ?_;iterate 2 refine za rfl ?_
 first | refine za rfl ?_ | refine zd rfl rfl zj ?_ | refine ze rfl rfl rfl zj ?_
 first | refine za rfl ?_ | refine zd rfl rfl zj ?_ | refine ze rfl rfl rfl zj ?_
 refine zi rfl rfl rfl (hw) ?_;iterate 2 refine za rfl ?_
 first | refine za rfl ?_ | refine zd rfl rfl zj ?_ | refine ze rfl rfl rfl zj ?_
 refine za rfl ?_;first | refine za rfl ?_ | refine zd rfl rfl zj ?_ | refine ze rfl rfl rfl zj ?_
 refine ur (r:=o.pos) rfl rfl rfl rfl rfl z8 ?_;refine za rfl ?_;first | refine za rfl ?_ | refine zd rfl rfl zj ?_ | refine ze rfl rfl rfl zj ?_
 refine xo (a:=b.text.take o.pos) (b:=o.inn) rfl rfl (by rw [List.length_take];omega) ?_;refine za rfl ?_;first | refine za rfl ?_ | refine zd rfl rfl zj ?_ | refine ze rfl rfl rfl zj ?_
 refine za rfl ?_;first | refine za rfl ?_ | refine zd rfl rfl zj ?_ | refine ze rfl rfl rfl zj ?_
 refine za rfl ?_;first | refine za rfl ?_ | refine zd rfl rfl zj ?_ | refine ze rfl rfl rfl zj ?_
 refine za (t:=I64 (o.out.length : Nat)) rfl ?_;first | refine zy rfl rfl (by omega) ?_ | refine za rfl ?_
 refine vj (p:=o.pos + o.out.length) rfl rfl rfl rfl z8 z8 ?_;refine xo (a:=b.text.take o.pos ++ o.inn) (b:=b.text.drop (o.pos + o.out.length)) rfl rfl (by rw [List.length_append,List.length_take,List.length_drop];omega) ?_;refine za rfl ?_;refine zb ?_;refine zk rfl rfl rfl rfl rfl yh rfl ?_;refine zb ?_;refine zq ?_;exact ⟨trivial,_,rfl,Cv.agg (CvL.cons (Cv.pure (by simp only [T.pure,hp2])) (CvL.cons (Cv.nil _ (.inl rfl)) (CvL.cons (Cv.pure rfl) CvL.nil)))⟩
end

section
open Go.RowKit
set_option maxRecDepth 100000
set_option maxHeartbeats 1000000
theorem zf6 (b : Bf) (h : b.past = []) : CallP Tryz.prog 123 [bufT b] (.tup [bufT b.undo.1,BL b.undo.2]):=by
 have e : b.undo = (b,false):=by unfold Bf.undo;rw [h];rfl
 rw [e]
 have hp:=xl b
 have hc:=zbj b.past
 have hl : b.past.length = 0:=by rw [h];rfl
 refine CallP.intro2 z5 z5 ?_;refine CallT.intro zc Tryz.func123 rfl (by kernel_rfl) (Nat.le_of_ble_eq_true rfl) ?_;refine zf zc [1] rfl ?_;refine ya rfl rfl ?_;refine yc rfl rfl ?_;refine za rfl ?_;refine zb ?_;refine zn ?_;refine zf zc [] rfl ?_;iterate 2 refine za rfl ?_
 first | refine za rfl ?_ | refine zd rfl rfl zj ?_ | refine ze rfl rfl rfl zj ?_
 refine zi rfl rfl rfl (hc) ?_;refine za rfl ?_;refine zb ?_;refine zm rfl (fun hc0=>?_) (fun hc0=>?_)
 ·(try simp only [zh] at hc0)
  refine zf zc [] rfl ?_;first | refine za rfl ?_ | refine zd rfl rfl zj ?_ | refine ze rfl rfl rfl zj ?_
  refine zk rfl rfl rfl rfl rfl yh rfl ?_;refine za rfl ?_;refine zb ?_;refine zq ?_;exact ⟨trivial,_,rfl,Cv.tup (CvL.cons (Cv.agg (CvL.pure hp)) (CvL.cons (Cv.pure rfl) CvL.nil))⟩
 ·exact absurd hc0 (by rw [hl];simp)
theorem zf5 (p : List BSt) (o : BSt) (f : List BSt) (t : List UInt8) (hp : p.length≤256) (hf : f.length≤256) (ht : t.length≤100000) (h1 : o.pos + o.inn.length≤t.length) (h2 : o.out.length≤100000) : CallP Tryz.prog 123 [bufT ⟨p ++ [o],f,t⟩] (.tup [bufT ⟨p,wth f o,t.take o.pos ++ o.out ++ t.drop (o.pos + o.inn.length)⟩,BL true]):=by
 have hpb:=xl ⟨p ++ [o],f,t⟩
 have hp1:=zp cSt p
 have hp2:=zp cSt (wth f o)
 have hc:=zbj (p ++ [o])
 have hla:=last_p p o hp
 have hle:=less_p p o hp
 have hw:=zf2 f o hf
 have hl : (p ++ [o]).length = p.length + 1:=by simp
 refine CallP.intro2 z5 z5 ?_;refine CallT.intro zc Tryz.func123 rfl (by kernel_rfl) (Nat.le_of_ble_eq_true rfl) ?_;refine zf zc [1] rfl ?_;refine ya rfl rfl ?_;refine yc rfl rfl ?_;refine za rfl ?_;refine zb ?_;refine zn ?_;refine zf zc [] rfl ?_;iterate 2 refine za rfl ?_
 first | refine za rfl ?_ | refine zd rfl rfl zj ?_ | refine ze rfl rfl rfl zj ?_
 refine zi rfl rfl rfl (hc) ?_;refine za rfl ?_;refine zb ?_;refine zm rfl (fun hc0=>?_) (fun hc0=>?_)
 ·exact absurd hc0 (by rw [hl];simp;omega)
 ·(try simp only [zh] at hc0)
  refine zo ?_;refine zf zc [] rfl ?_;iterate 2 refine za rfl ?_
  first | refine za rfl ?_ | refine zd rfl rfl zj ?_ | refine ze rfl rfl rfl zj ?_
  refine zi rfl rfl rfl (hla) ?_;refine yc rfl rfl ?_;refine zk rfl rfl rfl rfl rfl yh rfl ?_;refine zb ?_;refine yv zc [] [_,_,_,_,_,_,_,_,_,_,_,_,_,_,_,_,_,_,_,_,_,_,_,_,_,_,_,_,_,_] rfl yj yj ?_;iterate 2 refine za rfl ?_
  first | refine za rfl ?_ | refine zd rfl rfl zj ?_ | refine ze rfl rfl rfl zj ?_
  refine zi rfl rfl rfl (hle) ?_;iterate 3 refine za rfl ?_
  first | refine za rfl ?_ | refine zd rfl rfl zj ?_ | refine ze rfl rfl rfl zj ?_
  first | refine za rfl ?_ | refine zd rfl rfl zj ?_ | refine ze rfl rfl rfl zj ?_
  refine zi rfl rfl rfl (hw) ?_;iterate 2 refine za rfl ?_
  first | refine za rfl ?_ | refine zd rfl rfl zj ?_ | refine ze rfl rfl rfl zj ?_
  refine za rfl ?_;first | refine za rfl ?_ | refine zd rfl rfl zj ?_ | refine ze rfl rfl rfl zj ?_
  refine ur (r:=o.pos) rfl rfl rfl rfl rfl (by show o.pos≤t.length;omega) ?_;refine za rfl ?_;first | refine za rfl ?_ | refine zd rfl rfl zj ?_ | refine ze rfl rfl rfl zj ?_
  refine xo (a:=t.take o.pos) (b:=o.out) rfl rfl (by rw [List.length_take];omega) ?_;refine za rfl ?_;first | refine za rfl ?_ | refine zd rfl rfl zj ?_ | refine ze rfl rfl rfl zj ?_
  refine za rfl ?_;first | refine za rfl ?_ | refine zd rfl rfl zj ?_ | refine ze rfl rfl rfl zj ?_
  refine za rfl ?_;first | refine za rfl ?_ | refine zd rfl rfl zj ?_ | refine ze rfl rfl rfl zj ?_
  refine za (t:=I64 (o.inn.length : Nat)) rfl ?_;first | refine zy rfl rfl (by omega) ?_ | refine za rfl ?_
  refine vj (p:=o.pos + o.inn.length) rfl rfl rfl rfl z8 h1 ?_;refine xo (a:=t.take o.pos ++ o.out) (b:=t.drop (o.pos + o.inn.length)) rfl rfl (by rw [List.length_append,List.length_take,List.length_drop];omega) ?_;refine za rfl ?_;refine zb ?_;refine zk rfl rfl rfl rfl rfl yh rfl ?_;refine za rfl ?_;refine zb ?_;refine zq ?_;exact ⟨trivial,_,rfl,Cv.tup (CvL.cons (Cv.agg (CvL.cons (Cv.pure (by simp only [T.pure,hp1])) (CvL.cons (Cv.pure (by simp only [T.pure,hp2])) (CvL.cons (Cv.pure rfl) CvL.nil)))) (CvL.cons (Cv.pure rfl) CvL.nil))⟩
theorem zg0 (b : Bf) (h : b.fut = []) : CallP Tryz.prog 124 [bufT b] (.tup [bufT b.redo.1,BL b.redo.2]):=by
 have e : b.redo = (b,false):=by unfold Bf.redo;rw [h];rfl
 rw [e]
 have hp:=xl b
 have hc:=zbj b.fut
 have hl : b.fut.length = 0:=by rw [h];rfl
 refine CallP.intro2 z5 z5 ?_;refine CallT.intro zc Tryz.func124 rfl (by kernel_rfl) (Nat.le_of_ble_eq_true rfl) ?_;refine zf zc [1] rfl ?_;refine ya rfl rfl ?_;refine yc rfl rfl ?_;refine za rfl ?_;refine zb ?_;refine zn ?_;refine zf zc [] rfl ?_;iterate 2 refine za rfl ?_
 first | refine za rfl ?_ | refine zd rfl rfl zj ?_ | refine ze rfl rfl rfl zj ?_
 refine zi rfl rfl rfl (hc) ?_;refine za rfl ?_;refine zb ?_;refine zm rfl (fun hc0=>?_) (fun hc0=>?_)
 ·(try simp only [zh] at hc0)
  refine zf zc [] rfl ?_;first | refine za rfl ?_ | refine zd rfl rfl zj ?_ | refine ze rfl rfl rfl zj ?_
  refine zk rfl rfl rfl rfl rfl yh rfl ?_;refine za rfl ?_;refine zb ?_;refine zq ?_;exact ⟨trivial,_,rfl,Cv.tup (CvL.cons (Cv.agg (CvL.pure hp)) (CvL.cons (Cv.pure rfl) CvL.nil))⟩
 ·exact absurd hc0 (by rw [hl];simp)
theorem zgz (p : List BSt) (o : BSt) (f : List BSt) (t : List UInt8) (hp : p.length≤256) (hf : f.length≤256) (ht : t.length≤100000) (h1 : o.pos + o.out.length≤t.length) (h2 : o.inn.length≤100000) : CallP Tryz.prog 124 [bufT ⟨p,f ++ [o],t⟩] (.tup [bufT ⟨wth p o,f,t.take o.pos ++ o.inn ++ t.drop (o.pos + o.out.length)⟩,BL true]):=by
 have hpb:=xl ⟨p,f ++ [o],t⟩
 have hp1:=zp cSt f
 have hp2:=zp cSt (wth p o)
 have hc:=zbj (f ++ [o])
 have hla:=last_p f o hf
 have hle:=less_p f o hf
 have hw:=zf2 p o hp
 have hl : (f ++ [o]).length = f.length + 1:=by simp
 refine CallP.intro2 z5 z5 ?_;refine CallT.intro zc Tryz.func124 rfl (by kernel_rfl) (Nat.le_of_ble_eq_true rfl) ?_;refine zf zc [1] rfl ?_;refine ya rfl rfl ?_;refine yc rfl rfl ?_;refine za rfl ?_;refine zb ?_;refine zn ?_;refine zf zc [] rfl ?_;iterate 2 refine za rfl ?_
 first | refine za rfl ?_ | refine zd rfl rfl zj ?_ | refine ze rfl rfl rfl zj ?_
 refine zi rfl rfl rfl (hc) ?_;refine za rfl ?_;refine zb ?_;refine zm rfl (fun hc0=>?_) (fun hc0=>?_)
 ·exact absurd hc0 (by rw [hl];simp;omega)
 ·(try simp only [zh] at hc0)
  refine zo ?_;refine zf zc [] rfl ?_;iterate 2 refine za rfl ?_
  first | refine za rfl ?_ | refine zd rfl rfl zj ?_ | refine ze rfl rfl rfl zj ?_
  refine zi rfl rfl rfl (hla) ?_;refine yc rfl rfl ?_;refine zk rfl rfl rfl rfl rfl yh rfl ?_;refine zb ?_;refine yv zc [] [_,_,_,_,_,_,_,_,_,_,_,_,_,_,_,_,_,_,_,_,_,_,_,_,_,_,_,_,_,_] rfl yj yj ?_;iterate 2 refine za rfl ?_
  first | refine za rfl ?_ | refine zd rfl rfl zj ?_ | refine ze rfl rfl rfl zj ?_
  first | refine za rfl ?_ | refine zd rfl rfl zj ?_ | refine ze rfl rfl rfl zj ?_
  refine zi rfl rfl rfl (hw) ?_;iterate 3 refine za rfl ?_
  first | refine za rfl ?_ | refine zd rfl rfl zj ?_ | refine ze rfl rfl rfl zj ?_
  refine zi rfl rfl rfl (hle) ?_;iterate 2 refine za rfl ?_
  first | refine za rfl ?_ | refine zd rfl rfl zj ?_ | refine ze rfl rfl rfl zj ?_
  refine za rfl ?_;first | refine za rfl ?_ | refine zd rfl rfl zj ?_ | refine ze rfl rfl rfl zj ?_
  refine ur (r:=o.pos) rfl rfl rfl rfl rfl (by show o.pos≤t.length;omega) ?_;refine za rfl ?_;first | refine za rfl ?_ | refine zd rfl rfl zj ?_ | refine ze rfl rfl rfl zj ?_
  refine xo (a:=t.take o.pos) (b:=o.inn) rfl rfl (by rw [List.length_take];omega) ?_;refine za rfl ?_;first | refine za rfl ?_ | refine zd rfl rfl zj ?_ | refine ze rfl rfl rfl zj ?_
  refine za rfl ?_;first | refine za rfl ?_ | refine zd rfl rfl zj ?_ | refine ze rfl rfl rfl zj ?_
  refine za rfl ?_;first | refine za rfl ?_ | refine zd rfl rfl zj ?_ | refine ze rfl rfl rfl zj ?_
  refine za (t:=I64 (o.out.length : Nat)) rfl ?_;first | refine zy rfl rfl (by omega) ?_ | refine za rfl ?_
  refine vj (p:=o.pos + o.out.length) rfl rfl rfl rfl z8 h1 ?_;refine xo (a:=t.take o.pos ++ o.inn) (b:=t.drop (o.pos + o.out.length)) rfl rfl (by rw [List.length_append,List.length_take,List.length_drop];omega) ?_;refine za rfl ?_;refine zb ?_;refine zk rfl rfl rfl rfl rfl yh rfl ?_;refine za rfl ?_;refine zb ?_;refine zq ?_;exact ⟨trivial,_,rfl,Cv.tup (CvL.cons (Cv.agg (CvL.cons (Cv.pure (by simp only [T.pure,hp2])) (CvL.cons (Cv.pure (by simp only [T.pure,hp1])) (CvL.cons (Cv.pure rfl) CvL.nil)))) (CvL.cons (Cv.pure rfl) CvL.nil))⟩
theorem undo_p (b : Bf) (ok : b.Ok) : CallP Tryz.prog 123 [bufT b] (.tup [bufT b.undo.1,BL b.undo.2]):=by
 cases hp : b.past.getLast? with
 | none=>exact zf6 b (List.getLast?_eq_none_iff.1 hp)
 | some o=>
  obtain ⟨l,hl⟩:=List.getLast?_eq_some_iff.1 hp
  have hlen:=ok.len
  have hf:=ok.few
  have hu:=ok.u
  rw [hl,List.reverse_append,List.reverse_singleton,List.singleton_append] at hu
  obtain ⟨h1,h2,h3,h4⟩:=hu
  have hr:=zf8 h2
  have hr2:=za3 h4
  obtain ⟨p,f,t⟩:=b
  dsimp only at hl h2 hf hlen hr hr2
  subst hl
  rw [List.length_append,List.length_singleton] at hf
  have e : (⟨l ++ [o],f,t⟩ : Bf).undo = (⟨l,wth f o,t.take o.pos ++ o.out ++ t.drop (o.pos + o.inn.length)⟩,true):=by
   unfold Bf.undo
   simp only [List.getLast?_append,List.getLast?_singleton,Option.some_or,List.dropLast_concat]
  rw [e]
  exact zf5 l o f t (by omega) (by omega) (by omega) h2 (by omega)
theorem redo_p (b : Bf) (ok : b.Ok) : CallP Tryz.prog 124 [bufT b] (.tup [bufT b.redo.1,BL b.redo.2]):=by
 cases hp : b.fut.getLast? with
 | none=>exact zg0 b (List.getLast?_eq_none_iff.1 hp)
 | some o=>
  obtain ⟨l,hl⟩:=List.getLast?_eq_some_iff.1 hp
  have hlen:=ok.len
  have hf:=ok.few
  have hu:=ok.f
  rw [hl,List.reverse_append,List.reverse_singleton,List.singleton_append] at hu
  obtain ⟨h1,h2,h3,h4⟩:=hu
  have hr:=q7 h2
  have hr2:=zdc h4
  obtain ⟨p,f,t⟩:=b
  dsimp only at hl h2 hf hlen hr hr2
  subst hl
  rw [List.length_append,List.length_singleton] at hf
  have e : (⟨p,l ++ [o],t⟩ : Bf).redo = (⟨wth p o,l,t.take o.pos ++ o.inn ++ t.drop (o.pos + o.out.length)⟩,true):=by
   unfold Bf.redo
   simp only [List.getLast?_append,List.getLast?_singleton,Option.some_or,List.dropLast_concat]
  rw [e]
  exact zgz p o l t (by omega) (by omega) (by omega) h2 (by omega)
def okB (v : UInt8) : Bool:=v.toNat == 10 || (decide (32≤v.toNat) && decide (v.toNat≤126))
def rightB (s : List UInt8) : Bool:=s.all okB
theorem zgx {s : List UInt8} (h : rightB s = true) {i : Nat} (hi : i < s.length) : okB (s[i]?.getD 0) = true:=by
 rw [List.getElem?_eq_getElem hi]
 exact List.all_eq_true.1 h _ (List.getElem_mem hi)
theorem zad {s : List UInt8} {i : Nat} (hi : i < s.length) (h : okB (s[i]?.getD 0) = false) : rightB s = false:=by
 cases hr : rightB s with
 | false=>rfl
 | true=>rw [zgx hr hi] at h;cases h
theorem zc8 (s : List UInt8) (hs : s.length≤100000) : CallP Tryz.prog 40 [strT s] (BL (rightB s)):=by
 refine CallP.intro2 z5 z5 ?_;refine CallT.intro zc Tryz.func40 rfl (by kernel_rfl) (Nat.le_of_ble_eq_true rfl) ?_;refine zf zc [] rfl ?_;refine za rfl ?_;refine zb ?_;refine zn ?_;refine zf zc [] rfl ?_;refine za rfl ?_;refine za (t:=I64 (s.length : Nat)) rfl ?_;refine za rfl ?_;refine zb ?_;refine yf ?_;refine yy (σ:=Nat) (fun j=>s.length - j) (fun j=>j≤s.length∧rightB (s.take j) = true) (fun j=>[(6,I64 (j : Nat))]) (fun j=>[]) [0,5] rfl (0) ?_ ?_ ?_
 ·refine ⟨[],rfl,yo,yn,?_,?_⟩ <;> (repeat' first | exact trivial | exact ym | exact yq | exact yp rfl | refine yb ?_ ?_ | refine z4 rfl ?_ ?_ | refine zx ?_ ?_ | refine yk rfl ?_ | fail) <;> first | exact xd | (exact CvL.pure rfl)
 ·exact ⟨Nat.zero_le _,rfl⟩
 rintro j hj;refine zf zc [] rfl ?_;refine za rfl ?_;refine zb ?_;refine zn ?_;refine zm rfl (fun hc0=>?_) (fun hc0=>?_)
 ·(try simp only [zh] at hc0);obtain ⟨hj1,hj2⟩:=hj;have hat : s[j]? = some (s[j]?.getD 0):=(by rw [List.getElem?_eq_getElem (by omega)];rfl);have hnx : rightB (s.take (j + 1)) = (okB (s[j]?.getD 0)):=(by unfold rightB at *;rw [List.take_add_one,List.all_append,hj2,hat];simp)
  refine zo ?_;refine zn ?_;refine yf ?_;refine zf zc [] rfl ?_;iterate 2 refine za rfl ?_
  refine zb ?_;refine zf zc [] rfl ?_;iterate 2 refine za rfl ?_
  refine xw rfl rfl rfl rfl rfl hat ?_;iterate 2 refine za rfl ?_
  refine' zu (d:=24) [_,_,_,_,_,_,_,_,_,_,_] rfl ?_ rfl ?_
  rotate_left
  ·refine zt rfl rfl (fun hb4_4=>?_) (fun hb4_4=>?_)
   ·have ghb4_4:=hb4_4
    try simp only [zh,Bool.not_true,Bool.not_false] at ghb4_4
    refine za rfl ?_;refine zg rfl rfl hb4_4 ?_;refine za rfl ?_;refine zg rfl rfl hb4_4 ?_;refine xw rfl rfl rfl rfl rfl hat ?_;refine zg rfl rfl hb4_4 ?_;refine za rfl ?_;refine zg rfl rfl hb4_4 ?_;refine za rfl ?_;refine' zu (d:=23) [_,_,_,_,_] rfl ?_ rfl ?_
    rotate_left
    ·refine zt rfl rfl (fun hb4_9=>?_) (fun hb4_9=>?_)
     ·have ghb4_9:=hb4_9
      try simp only [zh,Bool.not_true,Bool.not_false] at ghb4_9
      refine za rfl ?_;refine zg rfl rfl hb4_9 ?_;refine za rfl ?_;refine zg rfl rfl hb4_9 ?_;refine xw rfl rfl rfl rfl rfl hat ?_;refine zg rfl rfl hb4_9 ?_;refine za rfl ?_;refine zg rfl rfl hb4_4 ?_;refine zr rfl (fun _=>rfl) ?_;exact zb ⟨rfl,rfl⟩
     ·refine zl rfl rfl hb4_9 ?_;iterate 2 refine zl rfl rfl hb4_9 ?_
      refine zg rfl rfl hb4_4 ?_;exact zr rfl (fun h=>absurd (h.symm.trans hb4_9) (by decide)) (zb ⟨rfl,rfl⟩)
    refine z3 rfl (fun _=>rfl) ?_;exact zb ⟨rfl,rfl⟩
   ·refine zl rfl rfl hb4_4 ?_;iterate 3 refine zl rfl rfl hb4_4 ?_
    iterate 4 refine re rfl rfl ?_
    refine zl rfl rfl hb4_4 ?_;exact z3 rfl (fun h=>absurd (h.symm.trans hb4_4) (by decide)) (zb ⟨rfl,rfl⟩)
  refine zb ?_;refine zm rfl (fun hc1=>?_) (fun hc1=>?_)
  ·(try simp only [zh] at hc1);have e1 : rightB s = false:=zad (i:=j) (by omega) (by unfold okB;simp;omega)
   refine zf zc [] rfl ?_;refine za rfl ?_;refine zb ?_;refine zq ?_;exact ⟨trivial,_,rfl,Cv.eq (by rw [e1];rfl) rfl⟩
  ·(try simp only [zh] at hc1);have e1 : rightB (s.take (j + 1)) = true:=(by rw [hnx];unfold okB;simp;omega)
   refine zo ?_;refine zw zc [] rfl ?_;first | refine zy rfl rfl (by omega) ?_ | refine za rfl ?_
   refine za rfl ?_;refine zb ?_;refine ⟨j + 1,by (try dsimp only);omega,?_,(by refine ⟨[],rfl,yo,yn,?_,?_⟩ <;> (repeat' first | exact trivial | exact ym | exact yq | exact yp rfl | refine yb ?_ ?_ | refine z4 rfl ?_ ?_ | refine zx ?_ ?_ | refine yk rfl ?_ | fail) <;> first | exact xd | (first | exact CvL.pure rfl | exact Cv.pure rfl))⟩
   exact ⟨by omega,e1⟩
 ·(try simp only [zh] at hc0);obtain ⟨hj1,hj2⟩:=hj;obtain rfl : j = s.length:=(by omega)
  refine yz ?_;refine zf zc [] rfl ?_;refine za rfl ?_;refine zb ?_;refine zq ?_;exact ⟨trivial,_,rfl,Cv.eq (by rw [List.take_length] at hj2;rw [hj2];rfl) rfl⟩
theorem zj8 (b : Bf) (k : Nat) (s : List UInt8) (h1 : k≤b.text.length) (h2 : b.past.length≤256) (h3 : b.text.length + s.length≤4096) (h4 : s≠[]) (h5 : rightB s = true) : CallP Tryz.prog 81 [bufT b,I64 k,strT s] (.tup [bufT (b.chg ⟨k,[],s⟩),I64 0]):=by
 have hp:=xl b
 have hr:=zc8 s (by omega)
 have hch:=zcu b ⟨k,[],s⟩ (by dsimp only [List.length_nil];omega) h2 (by omega) (by dsimp only;omega)
 have hp2:=xl (b.chg ⟨k,[],s⟩)
 have hn : (s == []) = false:=by cases s with | nil=>exact absurd rfl h4 | cons a l=>rfl
 refine CallP.intro2 z5 z5 ?_;refine CallT.intro zc Tryz.func81 rfl (by kernel_rfl) (Nat.le_of_ble_eq_true rfl) ?_;refine zf zc [3] rfl ?_;refine ya rfl rfl ?_;refine yc rfl rfl ?_;refine za rfl ?_;refine zb ?_;refine zn ?_;refine zf zc [] rfl ?_;refine za rfl ?_;refine wj (a:=s) (b:=[]) rfl rfl ?_;rw [hn]
 refine zb ?_;refine y8 rfl ?_;refine zo ?_;refine zn ?_;refine zf zc [] rfl ?_;iterate 3 refine za rfl ?_
 refine' zu (d:=19) [_,_,_,_,_,_] rfl ?_ rfl ?_
 rotate_left
 ·refine zt rfl rfl (fun hb3_2=>?_) (fun hb3_2=>?_)
  ·have ghb3_2:=hb3_2
   try simp only [zh,Bool.not_true,Bool.not_false] at ghb3_2
   refine za rfl ?_;refine zg rfl rfl hb3_2 ?_;refine za rfl ?_;refine zg rfl rfl hb3_2 ?_;first | refine za rfl ?_ | refine zd rfl rfl zj ?_ | refine ze rfl rfl rfl zj ?_
   refine zg rfl rfl hb3_2 ?_;refine za (t:=I64 (b.text.length : Nat)) rfl ?_;refine zg rfl rfl hb3_2 ?_;refine za rfl ?_;refine zr rfl (fun _=>rfl) ?_;exact zb ⟨rfl,rfl⟩
  ·refine zl rfl rfl hb3_2 ?_;iterate 3 refine zl rfl rfl hb3_2 ?_
   exact zr rfl (fun h=>absurd (h.symm.trans hb3_2) (by decide)) (zb ⟨rfl,rfl⟩)
 refine zb ?_;refine zm rfl (fun hc1=>?_) (fun hc1=>?_)
 ·(try simp only [zh] at hc1);omega
 ·(try simp only [zh] at hc1)
  refine zo ?_;refine zn ?_;refine zf zc [] rfl ?_;refine za rfl ?_;refine zi rfl rfl rfl (hr) ?_;refine za (t:=BL false) (by rw [h5];rfl) ?_;refine zb ?_;refine y8 rfl ?_;refine zo ?_;refine zn ?_;refine zf zc [] rfl ?_;refine za rfl ?_;first | refine za rfl ?_ | refine zd rfl rfl zj ?_ | refine ze rfl rfl rfl zj ?_
  refine za (t:=I64 (b.text.length : Nat)) rfl ?_;refine za rfl ?_;refine za (t:=I64 (s.length : Nat)) rfl ?_;first | refine zy rfl rfl (by omega) ?_ | refine za rfl ?_
  refine za rfl ?_;refine zb ?_;refine zm rfl (fun hc3=>?_) (fun hc3=>?_)
  ·(try simp only [zh] at hc3);omega
  ·(try simp only [zh] at hc3)
   refine zo ?_;refine zf zc [] rfl ?_;first | refine za rfl ?_ | refine zd rfl rfl zj ?_ | refine ze rfl rfl rfl zj ?_
   iterate 3 refine za rfl ?_
   refine zi rfl rfl rfl (hch) ?_;refine zk rfl rfl rfl rfl rfl yh rfl ?_;refine za rfl ?_;refine zb ?_;refine zq ?_;exact ⟨trivial,_,rfl,Cv.tup (CvL.cons (Cv.agg (CvL.pure hp2)) (CvL.cons (Cv.pure rfl) CvL.nil))⟩
theorem zer (b : Bf) (i k : Nat) (h1 : i < k) (hk : k≤b.text.length) (h2 : b.past.length≤256) (h3 : b.text.length≤4096) : CallP Tryz.prog 110 [bufT b,I64 i,I64 k] (.tup [bufT (b.chg ⟨i,(b.text.take k).drop i,[]⟩),I64 0]):=by
 have hp:=xl b
 have hch:=zcu b ⟨i,(b.text.take k).drop i,[]⟩ (by dsimp only;rw [List.length_drop,List.length_take];omega) h2 (by omega) (by dsimp only [List.length_nil];omega)
 have hp2:=xl (b.chg ⟨i,(b.text.take k).drop i,[]⟩)
 refine CallP.intro2 z5 z5 ?_;refine CallT.intro zc Tryz.func110 rfl (by kernel_rfl) (Nat.le_of_ble_eq_true rfl) ?_;refine zf zc [3] rfl ?_;refine ya rfl rfl ?_;refine yc rfl rfl ?_;refine za rfl ?_;refine zb ?_;refine zn ?_;refine zf zc [] rfl ?_;iterate 3 refine za rfl ?_
 refine' zu (d:=14) [_,_,_,_] rfl ?_ rfl ?_
 rotate_left
 ·refine zt rfl rfl (fun hb1_2=>?_) (fun hb1_2=>?_)
  ·have ghb1_2:=hb1_2
   try simp only [zh,Bool.not_true,Bool.not_false] at ghb1_2
   refine za rfl ?_;refine zg rfl rfl hb1_2 ?_;refine za rfl ?_;refine zg rfl rfl hb1_2 ?_;refine za rfl ?_;refine zr rfl (fun _=>rfl) ?_;exact zb ⟨rfl,rfl⟩
  ·refine zl rfl rfl hb1_2 ?_;refine zl rfl rfl hb1_2 ?_;exact zr rfl (fun h=>absurd (h.symm.trans hb1_2) (by decide)) (zb ⟨rfl,rfl⟩)
 refine za rfl ?_;refine' zu (d:=21) [_,_,_,_,_,_] rfl ?_ rfl ?_
 rotate_left
 ·refine zt rfl rfl (fun hb1_7=>?_) (fun hb1_7=>?_)
  ·have ghb1_7:=hb1_7
   try simp only [zh,Bool.not_true,Bool.not_false] at ghb1_7
   refine za rfl ?_;refine zg rfl rfl hb1_7 ?_;refine za rfl ?_;refine zg rfl rfl hb1_7 ?_;first | refine za rfl ?_ | refine zd rfl rfl zj ?_ | refine ze rfl rfl rfl zj ?_
   refine zg rfl rfl hb1_7 ?_;refine za (t:=I64 (b.text.length : Nat)) rfl ?_;refine zg rfl rfl hb1_7 ?_;refine za rfl ?_;refine zr rfl (fun _=>rfl) ?_;exact zb ⟨rfl,rfl⟩
  ·refine zl rfl rfl hb1_7 ?_;iterate 3 refine zl rfl rfl hb1_7 ?_
   exact zr rfl (fun h=>absurd (h.symm.trans hb1_7) (by decide)) (zb ⟨rfl,rfl⟩)
 refine zb ?_;refine zm rfl (fun hc0=>?_) (fun hc0=>?_)
 ·(try simp only [zh] at hc0);omega
 ·(try simp only [zh] at hc0)
  refine zo ?_;refine zn ?_;refine zf zc [] rfl ?_;iterate 3 refine za rfl ?_
  refine zb ?_;refine zm rfl (fun hc1=>?_) (fun hc1=>?_)
  ·(try simp only [zh] at hc1);omega
  ·(try simp only [zh] at hc1)
   refine zo ?_;refine yv zc [] [_,_,_,_,_,_,_,_,_] rfl yj yj ?_;first | refine za rfl ?_ | refine zd rfl rfl zj ?_ | refine ze rfl rfl rfl zj ?_
   iterate 2 refine za rfl ?_
   first | refine za rfl ?_ | refine zd rfl rfl zj ?_ | refine ze rfl rfl rfl zj ?_
   iterate 2 refine za rfl ?_
   refine rd (p:=i) (r:=k) rfl rfl rfl rfl rfl rfl rfl z8 hk ?_;refine za rfl ?_;refine zi rfl rfl rfl (hch) ?_;refine zb ?_;refine zk rfl rfl rfl rfl rfl yh rfl ?_;refine za rfl ?_;refine zb ?_;refine zq ?_;exact ⟨trivial,_,rfl,Cv.tup (CvL.cons (Cv.agg (CvL.pure hp2)) (CvL.cons (Cv.pure rfl) CvL.nil))⟩
theorem bnew_p (s : List UInt8) (h : s.length≤4096) (hr : rightB s = true) : CallP Tryz.prog 23 [strT s] (.tup [bufT ⟨[],[],s⟩,I64 0]):=by
 have hri:=zc8 s (by omega)
 refine CallP.intro2 z5 z5 ?_;refine CallT.intro zc Tryz.func23 rfl (by kernel_rfl) (Nat.le_of_ble_eq_true rfl) ?_;refine zf zc [] rfl ?_;refine yc rfl rfl ?_;refine za rfl ?_;refine zb ?_;refine zn ?_;refine zf zc [] rfl ?_;refine za rfl ?_;refine za (t:=I64 (s.length : Nat)) rfl ?_;refine za rfl ?_;refine zb ?_;refine zm rfl (fun hc0=>?_) (fun hc0=>?_)
 ·(try simp only [zh] at hc0);omega
 ·(try simp only [zh] at hc0)
  refine zo ?_;refine zn ?_;refine zf zc [] rfl ?_;refine za rfl ?_;refine zi rfl rfl rfl (hri) ?_;refine za (t:=BL false) (by rw [hr];rfl) ?_;refine zb ?_;refine y8 rfl ?_;refine zo ?_;refine zf zc [] rfl ?_;iterate 2 refine za rfl ?_
  refine zk rfl rfl rfl rfl rfl yh rfl ?_;refine za rfl ?_;refine zb ?_;refine zq ?_;exact ⟨trivial,_,rfl,Cv.tup (CvL.cons (Cv.agg (CvL.cons (Cv.nil _ (.inl rfl)) (CvL.cons (Cv.nil _ (.inl rfl)) (CvL.cons (Cv.pure rfl) CvL.nil)))) (CvL.cons (Cv.pure rfl) CvL.nil))⟩
theorem bnew_no (s : List UInt8) (h : s.length≤4096) (hr : rightB s = false) : CallP Tryz.prog 23 [strT s] (.tup [bufT ⟨[],[],[]⟩,I64 2]):=by
 have hri:=zc8 s (by omega)
 refine CallP.intro2 z5 z5 ?_;refine CallT.intro zc Tryz.func23 rfl (by kernel_rfl) (Nat.le_of_ble_eq_true rfl) ?_;refine zf zc [] rfl ?_;refine yc rfl rfl ?_;refine za rfl ?_;refine zb ?_;refine zn ?_;refine zf zc [] rfl ?_;refine za rfl ?_;refine za (t:=I64 (s.length : Nat)) rfl ?_;refine za rfl ?_;refine zb ?_;refine zm rfl (fun hc0=>?_) (fun hc0=>?_)
 ·(try simp only [zh] at hc0);omega
 ·(try simp only [zh] at hc0)
  refine zo ?_;refine zn ?_;refine zf zc [] rfl ?_;refine za rfl ?_;refine zi rfl rfl rfl (hri) ?_;refine za (t:=BL true) (by rw [hr];rfl) ?_;refine zb ?_;refine xi rfl ?_;refine zf zc [] rfl ?_;refine za rfl ?_;refine zk rfl rfl rfl rfl rfl yh rfl ?_;refine za rfl ?_;refine zb ?_;refine zq ?_;exact ⟨trivial,_,rfl,Cv.tup (CvL.cons (Cv.agg (CvL.cons (Cv.nil _ (.inl rfl)) (CvL.cons (Cv.nil _ (.inl rfl)) (CvL.cons (Cv.pure rfl) CvL.nil)))) (CvL.cons (Cv.pure rfl) CvL.nil))⟩
theorem zfl (b : Bf) : CallP Tryz.prog 80 [bufT b] (I64 (b.text.length : Nat)):=by
 have hp:=xl b
 refine CallP.intro2 z5 z5 ?_;refine CallT.intro zc Tryz.func80 rfl (by kernel_rfl) (Nat.le_of_ble_eq_true rfl) ?_;refine zf zc [1] rfl ?_;refine ya rfl rfl ?_;refine za rfl ?_;refine zb ?_;refine zf zc [] rfl ?_;refine za rfl ?_;first | refine za rfl ?_ | refine zd rfl rfl zj ?_ | refine ze rfl rfl rfl zj ?_
 iterate 2 refine za rfl ?_
 refine zb ?_;refine zq ?_;exact ⟨trivial,_,rfl,Cv.eq rfl rfl⟩
theorem ziq (b : Bf) : CallP Tryz.prog 29 [bufT b] (strT b.text):=by
 have hp:=xl b
 refine CallP.intro2 z5 z5 ?_;refine CallT.intro zc Tryz.func29 rfl (by kernel_rfl) (Nat.le_of_ble_eq_true rfl) ?_;refine zf zc [1] rfl ?_;refine ya rfl rfl ?_;refine za rfl ?_;refine zb ?_;refine zf zc [] rfl ?_;refine za rfl ?_;first | refine za rfl ?_ | refine zd rfl rfl zj ?_ | refine ze rfl rfl rfl zj ?_
 refine za rfl ?_;refine zb ?_;refine zq ?_;exact ⟨trivial,_,rfl,Cv.eq rfl rfl⟩
end

section
open Go.RowKit
set_option maxRecDepth 100000
set_option maxHeartbeats 1000000
theorem zdk (b : Bf) (h : b.text.length≤4096) : CallP Tryz.prog 103 [bufT b] (I64 (lnN b.text : Nat)):=by
 have hp:=xl b
 have hc:=cnt_p b.text
 have hcl:=List.count_le_length (a:=(10 : UInt8)) (l:=b.text)
 refine CallP.intro2 z5 z5 ?_;refine CallT.intro zc Tryz.func103 rfl (by kernel_rfl) (Nat.le_of_ble_eq_true rfl) ?_;refine zf zc [1] rfl ?_;refine ya rfl rfl ?_;refine za rfl ?_;refine zb ?_;refine zf zc [] rfl ?_;refine za rfl ?_;first | refine za rfl ?_ | refine zd rfl rfl zj ?_ | refine ze rfl rfl rfl zj ?_
 refine zi rfl rfl rfl (hc) ?_;first | refine zy rfl rfl (by omega) ?_ | refine za rfl ?_
 refine za rfl ?_;refine zb ?_;refine zq ?_;exact ⟨trivial,_,rfl,Cv.eq rfl rfl⟩
theorem ixN_rg (s : List UInt8) : -1≤ixN s∧ixN s < (s.length : Int):=by
 unfold ixN
 cases h : nlN s with
 | none=>dsimp only;omega
 | some i=>have:=zah h;dsimp only;omega
theorem zdj (s : List UInt8) (n : Nat) : ((lnFrom s (n + 1) : Nat) : Int) = lnFrom s n + (ixN (s.drop (lnFrom s n)) + 1):=by
 conv=>lhs;unfold lnFrom
 unfold ixN
 cases h : nlN (s.drop (lnFrom s n)) with
 | none=>dsimp only;omega
 | some i=>dsimp only;omega
theorem zj5 {s : List UInt8} {n : Nat} (h : 0≤ixN (s.drop (lnFrom s n))) : ((lnTo s n : Nat) : Int) = lnFrom s n + ixN (s.drop (lnFrom s n)):=by
 unfold lnTo ixN at *
 generalize nlN (s.drop (lnFrom s n)) = o at *
 cases o with
 | none=>exact absurd h (by decide)
 | some i=>dsimp only;omega
theorem lnTo_no {s : List UInt8} {n : Nat} (h : ixN (s.drop (lnFrom s n)) < 0) : lnTo s n = s.length:=by
 unfold lnTo ixN at *
 generalize nlN (s.drop (lnFrom s n)) = o at *
 cases o with
 | none=>rfl
 | some i=>dsimp only at *;omega
theorem zez (b : Bf) (n : Nat) (h : b.text.length≤4096) (hn : n≤100000) : CallP Tryz.prog 119 [bufT b,I64 n] (.tup [I64 (lnFrom b.text n : Nat),I64 (lnTo b.text n : Nat)]):=by
 have hp:=xl b
 have hle:=wu b.text
 have hix:=fun k=>ixB_p (b.text.drop (lnFrom b.text k))
 have hrg:=fun k=>ixN_rg (b.text.drop (lnFrom b.text k))
 have hsu:=zdj b.text
 have hlt:=uk b.text n
 refine CallP.intro2 z5 z5 ?_;refine CallT.intro zc Tryz.func119 rfl (by kernel_rfl) (Nat.le_of_ble_eq_true rfl) ?_;refine zf zc [2] rfl ?_;refine ya rfl rfl ?_;iterate 2 refine za rfl ?_
 refine zb ?_;refine zf zc [] rfl ?_;refine za rfl ?_;refine zb ?_;refine zn ?_;refine zf zc [] rfl ?_;iterate 2 refine za rfl ?_
 refine zb ?_;refine yf ?_;refine yy (σ:=Nat) (fun i=>n - i) (fun i=>i≤n) (fun i=>[(9,I64 (i : Nat)),(6,I64 (lnFrom b.text i : Nat))]) (fun i=>[]) [2,8] rfl (0) ?_ ?_ ?_
 ·refine ⟨[],rfl,yo,yn,?_,?_⟩ <;> (repeat' first | exact trivial | exact ym | exact yq | exact yp rfl | refine yb ?_ ?_ | refine z4 rfl ?_ ?_ | refine zx ?_ ?_ | refine yk rfl ?_ | fail) <;> first | exact xd | (first | exact CvL.pure hp | exact CvL.pure rfl)
 ·(try dsimp only);omega
 rintro i hi;refine zf zc [] rfl ?_;refine za rfl ?_;refine zb ?_;refine zn ?_;refine zm rfl (fun hc0=>?_) (fun hc0=>?_)
 ·(try simp only [zh] at hc0);have hl1:=hle i;have hl2:=hle (i + 1);have hx:=hix i;have hr:=hrg i;have hs:=hsu i
  refine zo ?_;refine zn ?_;refine yf ?_;refine zw zc [] rfl ?_;iterate 2 refine za rfl ?_
  first | refine za rfl ?_ | refine zd rfl rfl zj ?_ | refine ze rfl rfl rfl zj ?_
  refine za rfl ?_;refine vj (p:=lnFrom b.text i) rfl rfl rfl rfl rfl hl1 ?_;refine zi rfl rfl rfl (hx) ?_;first | refine zy rfl rfl (by omega) ?_ | refine za rfl ?_
  refine zy rfl rfl z8 ?_;rw [← hs]
  refine za rfl ?_;refine zb ?_;refine zw zc [] rfl ?_;first | refine zy rfl rfl (by omega) ?_ | refine za rfl ?_
  refine za rfl ?_;refine zb ?_;refine ⟨i + 1,by (try dsimp only);omega,?_,(by refine ⟨[],rfl,yo,yn,?_,?_⟩ <;> (repeat' first | exact trivial | exact ym | exact yq | exact yp rfl | refine yb ?_ ?_ | refine z4 rfl ?_ ?_ | refine zx ?_ ?_ | refine yk rfl ?_ | fail) <;> first | exact xd | (first | exact CvL.pure hp | exact CvL.pure rfl))⟩
  (try dsimp only);omega
 ·(try simp only [zh] at hc0);obtain rfl : i = n:=(by omega);have hl1:=hle i;have hx:=hix i;have hr:=hrg i
  refine yz ?_;refine zn ?_;refine zf zc [] rfl ?_;refine za rfl ?_;first | refine za rfl ?_ | refine zd rfl rfl zj ?_ | refine ze rfl rfl rfl zj ?_
  refine za rfl ?_;refine vj (p:=lnFrom b.text i) rfl rfl rfl rfl rfl hl1 ?_;refine zi rfl rfl rfl (hx) ?_;refine za rfl ?_;refine zb ?_;refine zf zc [] rfl ?_;iterate 2 refine za rfl ?_
  refine zb ?_;refine zm rfl (fun hc1=>?_) (fun hc1=>?_)
  ·(try simp only [zh] at hc1);have e1:=zj5 hc1
   refine zf zc [] rfl ?_;iterate 3 refine za rfl ?_
   refine zy rfl rfl z8 ?_;rw [← e1]
   iterate 2 refine za rfl ?_
   refine zb ?_;refine zq ?_;exact ⟨trivial,_,rfl,Cv.eq rfl rfl⟩
  ·(try simp only [zh] at hc1);have e1:=lnTo_no hc1
   refine zo ?_;refine yv zc [] [_,_,_,_,_,_] rfl yj yj ?_;iterate 2 refine za rfl ?_
   first | refine za rfl ?_ | refine zd rfl rfl zj ?_ | refine ze rfl rfl rfl zj ?_
   refine za (t:=I64 (b.text.length : Nat)) rfl ?_;iterate 2 refine za rfl ?_
   iterate 2 refine zb ?_
   refine zq ?_;exact ⟨trivial,_,rfl,Cv.eq (by rw [e1]) rfl⟩
theorem line_p (b : Bf) (n : Int) (h : b.text.length≤4096) (hn : -100000≤n∧n≤100000) : CallP Tryz.prog 104 [bufT b,I64 n] (strT (lineN b.text n)):=by
 have hp:=xl b
 have hli:=zdk b h
 have hbo:=zez b n.toNat h (by omega)
 have hlt:=uk b.text n.toNat
 unfold lineN
 refine CallP.intro2 z5 z5 ?_;refine CallT.intro zc Tryz.func104 rfl (by kernel_rfl) (Nat.le_of_ble_eq_true rfl) ?_;refine zf zc [2] rfl ?_;refine ya rfl rfl ?_;refine za rfl ?_;refine zb ?_;refine zn ?_;refine zf zc [] rfl ?_;iterate 3 refine za rfl ?_
 refine' zu (d:=14) [_,_,_,_,_] rfl ?_ rfl ?_
 rotate_left
 ·refine zt rfl rfl (fun hb1_2=>?_) (fun hb1_2=>?_)
  ·have ghb1_2:=hb1_2
   try simp only [zh,Bool.not_true,Bool.not_false] at ghb1_2
   refine za rfl ?_;refine zg rfl rfl hb1_2 ?_;first | refine za rfl ?_ | refine zd rfl rfl zj ?_ | refine ze rfl rfl rfl zj ?_
   refine zg rfl rfl hb1_2 ?_;refine zi rfl rfl rfl (hli) ?_;refine zg rfl rfl hb1_2 ?_;refine za rfl ?_;refine zr rfl (fun _=>rfl) ?_;exact zb ⟨rfl,rfl⟩
  ·refine zl rfl rfl hb1_2 ?_;iterate 2 refine zl rfl rfl hb1_2 ?_
   exact zr rfl (fun h=>absurd (h.symm.trans hb1_2) (by decide)) (zb ⟨rfl,rfl⟩)
 refine zb ?_;refine zm rfl (fun hc0=>?_) (fun hc0=>?_)
 ·(try simp only [zh] at hc0);rw [if_pos hc0]
  refine zf zc [] rfl ?_;refine za rfl ?_;refine zb ?_;refine zq ?_;exact ⟨trivial,_,rfl,Cv.eq rfl rfl⟩
 ·(try simp only [zh] at hc0);rw [if_neg (by omega)];rw [Int.toNat_of_nonneg (show 0≤n by omega)] at hbo
  refine zo ?_;refine zf zc [] rfl ?_;first | refine za rfl ?_ | refine zd rfl rfl zj ?_ | refine ze rfl rfl rfl zj ?_
  refine za rfl ?_;refine zi rfl rfl rfl (hbo) ?_;iterate 5 refine za rfl ?_
  refine zb ?_;refine zf zc [] rfl ?_;refine za rfl ?_;first | refine za rfl ?_ | refine zd rfl rfl zj ?_ | refine ze rfl rfl rfl zj ?_
  iterate 2 refine za rfl ?_
  refine rd (p:=lnFrom b.text n.toNat) (r:=lnTo b.text n.toNat) rfl rfl rfl rfl rfl rfl rfl hlt.1 hlt.2 ?_;refine za rfl ?_;refine zb ?_;refine zq ?_;exact ⟨trivial,_,rfl,Cv.eq rfl rfl⟩
theorem zgl (b : Bf) (k : Nat) (h : b.text.length≤4096) (hk : k≤b.text.length) : CallP Tryz.prog 44 [bufT b,I64 k] (.tup [I64 ((spotN b.text k).1 : Nat),I64 ((spotN b.text k).2 : Nat)]):=by
 have hp:=xl b
 have hl : (b.text.take k).length = k:=by rw [List.length_take];omega
 have hc:=cnt_p (b.text.take k)
 have hx:=lixB_p (b.text.take k) (by omega)
 have hrg:=lix_rg (b.text.take k) (b.text.take k).length
 have hcol:=lix_col (b.text.take k)
 unfold spotN
 refine CallP.intro2 z5 z5 ?_;refine CallT.intro zc Tryz.func44 rfl (by kernel_rfl) (Nat.le_of_ble_eq_true rfl) ?_;refine zf zc [2] rfl ?_;refine ya rfl rfl ?_;iterate 2 refine za rfl ?_
 refine zb ?_;refine zf zc [] rfl ?_;refine za rfl ?_;first | refine za rfl ?_ | refine zd rfl rfl zj ?_ | refine ze rfl rfl rfl zj ?_
 refine za rfl ?_;refine wy rfl rfl ?_;rw [show max (k : Int) 0 = (k : Int) by omega]
 refine za rfl ?_;first | refine za rfl ?_ | refine zd rfl rfl zj ?_ | refine ze rfl rfl rfl zj ?_
 refine za (t:=I64 (b.text.length : Nat)) rfl ?_;refine w6 rfl rfl ?_;rw [show min (k : Int) (b.text.length : Int) = (k : Int) by omega]
 refine ur (r:=k) rfl rfl rfl rfl rfl hk ?_;refine za rfl ?_;refine zb ?_;refine zf zc [] rfl ?_;refine za rfl ?_;refine zi rfl rfl rfl (hc) ?_;refine za rfl ?_;refine za (t:=I64 ((b.text.take k).length : Nat)) rfl ?_;refine za rfl ?_;refine zi rfl rfl rfl (hx) ?_;first | refine yu rfl rfl (by omega) ?_ | refine za rfl ?_
 refine yu rfl rfl z8 ?_;rw [hcol]
 iterate 2 refine za rfl ?_
 refine zb ?_;refine zq ?_;exact ⟨trivial,_,rfl,Cv.eq rfl rfl⟩
theorem ro (b : Bf) (line col : Int) (h : b.text.length≤4096) (hl : -100000≤line∧line≤2 ^ 62) (hc : -100000≤col∧col≤2 ^ 62) : CallP Tryz.prog 105 [bufT b,I64 line,I64 col] (I64 (placeN b.text line col : Nat)):=by
 have hp:=xl b
 have hli:=zdk b h
 have hcl:=List.count_le_length (a:=(10 : UInt8)) (l:=b.text)
 have hn1 : 1≤lnN b.text:=by unfold lnN;omega
 have hn2 : lnN b.text≤4097:=by unfold lnN;omega
 have hcn:=s5 line (lnN b.text - 1)
 have hbo:=zez b (clampN line (lnN b.text - 1)) h (by omega)
 have e1 : min (max line 0) (((lnN b.text : Nat) : Int) - 1) = ((clampN line (lnN b.text - 1) : Nat) : Int):=by unfold clampN;omega
 have hlt:=uk b.text (clampN line (lnN b.text - 1))
 unfold placeN
 generalize clampN line (lnN b.text - 1) = m at *
 have e2 : min (max col 0) (((lnTo b.text m : Nat) : Int) - ((lnFrom b.text m : Nat) : Int)) = ((clampN col (lnTo b.text m - lnFrom b.text m) : Nat) : Int):=by unfold clampN;omega
 have hcn2:=s5 col (lnTo b.text m - lnFrom b.text m)
 refine CallP.intro2 z5 z5 ?_;refine CallT.intro zc Tryz.func105 rfl (by kernel_rfl) (Nat.le_of_ble_eq_true rfl) ?_;refine zf zc [3] rfl ?_;refine ya rfl rfl ?_;refine za rfl ?_;refine zb ?_;refine yv zc [] [_,_,_,_,_,_,_,_,_,_,_,_,_] rfl yj yj ?_;first | refine za rfl ?_ | refine zd rfl rfl zj ?_ | refine ze rfl rfl rfl zj ?_
 refine za rfl ?_;first | refine wy rfl rfl ?_ | refine za rfl ?_
 first | refine za rfl ?_ | refine zd rfl rfl zj ?_ | refine ze rfl rfl rfl zj ?_
 refine zi rfl rfl rfl (hli) ?_;first | refine yu rfl rfl (by omega) ?_ | refine za rfl ?_
 refine w6 rfl rfl ?_;rw [e1]
 refine zi rfl rfl rfl (hbo) ?_;iterate 5 refine za rfl ?_
 iterate 2 refine zb ?_
 refine zf zc [] rfl ?_;iterate 2 refine za rfl ?_
 first | refine wy rfl rfl ?_ | refine za rfl ?_
 iterate 2 refine za rfl ?_
 first | refine yu rfl rfl (by omega) ?_ | refine za rfl ?_
 refine w6 rfl rfl ?_;rw [e2]
 first | refine zy rfl rfl (by omega) ?_ | refine za rfl ?_
 refine za rfl ?_;refine zb ?_;refine zq ?_;exact ⟨trivial,_,rfl,Cv.eq rfl rfl⟩
end

section
open Go.RowKit
set_option maxRecDepth 100000
set_option maxHeartbeats 1000000
section
variable {P : Program}
theorem CallT.out [Dr] {f : FuncId} {args : List T} {H : Hp} {Q : T→Hp→Prop}
  (h : CallT P f args H (fun t H'=>∃ r H2 ρ,Q r H2∧injB ρ = true∧lbOk H.length 0 ρ∧noO H2 = true∧Cv (vwL H' ρ) t r∧CvH (vwL H' ρ) H' ρ H2)) : CallT P f args H Q:=by
 refine ⟨h.1,fun X0 M us hS hrep=>(h.2 X0 M us hS hrep).mono ?_⟩
 rintro e w' ⟨u,t,H',M',rfl,rfl,⟨r,H2,ρ,hq,hi,hl,hO,hc,hH⟩,h4,h5,h6⟩;obtain ⟨k1,k2,k3⟩:=zau h5 hi hO hH
 refine ⟨u,r,H2,viewM M' X0 H2 ρ,rfl,rfl,hq,⟨fun b p hp=>?_,fun B hB hx h=>h4.nox B hB hx (k3 B h),h4.keep,h4.shape,h4.os,h4.tape,h4.output,h4.size⟩,k2,hc.rep k1 u h6⟩
 rcases Nat.lt_or_ge b H.length with hb | hb
 ·have h7:=zdl hl b hb
  rw [Nat.zero_add] at h7
  exact (k1.r b b h7).trans (h4.at_ b p hp)
 ·have:=hS.dom b (by omega)
  rw [this] at hp;cases hp
end
section
variable {P : Program}
theorem zbz : ∀ (H : Hp) (b : Nat),b < H.length→setH H b (blkH H b) = H
 | [],b,h=>by simp at h
 | x :: H,0,_=>rfl
 | x :: H,b + 1,h=>congrArg (List.cons x) (zbz H b (by simpa using h))
structure LookT [Dr] (P : Program) (f : FuncId) (args : List T) (r : T) (cs : List T) : Prop where
 pc : T.pureL cs = true
 pa : T.pureL args = true
 pr : r.pure = true
 ct : CallT P f (.ptr 0 0 :: args) [.c cs] (fun t H'=>t = r∧H' = [.c cs])
theorem LookT.at [Dr] {f : FuncId} {args : List T} {r : T} {cs : List T} (h : LookT P f args r cs) {G : Hp} {b : Nat} (hb : lookH G b = some cs) : CallT P f (.ptr b 0 :: args) G (fun t H'=>t = r∧H' = G):=by
 refine CallT.frame h.ct [b] rfl (zc4 hb (CvL.pure h.pc) zfa) (CvL.cons (Cv.ptr rfl) (CvL.pure h.pa)) ?_;rintro t Hl' ⟨rfl,rfl⟩;refine frK (Cv.pure h.pr) (r8 (CvL.pure h.pc) rg) ⟨rfl,?_⟩
 show setH G b (.c cs) ++ [] = G
 have h1:=y9.1 hb
 rw [List.append_nil,← h1,zbz G b (xn hb)]
theorem LookT.of_p [Dr] {f : FuncId} {args : List T} {r : T} {cs : List T} (h : CallP P f (.iptr cs 0 :: args) r) (hr : r.scal = true) (hp : r.pure = true) (hc : T.pureL cs = true) (ha : T.pureL args = true) : LookT P f args r cs:=
 ⟨hc,ha,hp,h.look hr (CvL.cons (Cv.fptr ⟨rfl,by simp⟩ (CvL.pure hc)) (CvL.pure ha))⟩
theorem out1 {H' : Hp} {cs cs' : List T} {t r : T} (h0 : lookH H' 0 = some cs) (hc : CvL (vwL H' [some 0]) cs cs') (ht : Cv (vwL H' [some 0]) t r) :
  ∃ r' H2 ρ,(r' = r∧H2 = [Blk.c cs'])∧injB ρ = true∧lbOk 1 0 ρ∧noO H2 = true∧Cv (vwL H' ρ) t r'∧CvH (vwL H' ρ) H' ρ H2:=
 ⟨r,[.c cs'],[some 0],⟨rfl,rfl⟩,rfl,⟨rfl,trivial⟩,rfl,ht,zx (yk h0 hc) trivial⟩
theorem out2n {H' : Hp} {cs cs' : List T} {z : Nat} (h0 : lookH H' 0 = some cs) (hc : CvL (vwL H' [some 0,none]) cs cs') :
  ∃ r' H2 ρ,(r' = .slc 1 0 0 z none∧H2 = [Blk.c cs',.c []])∧injB ρ = true∧lbOk 1 0 ρ∧noO H2 = true∧Cv (vwL H' ρ) (.v (.slice none 0 0)) r'∧CvH (vwL H' ρ) H' ρ H2:=
 ⟨_,[.c cs',.c []],[some 0,none],⟨rfl,rfl⟩,rfl,⟨rfl,trivial⟩,rfl,Cv.nilv rfl,zx (yk h0 hc) (zx ym trivial)⟩
theorem out2 {H' : Hp} {cs cs' xs xs' : List T} {b n z : Nat} {c : Option Nat} (h0 : lookH H' 0 = some cs) (h1 : lookH H' (b + 1) = some xs) (hc : CvL (vwL H' [some 0,some (b + 1)]) cs cs') (hx : CvL (vwL H' [some 0,some (b + 1)]) xs xs') :
  ∃ r' H2 ρ,(r' = .slc 1 0 n z none∧H2 = [Blk.c cs',.c xs'])∧injB ρ = true∧lbOk 1 0 ρ∧noO H2 = true∧Cv (vwL H' ρ) (.slc (b + 1) 0 n z c) r'∧CvH (vwL H' ρ) H' ρ H2:=
 ⟨_,[.c cs',.c xs'],[some 0,some (b + 1)],⟨rfl,rfl⟩,rfl,⟨rfl,trivial⟩,rfl,Cv.slc rfl (.inr rfl),zx (yk h0 hc) (zx (yk h1 hx) trivial)⟩
end
section
variable {P : Program} {tab : Tab} {im : List Nat} {ds : List (Option Nat)} {l : List Oper} {E : Env} {H : Hp} {K : Env→Hp→Prop}
theorem vn [Dr] {d : Nat} {ty : TypeId} {pos : String} {after : Array Edge} {f : Operand} {args : Array Operand} {ats : Array TypeId} {g : FuncId} {b : Nat} {us : List T} {r : T} {cs : List T} (hf : E.opd f = some (.clo g [] [])) (ha : optL E.opd args.toList = some (.ptr b 0 :: us))
  (hc : LookT P g us r cs) (hb : lookH H b = some cs) (k : VX false P tab im ds l ((d,r) :: E) H K) : VX false P tab im ds (⟨some d,.call ⟨.value f,args,ats⟩,ty,pos,after,none⟩ :: l) E H K:=
 y7 hf ha (by rw [List.append_nil];exact ((hc.at hb).mono fun t H' ⟨h1,h2⟩=>by subst h1 h2;exact k))
variable {Hm F : Hp} {wd : List Bool} {ops : Array Oper}
theorem uw [Dr] {d : Nat} {ty : TypeId} {pos : String} {after : Array Edge} {f : Operand} {args : Array Operand} {ats : Array TypeId} {g : FuncId} {b : Nat} {us : List T} {r : T} {cs : List T} (hf : E.opd f = some (.clo g [] [])) (ha : optL E.opd args.toList = some (.ptr b 0 :: us))
  (hc : LookT P g us r cs) (hb : lookH Hm b = some cs) (k : VD P tab im ops Hm l wd ((d,r) :: E) F K) : VD P tab im ops Hm (⟨some d,.call ⟨.value f,args,ats⟩,ty,pos,after,none⟩ :: l) (false :: wd) E F K:=
 VD.look hf ha (fun G hs=>by
  rw [List.append_nil]
  refine hc.at ?_;have h1:=y9.1 hb
  rw [y9,← hs.2 b (by rw [h1];simp)];exact h1) k
end
abbrev edC (e : Ed) : List T:=[I64 e.c.cur,I64 e.c.anc,BL e.made,I64 e.win,I64 e.pen,I64 e.fnt,I64 e.w,I64 e.h,stT e.c.bf.past,stT e.c.bf.fut,strT e.c.bf.text,I64 e.top,I64 e.left,strT e.c.cop,I64 e.cnt,I64 e.asked]
abbrev edT (e : Ed) : T:=.agg (edC e)
theorem yg (e : Ed) : T.pureL (edC e) = true:=by simp only [T.pureL,T.pure,zp];rfl
def cLk : Cd Lk:=⟨4,fun k=>[strT k.let8,I64 k.fm,I64 k.tz,I64 k.cu],fun _=>rfl,fun _=>rfl,fun _=>rfl,by decide⟩
theorem zex : cLk.sz = 4:=rfl
abbrev lkT (k : Lk) : T:=.agg [strT k.let8,I64 k.fm,I64 k.tz,I64 k.cu]
theorem rows_p (e : Ed) (h : 0≤e.h∧e.h≤1000) : CallP Tryz.prog 46 [.iptr (edC e) 0] (I64 (e.rows : Nat)):=by
 have hp:=yg e
 have e1 : e.h / 6 = ((e.rows : Nat) : Int):=by unfold Ed.rows;omega
 refine CallP.intro2 z5 z5 ?_;refine CallT.intro zc Tryz.func46 rfl (by kernel_rfl) (Nat.le_of_ble_eq_true rfl) ?_;refine zf zc [] rfl ?_;refine za rfl ?_;refine zb ?_;refine zf zc [] rfl ?_;iterate 3 refine za rfl ?_
 first | refine za rfl ?_ | refine zd rfl rfl zj ?_ | refine ze rfl rfl rfl zj ?_
 refine yi rfl rfl z8 z8 z8 ?_;rw [e1]
 refine za rfl ?_;refine zb ?_;refine zq ?_;exact ⟨trivial,_,rfl,Cv.eq rfl rfl⟩
theorem zcr (e : Ed) (h : 0≤e.w∧e.w≤1000) : CallP Tryz.prog 47 [.iptr (edC e) 0] (I64 (e.cols : Nat)):=by
 have hp:=yg e
 have e1 : e.w / 4 = ((e.cols : Nat) : Int):=by unfold Ed.cols;omega
 refine CallP.intro2 z5 z5 ?_;refine CallT.intro zc Tryz.func47 rfl (by kernel_rfl) (Nat.le_of_ble_eq_true rfl) ?_;refine zf zc [] rfl ?_;refine za rfl ?_;refine zb ?_;refine zf zc [] rfl ?_;iterate 3 refine za rfl ?_
 first | refine za rfl ?_ | refine zd rfl rfl zj ?_ | refine ze rfl rfl rfl zj ?_
 refine yi rfl rfl z8 z8 z8 ?_;rw [e1]
 refine za rfl ?_;refine zb ?_;refine zq ?_;exact ⟨trivial,_,rfl,Cv.eq rfl rfl⟩
theorem zd3 (e : Ec) : CallP Tryz.prog 38 [.agg [I64 e.cur,I64 e.anc]] (.tup [I64 (e.lo : Nat),I64 (e.hi : Nat)]):=by
 have e1 : min (e.cur : Int) (e.anc : Int) = ((e.lo : Nat) : Int):=by unfold Ec.lo;omega
 have e2 : max (e.cur : Int) (e.anc : Int) = ((e.hi : Nat) : Int):=by unfold Ec.hi;omega
 refine CallP.intro2 z5 z5 ?_;refine CallT.intro zc Tryz.func38 rfl (by kernel_rfl) (Nat.le_of_ble_eq_true rfl) ?_;refine zf zc [1] rfl ?_;refine ya rfl rfl ?_;iterate 2 refine za rfl ?_
 refine zb ?_;refine yv zc [] [_,_,_,_,_,_,_,_,_,_,_,_] rfl yj yj ?_;refine za rfl ?_;first | refine za rfl ?_ | refine zd rfl rfl zj ?_ | refine ze rfl rfl rfl zj ?_
 refine za rfl ?_;first | refine za rfl ?_ | refine zd rfl rfl zj ?_ | refine ze rfl rfl rfl zj ?_
 refine w6 rfl rfl ?_;rw [e1]
 refine za rfl ?_;first | refine za rfl ?_ | refine zd rfl rfl zj ?_ | refine ze rfl rfl rfl zj ?_
 refine za rfl ?_;first | refine za rfl ?_ | refine zd rfl rfl zj ?_ | refine ze rfl rfl rfl zj ?_
 refine wy rfl rfl ?_;rw [e2]
 iterate 2 refine za rfl ?_
 iterate 2 refine zb ?_
 refine zq ?_;exact ⟨trivial,_,rfl,Cv.eq rfl rfl⟩
theorem zgm (a b c : Int) (ha : -100000≤a∧a≤100000) (hb : -100000≤b∧b≤100000) (hc : -100000≤c∧c≤100000) : CallP Tryz.prog 45 [I64 a,I64 b,I64 c] (I64 (sightN a b c)):=by
 unfold sightN
 refine CallP.intro2 z5 z5 ?_;refine CallT.intro zc Tryz.func45 rfl (by kernel_rfl) (Nat.le_of_ble_eq_true rfl) ?_;refine zf zc [] rfl ?_;refine za rfl ?_;refine zb ?_;refine zn ?_;refine zf zc [] rfl ?_;iterate 3 refine za rfl ?_
 refine zb ?_;refine zm rfl (fun hc0=>?_) (fun hc0=>?_)
 ·(try simp only [zh] at hc0);rw [if_pos hc0]
  refine zf zc [] rfl ?_;iterate 2 refine za rfl ?_
  refine zb ?_;refine zq ?_;exact ⟨trivial,_,rfl,Cv.eq rfl rfl⟩
 ·(try simp only [zh] at hc0);rw [if_neg (by omega)]
  refine zo ?_;refine zn ?_;refine zf zc [] rfl ?_;iterate 2 refine za rfl ?_
  first | refine yu rfl rfl (by omega) ?_ | refine za rfl ?_
  iterate 2 refine za rfl ?_
  refine zb ?_;refine zm rfl (fun hc1=>?_) (fun hc1=>?_)
  ·(try simp only [zh] at hc1);rw [if_pos (by omega)]
   refine zf zc [] rfl ?_;iterate 2 refine za rfl ?_
   first | refine yu rfl rfl (by omega) ?_ | refine za rfl ?_
   first | refine zy rfl rfl (by omega) ?_ | refine za rfl ?_
   refine za rfl ?_;refine zb ?_;refine zq ?_;exact ⟨trivial,_,rfl,Cv.eq rfl rfl⟩
  ·(try simp only [zh] at hc1);rw [if_neg (by omega)]
   refine zo ?_;refine zf zc [] rfl ?_;iterate 2 refine za rfl ?_
   refine zb ?_;refine zq ?_;exact ⟨trivial,_,rfl,Cv.eq rfl rfl⟩
theorem zcw (e : Ed) (k : Nat) : CallT Tryz.prog 82 [.ptr 0 0,I64 k] [.c (edC e)] (fun t H'=>t = .tup []∧H' = [.c (edC { e with c:={ e.c with cur:=k,anc:=k } })]):=by
 refine CallT.intro zc Tryz.func82 rfl (by kernel_rfl) (Nat.le_of_ble_eq_true rfl) ?_;refine zw zc [] rfl ?_;iterate 6 refine za rfl ?_
 refine zk rfl rfl rfl rfl rfl yh rfl ?_;iterate 2 refine za rfl ?_
 refine zk rfl rfl rfl rfl rfl yh rfl ?_;refine zb ?_;exact ⟨trivial,_,rfl,rfl,rfl⟩
section
variable {P : Program} {tab : Tab} {im : List Nat} {ds : List (Option Nat)} {l : List Oper} {E : Env} {H : Hp} {K : Env→Hp→Prop} {ty : TypeId} {pos : String} {after : Array Edge}
theorem zfz [Dr] {d : Option Nat} {x y : Operand} {t1 t2 : TypeId} {e b n : Nat} {i j i2 : TyI} {c : Option Nat} {xs s : List UInt8} (hT : tab t1 = some i) (hk : i.k = .sl e) (hj : tab e = some j) (hz : j.sz = 1) (hT2 : tab t2 = some i2) (hk2 : i2.k = .str) (hx : E.opd x = some (.slc b 0 n 1 c)) (hy : E.opd y = some (strT s))
  (hc : lookH H b = some (encL cY xs)) (hn : xs.length = n) (k : VX false P tab im ds l (putC E d (I64 (min s.length n : Nat))) (setH H b (.c (encL cY (s.take n ++ xs.drop s.length)))) K) : VX false P tab im ds (⟨d,.call ⟨.builtin .copy,#[x,y],#[t1,t2]⟩,ty,pos,after,none⟩ :: l) E H K:=by
 refine VX.copy hx hy (r:=I64 (min s.length n : Nat)) (H':=setH H b (.c (encL cY (s.take n ++ xs.drop s.length)))) ?_ k
 subst hn
 have hs : srcCells tab (lookH H) t2 j.sz (strT s) = some (encL cY s,s.length):=by
  simp only [srcCells,hT2,hk2,hz,if_true]
  rw [show (s.toArray.toList.map fun c=>T.v (.int .u8 (c.toNat : Int))) = encL cY s from (bytL_Y ⟨s.toArray⟩).symm ▸ rfl]
  rfl
 simp only [mCopy,hT,hk,hj,hs,hc]
 have hlen : ∀ l : List UInt8,(encL cY l).length = l.length:=fun l=>by rw [ye,vw,Nat.mul_one]
 rw [if_pos ⟨hz.symm,by rw [hlen];omega,by rw [hlen,hz];omega,wh _ _⟩]
 congr 4
 have h1 : (encL cY s).take (min s.length xs.length * 1) = encL cY (s.take xs.length):=by
  have:=zco cY s (min s.length xs.length)
  rw [vw] at this
  rw [this,Nat.min_comm,← List.take_take,List.take_length]
 have h2 : (encL cY xs).drop (min s.length xs.length) = encL cY (xs.drop s.length):=by
  have:=u4 cY xs (min s.length xs.length)
  rw [vw,Nat.mul_one] at this
  rw [this]
  rcases Nat.le_total s.length xs.length with h | h
  ·rw [Nat.min_eq_left h]
  ·rw [Nat.min_eq_right h,List.drop_length,List.drop_eq_nil_of_le h]
 rw [h1]
 unfold putL
 rw [List.take_zero,List.nil_append,hlen,List.length_take,Nat.zero_add,Nat.min_comm,h2,yr]
end
def blz (n i : Nat) : List UInt8:=List.replicate i 32 ++ List.replicate (n - i) 0
theorem blz_len {n i : Nat} (h : i≤n) : (blz n i).length = n:=by unfold blz;rw [List.length_append,List.length_replicate,List.length_replicate];omega
theorem blz_set {n i : Nat} (h : i < n) : (blz n i).set i 32 = blz n (i + 1):=by
 unfold blz
 rw [show n - i = (n - (i + 1)) + 1 by omega,List.replicate_succ,List.set_append_right _ _ (by rw [List.length_replicate];exact Nat.le_refl _),List.length_replicate,Nat.sub_self,List.set_cons_zero,List.replicate_succ',List.append_assoc]
 rfl
theorem zir (n : Nat) : zeros n [U8 0] = encL cY (blz n 0):=by
 unfold blz
 rw [List.replicate_zero,List.nil_append,Nat.sub_zero]
 induction n with
 | zero=>rfl
 | succ n ih=>simp only [zeros,encL,List.replicate_succ,List.flatMap_cons] at ih ⊢;rw [ih];rfl
theorem blz_all (n : Nat) : blz n n = List.replicate n 32:=by unfold blz;rw [Nat.sub_self,List.replicate_zero,List.append_nil]
theorem za0 (n : Nat) : padN [] n = List.replicate n 32:=by unfold padN;simp
theorem zju (s : List UInt8) (n : Nat) : s.take n ++ (List.replicate n 32).drop s.length = padN s n:=by unfold padN;rw [List.drop_replicate]
theorem look_p (e : Ed) (y : Nat) (hs : 4≤e.w∧e.w≤128∧6≤e.h∧e.h≤128) (ht : e.c.bf.text.length≤4096) (hc : e.c.cur≤e.c.bf.text.length∧e.c.anc≤e.c.bf.text.length) (hsi : 0≤e.top∧e.top≤4096∧0≤e.left∧e.left≤4096) (hy : y≤100) :
  CallP Tryz.prog 74 [.iptr (edC e) 0,I64 y] (lkT (e.look y)):=by
 have hp:=yg e
 have hcol:=zcr e (by omega)
 have hli:=zdk e.c.bf ht
 have hln:=line_p e.c.bf (e.top + y) ht (by omega)
 have hpl:=ro e.c.bf (e.top + y) 0 ht (by omega) (by omega)
 have hple:=v9 e.c.bf.text (e.top + y) 0
 have hsp:=zd3 e.c
 have hst:=zgl e.c.bf e.c.cur ht hc.1
 have hsl:=sg e.c.bf.text e.c.cur
 have hlo : e.c.lo≤e.c.bf.text.length:=by unfold Ec.lo;omega
 have hhi : e.c.hi≤e.c.bf.text.length:=by unfold Ec.hi;omega
 have hll : (lineN e.c.bf.text (e.top + y)).length≤e.c.bf.text.length:=by unfold lineN;split;exact Nat.zero_le _;rw [List.length_drop,List.length_take];omega
 have hcn : e.cols≤32:=by unfold Ed.cols;omega
 unfold Ed.look
 dsimp only
 generalize lineN e.c.bf.text (e.top + y) = s at *
 generalize placeN e.c.bf.text (e.top + y) 0 = b0 at *
 generalize spotN e.c.bf.text e.c.cur = sp at *
 refine CallP.intro2 z5 z5 ?_;refine CallT.intro zc Tryz.func74 rfl (by kernel_rfl) (Nat.le_of_ble_eq_true rfl) ?_;refine zf zc [] rfl ?_;refine yc rfl rfl ?_;refine zb ?_;refine zf zc [] rfl ?_;refine za rfl ?_;refine zi rfl rfl rfl (hcol) ?_;refine za rfl ?_;refine zb ?_;refine zf zc [] rfl ?_;refine za rfl ?_;refine zi3 (a:=e.cols) (b:=e.cols) rfl rfl rfl rfl rfl rfl rfl rfl (Nat.le_refl _) z8 (by dsimp only;omega) ?_;refine za rfl ?_;refine zb ?_;refine zn ?_;refine zf zc [] rfl ?_;iterate 3 refine za rfl ?_
 refine zb ?_;refine yf ?_;refine yy (σ:=Nat) (fun i=>e.cols - i) (fun i=>i≤e.cols) (fun i=>[(24,I64 (i : Nat)),(6,.slc 1 0 e.cols 1 (some e.cols)),(4,.ptr 0 0)]) (fun i=>[.c [strT [],I64 0,I64 0,I64 0],.c (encL cY (blz e.cols i))]) [0,1,5,23] rfl (0) ?_ ?_ ?_
 ·refine ⟨[some 0,some 1],rfl,yo,yn,?_,?_⟩ <;> (repeat' first | exact trivial | exact ym | exact yq | exact yp rfl | refine yb ?_ ?_ | refine z4 rfl ?_ ?_ | refine zx ?_ ?_ | refine yk rfl ?_ | fail) <;> first | exact xd | (first | exact CvL.pure hp | exact CvL.pure rfl | exact CvL.eq (zir _) (zp cY _))
 ·(try dsimp only);omega
 rintro i hi;refine zf zc [] rfl ?_;refine za rfl ?_;refine zb ?_;refine zn ?_;refine zm rfl (fun hc0=>?_) (fun hc0=>?_)
 ·(try simp only [zh] at hc0);have hil : i < e.cols:=(by omega);have hbl:=blz_len (n:=e.cols) (i:=i) (by omega)
  refine zo ?_;refine zn ?_;refine yf ?_;refine zf zc [] rfl ?_;iterate 2 refine za rfl ?_
  refine zb ?_;refine zw zc [] rfl ?_;iterate 2 refine za rfl ?_
  refine ut (m:=i) rfl rfl rfl rfl rfl rfl rfl hil ?_;refine zk rfl rfl rfl rfl rfl (by rw [ye,vw];(try dsimp only);omega) rfl ?_;refine zb ?_;refine zw zc [] rfl ?_;first | refine zy rfl rfl (by omega) ?_ | refine za rfl ?_
  refine za rfl ?_;refine zb ?_;refine ⟨i + 1,by (try dsimp only);omega,?_,(by refine ⟨[some 0,some 1],rfl,yo,yn,?_,?_⟩ <;> (repeat' first | exact trivial | exact ym | exact yq | exact yp rfl | refine yb ?_ ?_ | refine z4 rfl ?_ ?_ | refine zx ?_ ?_ | refine yk rfl ?_ | fail) <;> first | exact xd | (first | exact CvL.pure hp | exact CvL.pure rfl | exact CvL.eq ((zfv (v:=32) (by omega)).trans (congrArg (encL cY) (blz_set hil))) (zp cY _)))⟩
  (try dsimp only);omega
 ·(try simp only [zh] at hc0);obtain rfl : i = e.cols:=(by omega);rw [blz_all]
  refine yz ?_;refine zf zc [] rfl ?_;iterate 3 refine za rfl ?_
  first | refine za rfl ?_ | refine zd rfl rfl zj ?_ | refine ze rfl rfl rfl zj ?_
  refine za rfl ?_;first | refine zy rfl rfl (by omega) ?_ | refine za rfl ?_
  refine za rfl ?_;refine zb ?_;refine zn ?_;refine zf zc [] rfl ?_;iterate 4 refine za rfl ?_
  first | refine za rfl ?_ | refine zd rfl rfl zj ?_ | refine ze rfl rfl rfl zj ?_
  refine zi rfl rfl rfl (hli) ?_;refine za rfl ?_;refine zb ?_;refine zm rfl (fun hc1=>?_) (fun hc1=>?_)
  ·(try simp only [zh] at hc1);rw [if_pos (by omega)]
   refine zf zc [] rfl ?_;refine za rfl ?_;refine vf (xs:=List.replicate e.cols 32) rfl rfl rfl rfl rfl rfl rfl rfl (by rw [ye,vw,List.length_replicate];omega) (by rw [List.drop_zero,List.take_of_length_le (by rw [ye,vw,List.length_replicate];omega)]) ?_;refine za rfl ?_;refine zk rfl rfl rfl rfl rfl yh rfl ?_;refine zb ?_;refine zq ?_;exact ⟨trivial,_,rfl,Cv.eq (by rw [za0];rfl) rfl⟩
  ·(try simp only [zh] at hc1);rw [if_neg (by omega)]
   refine zo ?_;refine zf zc [] rfl ?_;iterate 3 refine za rfl ?_
   first | refine za rfl ?_ | refine zd rfl rfl zj ?_ | refine ze rfl rfl rfl zj ?_
   refine za rfl ?_;refine zi rfl rfl rfl (hln) ?_;refine za rfl ?_;refine zb ?_;refine zn ?_;refine zf zc [] rfl ?_;iterate 3 refine za rfl ?_
   first | refine za rfl ?_ | refine zd rfl rfl zj ?_ | refine ze rfl rfl rfl zj ?_
   refine za rfl ?_;refine za (t:=I64 (s.length : Nat)) rfl ?_;refine za rfl ?_;refine zb ?_;refine zm rfl (fun hc2=>?_) (fun hc2=>?_)
   ·(try simp only [zh] at hc2);have ex : padN (s.drop e.left.toNat) e.cols = (s.drop e.left.toNat).take e.cols ++ (List.replicate e.cols 32).drop (s.drop e.left.toNat).length:=(zju _ _).symm
    refine zw zc [] rfl ?_;iterate 5 refine za rfl ?_
    first | refine za rfl ?_ | refine zd rfl rfl zj ?_ | refine ze rfl rfl rfl zj ?_
    refine vj (p:=e.left.toNat) rfl rfl rfl rfl z8 z8 ?_;refine zfz (xs:=List.replicate e.cols 32) rfl rfl rfl rfl rfl rfl rfl rfl rfl (List.length_replicate ..) ?_;rw [← ex]
    refine zb ?_;refine zf zc [] rfl ?_;refine za rfl ?_;refine vf (xs:=padN (s.drop e.left.toNat) e.cols) rfl rfl rfl rfl rfl rfl rfl rfl (by rw [ye,vw,su];omega) (by rw [List.drop_zero,List.take_of_length_le (by rw [ye,vw,su];omega)]) ?_;refine za rfl ?_;refine yc rfl rfl ?_;refine zk rfl rfl rfl rfl rfl yh rfl ?_;refine zb ?_;refine zf zc [] rfl ?_;iterate 3 refine za rfl ?_
    first | refine za rfl ?_ | refine zd rfl rfl zj ?_ | refine ze rfl rfl rfl zj ?_
    refine za rfl ?_;refine zi rfl rfl rfl (hpl) ?_;refine za rfl ?_;refine zb ?_;refine zf zc [] rfl ?_;iterate 3 refine za rfl ?_
    first | refine za rfl ?_ | refine zd rfl rfl zj ?_ | refine ze rfl rfl rfl zj ?_
    refine zi rfl rfl rfl (hsp) ?_;iterate 5 refine za rfl ?_
    refine zb ?_;refine zf zc [] rfl ?_;iterate 2 refine za rfl ?_
    first | refine yu rfl rfl (by omega) ?_ | refine za rfl ?_
    first | refine wy rfl rfl ?_ | refine za rfl ?_
    iterate 3 refine za rfl ?_
    first | refine za rfl ?_ | refine zd rfl rfl zj ?_ | refine ze rfl rfl rfl zj ?_
    first | refine yu rfl rfl (by omega) ?_ | refine za rfl ?_
    refine za rfl ?_;refine zb ?_;refine zf zc [] rfl ?_;iterate 2 refine za rfl ?_
    first | refine yu rfl rfl (by omega) ?_ | refine za rfl ?_
    refine za rfl ?_;refine za (t:=I64 (s.length : Nat)) rfl ?_;first | refine zy rfl rfl (by omega) ?_ | refine za rfl ?_
    first | refine w6 rfl rfl ?_ | refine za rfl ?_
    iterate 3 refine za rfl ?_
    first | refine za rfl ?_ | refine zd rfl rfl zj ?_ | refine ze rfl rfl rfl zj ?_
    first | refine yu rfl rfl (by omega) ?_ | refine za rfl ?_
    refine za rfl ?_;refine zb ?_;refine zf zc [] rfl ?_;refine za rfl ?_;first | refine wy rfl rfl ?_ | refine za rfl ?_
    iterate 2 refine za rfl ?_
    first | refine w6 rfl rfl ?_ | refine za rfl ?_
    iterate 2 refine za rfl ?_
    refine zb ?_;refine zn ?_;refine zf zc [] rfl ?_;iterate 3 refine za rfl ?_
    refine zb ?_;refine zm rfl (fun hc3=>?_) (fun hc3=>?_)
    ·(try simp only [zh] at hc3);rw [if_pos hc3,if_pos hc3]
     refine zw zc [] rfl ?_;iterate 3 refine za rfl ?_
     refine zk rfl rfl rfl rfl rfl yh rfl ?_;refine za rfl ?_;refine zk rfl rfl rfl rfl rfl yh rfl ?_;refine zb ?_;refine zn ?_;refine yv zc [] [_,_,_,_,_,_,_,_,_,_,_,_,_,_,_] rfl yj yj ?_;iterate 3 refine za rfl ?_
     first | refine za rfl ?_ | refine zd rfl rfl zj ?_ | refine ze rfl rfl rfl zj ?_
     iterate 4 refine za rfl ?_
     first | refine za rfl ?_ | refine zd rfl rfl zj ?_ | refine ze rfl rfl rfl zj ?_
     refine zi rfl rfl rfl (hst) ?_;iterate 5 refine za rfl ?_
     iterate 2 refine zb ?_
     refine zf zc [] rfl ?_;iterate 3 refine za rfl ?_
     refine zb ?_;refine zm rfl (fun hc4=>?_) (fun hc4=>?_)
     ·(try simp only [zh] at hc4);rw [if_pos hc4]
      refine zw zc [] rfl ?_;iterate 4 refine za rfl ?_
      first | refine za rfl ?_ | refine zd rfl rfl zj ?_ | refine ze rfl rfl rfl zj ?_
      first | refine yu rfl rfl (by omega) ?_ | refine za rfl ?_
      refine za rfl ?_;refine zk rfl rfl rfl rfl rfl yh rfl ?_;refine zb ?_;refine zf zc [] rfl ?_;first | refine za rfl ?_ | refine zd rfl rfl zj ?_ | refine ze rfl rfl rfl zj ?_
      refine zk rfl rfl rfl rfl rfl yh rfl ?_;refine zb ?_;refine zq ?_;exact ⟨trivial,_,rfl,Cv.eq rfl rfl⟩
     ·(try simp only [zh] at hc4);rw [if_neg hc4]
      refine zo ?_;refine zf zc [] rfl ?_;first | refine za rfl ?_ | refine zd rfl rfl zj ?_ | refine ze rfl rfl rfl zj ?_
      refine zk rfl rfl rfl rfl rfl yh rfl ?_;refine zb ?_;refine zq ?_;exact ⟨trivial,_,rfl,Cv.eq rfl rfl⟩
    ·(try simp only [zh] at hc3);rw [if_neg (by omega),if_neg (by omega)]
     refine zo ?_;refine zn ?_;refine yv zc [] [_,_,_,_,_,_,_,_,_,_,_,_,_,_,_] rfl yj yj ?_;iterate 3 refine za rfl ?_
     first | refine za rfl ?_ | refine zd rfl rfl zj ?_ | refine ze rfl rfl rfl zj ?_
     iterate 4 refine za rfl ?_
     first | refine za rfl ?_ | refine zd rfl rfl zj ?_ | refine ze rfl rfl rfl zj ?_
     refine zi rfl rfl rfl (hst) ?_;iterate 5 refine za rfl ?_
     iterate 2 refine zb ?_
     refine zf zc [] rfl ?_;iterate 3 refine za rfl ?_
     refine zb ?_;refine zm rfl (fun hc4=>?_) (fun hc4=>?_)
     ·(try simp only [zh] at hc4);rw [if_pos hc4]
      refine zw zc [] rfl ?_;iterate 4 refine za rfl ?_
      first | refine za rfl ?_ | refine zd rfl rfl zj ?_ | refine ze rfl rfl rfl zj ?_
      first | refine yu rfl rfl (by omega) ?_ | refine za rfl ?_
      refine za rfl ?_;refine zk rfl rfl rfl rfl rfl yh rfl ?_;refine zb ?_;refine zf zc [] rfl ?_;first | refine za rfl ?_ | refine zd rfl rfl zj ?_ | refine ze rfl rfl rfl zj ?_
      refine zk rfl rfl rfl rfl rfl yh rfl ?_;refine zb ?_;refine zq ?_;exact ⟨trivial,_,rfl,Cv.eq rfl rfl⟩
     ·(try simp only [zh] at hc4);rw [if_neg hc4]
      refine zo ?_;refine zf zc [] rfl ?_;first | refine za rfl ?_ | refine zd rfl rfl zj ?_ | refine ze rfl rfl rfl zj ?_
      refine zk rfl rfl rfl rfl rfl yh rfl ?_;refine zb ?_;refine zq ?_;exact ⟨trivial,_,rfl,Cv.eq rfl rfl⟩
   ·(try simp only [zh] at hc2);have ex : padN (s.drop e.left.toNat) e.cols = List.replicate e.cols 32:=(by rw [List.drop_eq_nil_of_le (by omega),za0]);rw [← ex]
    refine zo ?_;refine zf zc [] rfl ?_;refine za rfl ?_;refine vf (xs:=padN (s.drop e.left.toNat) e.cols) rfl rfl rfl rfl rfl rfl rfl rfl (by rw [ye,vw,su];omega) (by rw [List.drop_zero,List.take_of_length_le (by rw [ye,vw,su];omega)]) ?_;refine za rfl ?_;refine yc rfl rfl ?_;refine zk rfl rfl rfl rfl rfl yh rfl ?_;refine zb ?_;refine zf zc [] rfl ?_;iterate 3 refine za rfl ?_
    first | refine za rfl ?_ | refine zd rfl rfl zj ?_ | refine ze rfl rfl rfl zj ?_
    refine za rfl ?_;refine zi rfl rfl rfl (hpl) ?_;refine za rfl ?_;refine zb ?_;refine zf zc [] rfl ?_;iterate 3 refine za rfl ?_
    first | refine za rfl ?_ | refine zd rfl rfl zj ?_ | refine ze rfl rfl rfl zj ?_
    refine zi rfl rfl rfl (hsp) ?_;iterate 5 refine za rfl ?_
    refine zb ?_;refine zf zc [] rfl ?_;iterate 2 refine za rfl ?_
    first | refine yu rfl rfl (by omega) ?_ | refine za rfl ?_
    first | refine wy rfl rfl ?_ | refine za rfl ?_
    iterate 3 refine za rfl ?_
    first | refine za rfl ?_ | refine zd rfl rfl zj ?_ | refine ze rfl rfl rfl zj ?_
    first | refine yu rfl rfl (by omega) ?_ | refine za rfl ?_
    refine za rfl ?_;refine zb ?_;refine zf zc [] rfl ?_;iterate 2 refine za rfl ?_
    first | refine yu rfl rfl (by omega) ?_ | refine za rfl ?_
    refine za rfl ?_;refine za (t:=I64 (s.length : Nat)) rfl ?_;first | refine zy rfl rfl (by omega) ?_ | refine za rfl ?_
    first | refine w6 rfl rfl ?_ | refine za rfl ?_
    iterate 3 refine za rfl ?_
    first | refine za rfl ?_ | refine zd rfl rfl zj ?_ | refine ze rfl rfl rfl zj ?_
    first | refine yu rfl rfl (by omega) ?_ | refine za rfl ?_
    refine za rfl ?_;refine zb ?_;refine zf zc [] rfl ?_;refine za rfl ?_;first | refine wy rfl rfl ?_ | refine za rfl ?_
    iterate 2 refine za rfl ?_
    first | refine w6 rfl rfl ?_ | refine za rfl ?_
    iterate 2 refine za rfl ?_
    refine zb ?_;refine zn ?_;refine zf zc [] rfl ?_;iterate 3 refine za rfl ?_
    refine zb ?_;refine zm rfl (fun hc3=>?_) (fun hc3=>?_)
    ·(try simp only [zh] at hc3);rw [if_pos hc3,if_pos hc3]
     refine zw zc [] rfl ?_;iterate 3 refine za rfl ?_
     refine zk rfl rfl rfl rfl rfl yh rfl ?_;refine za rfl ?_;refine zk rfl rfl rfl rfl rfl yh rfl ?_;refine zb ?_;refine zn ?_;refine yv zc [] [_,_,_,_,_,_,_,_,_,_,_,_,_,_,_] rfl yj yj ?_;iterate 3 refine za rfl ?_
     first | refine za rfl ?_ | refine zd rfl rfl zj ?_ | refine ze rfl rfl rfl zj ?_
     iterate 4 refine za rfl ?_
     first | refine za rfl ?_ | refine zd rfl rfl zj ?_ | refine ze rfl rfl rfl zj ?_
     refine zi rfl rfl rfl (hst) ?_;iterate 5 refine za rfl ?_
     iterate 2 refine zb ?_
     refine zf zc [] rfl ?_;iterate 3 refine za rfl ?_
     refine zb ?_;refine zm rfl (fun hc4=>?_) (fun hc4=>?_)
     ·(try simp only [zh] at hc4);rw [if_pos hc4]
      refine zw zc [] rfl ?_;iterate 4 refine za rfl ?_
      first | refine za rfl ?_ | refine zd rfl rfl zj ?_ | refine ze rfl rfl rfl zj ?_
      first | refine yu rfl rfl (by omega) ?_ | refine za rfl ?_
      refine za rfl ?_;refine zk rfl rfl rfl rfl rfl yh rfl ?_;refine zb ?_;refine zf zc [] rfl ?_;first | refine za rfl ?_ | refine zd rfl rfl zj ?_ | refine ze rfl rfl rfl zj ?_
      refine zk rfl rfl rfl rfl rfl yh rfl ?_;refine zb ?_;refine zq ?_;exact ⟨trivial,_,rfl,Cv.eq rfl rfl⟩
     ·(try simp only [zh] at hc4);rw [if_neg hc4]
      refine zo ?_;refine zf zc [] rfl ?_;first | refine za rfl ?_ | refine zd rfl rfl zj ?_ | refine ze rfl rfl rfl zj ?_
      refine zk rfl rfl rfl rfl rfl yh rfl ?_;refine zb ?_;refine zq ?_;exact ⟨trivial,_,rfl,Cv.eq rfl rfl⟩
    ·(try simp only [zh] at hc3);rw [if_neg (by omega),if_neg (by omega)]
     refine zo ?_;refine zn ?_;refine yv zc [] [_,_,_,_,_,_,_,_,_,_,_,_,_,_,_] rfl yj yj ?_;iterate 3 refine za rfl ?_
     first | refine za rfl ?_ | refine zd rfl rfl zj ?_ | refine ze rfl rfl rfl zj ?_
     iterate 4 refine za rfl ?_
     first | refine za rfl ?_ | refine zd rfl rfl zj ?_ | refine ze rfl rfl rfl zj ?_
     refine zi rfl rfl rfl (hst) ?_;iterate 5 refine za rfl ?_
     iterate 2 refine zb ?_
     refine zf zc [] rfl ?_;iterate 3 refine za rfl ?_
     refine zb ?_;refine zm rfl (fun hc4=>?_) (fun hc4=>?_)
     ·(try simp only [zh] at hc4);rw [if_pos hc4]
      refine zw zc [] rfl ?_;iterate 4 refine za rfl ?_
      first | refine za rfl ?_ | refine zd rfl rfl zj ?_ | refine ze rfl rfl rfl zj ?_
      first | refine yu rfl rfl (by omega) ?_ | refine za rfl ?_
      refine za rfl ?_;refine zk rfl rfl rfl rfl rfl yh rfl ?_;refine zb ?_;refine zf zc [] rfl ?_;first | refine za rfl ?_ | refine zd rfl rfl zj ?_ | refine ze rfl rfl rfl zj ?_
      refine zk rfl rfl rfl rfl rfl yh rfl ?_;refine zb ?_;refine zq ?_;exact ⟨trivial,_,rfl,Cv.eq rfl rfl⟩
     ·(try simp only [zh] at hc4);rw [if_neg hc4]
      refine zo ?_;refine zf zc [] rfl ?_;first | refine za rfl ?_ | refine zd rfl rfl zj ?_ | refine ze rfl rfl rfl zj ?_
      refine zk rfl rfl rfl rfl rfl yh rfl ?_;refine zb ?_;refine zq ?_;exact ⟨trivial,_,rfl,Cv.eq rfl rfl⟩
end

section
open Go.RowKit
set_option maxRecDepth 100000
set_option maxHeartbeats 1000000
structure Ed.W (e : Ed) : Prop where
 s : 4≤e.w∧e.w≤128∧6≤e.h∧e.h≤128
 o : e.c.Ok
 t : 0≤e.top∧e.top≤4096∧0≤e.left∧e.left≤4096
theorem Ed.W.len {e : Ed} (h : e.W) : e.c.bf.text.length≤4096:=h.o.bf.len
theorem Ed.W.rows {e : Ed} (h : e.W) : e.rows≤21∧1≤e.rows∧e.cols≤32∧1≤e.cols:=by
 have:=h.s
 unfold Ed.rows Ed.cols
 omega
def Ed.lk (e : Ed) (n : Nat) : List Lk:=(List.range n).map e.look
theorem Ed.lk_len (e : Ed) (n : Nat) : (e.lk n).length = n:=by simp [Ed.lk]
theorem Ed.lk_succ (e : Ed) (n : Nat) : e.lk (n + 1) = e.lk n ++ [e.look n]:=by simp [Ed.lk,List.range_succ]
theorem Ed.lk_at (e : Ed) {n i : Nat} (h : i < n) : (e.lk n)[i]? = some (e.look i):=by simp [Ed.lk,h]
theorem look_l (e : Ed) (y : Nat) (hw : e.W) (hy : y≤100) : LookT Tryz.prog 74 [I64 y] (lkT (e.look y)) (edC e):=LookT.of_p (look_p e y hw.s hw.len hw.o.cur hw.t hy) rfl rfl (yg e) rfl
theorem rows_l (e : Ed) (h : 0≤e.h∧e.h≤1000) : LookT Tryz.prog 46 [] (I64 (e.rows : Nat)) (edC e):=LookT.of_p (rows_p e h) rfl rfl (yg e) rfl
theorem zii (e : Ed) (h : 0≤e.w∧e.w≤1000) : LookT Tryz.prog 47 [] (I64 (e.cols : Nat)) (edC e):=LookT.of_p (zcr e h) rfl rfl (yg e) rfl
theorem zdg (e : Ed) (hw : e.W) : LookT Tryz.prog 43 [] (.islc (encL cLk (e.lk e.rows)) e.rows none) (edC e):=by
 have hp:=yg e
 have hs:=hw.s
 have hr:=rows_l e (by omega)
 have hR:=hw.rows
 have hlk:=fun y (h : y≤100)=>look_l e y hw h
 have hpl:=zp cLk (e.lk e.rows)
 refine ⟨hp,rfl,by simp only [T.pure,hpl],CallT.out ?_⟩
 refine CallT.intro zc Tryz.func43 rfl (by kernel_rfl) (Nat.le_of_ble_eq_true rfl) ?_;refine zf zc [] rfl ?_;refine za rfl ?_;refine zb ?_;refine zf zc [] rfl ?_;refine za rfl ?_;refine zb ?_;refine zn ?_;refine zf zc [] rfl ?_;refine za rfl ?_;refine vn rfl rfl (hr) rfl ?_;refine za rfl ?_;refine zb ?_;refine yf ?_;refine yy (σ:=Nat) (fun i=>e.rows - i) (fun i=>i≤e.rows) (fun i=>[(7,I64 (i : Nat)),(0,.ptr 0 0),(3,.slc 1 0 i 4 none)]) (fun i=>[.c (edC e),.c (encL cLk (e.lk i))]) [6] rfl (0) ?_ ?_ ?_
 ·refine ⟨[some 0,none],rfl,yo,yn,?_,?_⟩ <;> (repeat' first | exact trivial | exact ym | exact yq | exact yp rfl | refine yb ?_ ?_ | refine z4 rfl ?_ ?_ | refine zx ?_ ?_ | refine yk rfl ?_ | fail) <;> first | exact xd | (first | exact CvL.pure hp | exact CvL.pure rfl)
 ·(try dsimp only);omega
 rintro i hi;refine zf zc [] rfl ?_;refine za rfl ?_;refine zb ?_;refine zn ?_;refine zm rfl (fun hc0=>?_) (fun hc0=>?_)
 ·(try simp only [zh] at hc0);have hx:=hlk i (by omega)
  refine zo ?_;refine zn ?_;refine yf ?_;refine zf zc [] rfl ?_;iterate 2 refine za rfl ?_
  refine zb ?_;refine zw zc [14] rfl ?_;iterate 3 refine za rfl ?_
  refine vn rfl rfl (hx) rfl ?_;refine ya rfl rfl ?_;refine' yw rfl rfl rfl rfl rfl rfl rfl rfl ?h1 ?h2 ?h3 ?h4 ?h5 ?_
  case h1=>rw [ye,zex,Ed.lk_len];(try dsimp only);omega
  case h2=>exact Nat.le_trans (Nat.mul_le_mul_right _ (show _≤1000 by omega)) (by decide)
  case h3=>omega
  case h4=>rfl
  case h5=>rfl
  refine za rfl ?_;refine zb ?_;refine zw zc [] rfl ?_;first | refine zy rfl rfl (by omega) ?_ | refine za rfl ?_
  refine za rfl ?_;refine zb ?_;refine ⟨i + 1,by (try dsimp only);omega,?_,(by refine ⟨[some 0,some 2],rfl,yo,yn,?_,?_⟩ <;> (repeat' first | exact trivial | exact ym | exact yq | exact yp rfl | refine yb ?_ ?_ | refine z4 rfl ?_ ?_ | refine zx ?_ ?_ | refine yk rfl ?_ | fail) <;> first | exact xd | (first | exact CvL.pure hp | exact CvL.pure rfl | exact Cv.slc rfl (.inl rfl) | exact CvL.eq (by rw [Ed.lk_succ,yr,List.drop_zero,List.take_of_length_le (by rw [ye,zex,Ed.lk_len];exact Nat.le_refl _)];rfl) (zp _ _)))⟩
  (try dsimp only);omega
 ·(try simp only [zh] at hc0);obtain rfl : i = e.rows:=(by omega)
  refine yz ?_;refine zf zc [] rfl ?_;iterate 2 refine za rfl ?_
  refine zb ?_;refine zq ?_;exact ⟨trivial,_,rfl,out1 rfl (CvL.pure hp) (Cv.fslc0 ⟨rfl,by simp⟩ (CvL.pure hpl))⟩
theorem op_l (e : Ed) (op : Int) : LookT Tryz.prog 77 [I64 op] (.agg (cRq.cells (e.opR op))) (edC e):=by
 have hp:=yg e
 refine ⟨hp,rfl,rfl,CallT.out ?_⟩
 refine CallT.intro zc Tryz.func77 rfl (by kernel_rfl) (Nat.le_of_ble_eq_true rfl) ?_;refine zf zc [] rfl ?_;refine yc rfl rfl ?_;refine zb ?_;refine zf zc [] rfl ?_;iterate 3 refine za rfl ?_
 first | refine za rfl ?_ | refine zd rfl rfl zj ?_ | refine ze rfl rfl rfl zj ?_
 refine za rfl ?_;refine yc rfl rfl ?_;refine za rfl ?_;refine zk rfl rfl rfl rfl rfl yh rfl ?_;refine zb ?_;refine zq ?_;exact ⟨trivial,_,rfl,out1 rfl (CvL.pure hp) (Cv.agg xq)⟩
theorem fill_l (e : Ed) (x y w h : Int) : LookT Tryz.prog 78 [I64 x,I64 y,I64 w,I64 h] (.agg (cRq.cells (e.fillR x y w h))) (edC e):=by
 have hp:=yg e
 refine ⟨hp,rfl,rfl,CallT.out ?_⟩
 refine CallT.intro zc Tryz.func78 rfl (by kernel_rfl) (Nat.le_of_ble_eq_true rfl) ?_;refine zf zc [] rfl ?_;refine yc rfl rfl ?_;refine zb ?_;refine yv zc [] [_,_,_,_,_,_,_,_,_,_,_,_,_,_,_] rfl yj yj ?_;iterate 3 refine za rfl ?_
 first | refine za rfl ?_ | refine zd rfl rfl zj ?_ | refine ze rfl rfl rfl zj ?_
 iterate 3 refine za rfl ?_
 first | refine za rfl ?_ | refine zd rfl rfl zj ?_ | refine ze rfl rfl rfl zj ?_
 refine yc rfl rfl ?_;iterate 4 refine za rfl ?_
 refine yc rfl rfl ?_;refine za rfl ?_;refine zb ?_;refine zk rfl rfl rfl rfl rfl yh rfl ?_;refine zb ?_;refine zq ?_;exact ⟨trivial,_,rfl,out1 rfl (CvL.pure hp) (Cv.agg xq)⟩
theorem zic (e : Ed) (y : Nat) (k : Lk) (hy : y≤100) (hk : -10000≤k.fm∧k.fm≤10000∧-10000≤k.tz∧k.tz≤10000∧-10000≤k.cu∧k.cu≤10000) : LookT Tryz.prog 48 [I64 y,lkT k] (rqT (e.drawnR y k)) (edC e):=by
 have hp:=yg e
 have h6:=op_l e 6
 have h3:=op_l e 3
 have hf1:=fill_l e (4 * k.fm) (6 * (y : Int)) (4 * (k.tz - k.fm)) 6
 have hf2:=fill_l e (4 * k.cu) (6 * (y : Int) + 5) 4 1
 refine ⟨hp,rfl,by simp only [T.pure,zp],CallT.out ?_⟩
 unfold Ed.drawnR
 refine CallT.intro zc Tryz.func48 rfl (by kernel_rfl) (Nat.le_of_ble_eq_true rfl) ?_;refine zf zc [5] rfl ?_;refine ya rfl rfl ?_;refine za rfl ?_;refine zb ?_;refine zf zc [] rfl ?_;refine za rfl ?_;first | refine vv rfl rfl (by omega) ?_ | refine za rfl ?_
 refine za rfl ?_;refine zb ?_;refine yv zc [] [_,_,_,_,_,_,_,_,_,_,_,_,_,_,_,_] rfl yj yj ?_;iterate 3 refine za rfl ?_
 first | refine za rfl ?_ | refine zd rfl rfl zj ?_ | refine ze rfl rfl rfl zj ?_
 iterate 3 refine za rfl ?_
 first | refine za rfl ?_ | refine zd rfl rfl zj ?_ | refine ze rfl rfl rfl zj ?_
 refine za rfl ?_;first | refine zy rfl rfl (by omega) ?_ | refine za rfl ?_
 refine yc rfl rfl ?_;refine za rfl ?_;first | refine za rfl ?_ | refine zd rfl rfl zj ?_ | refine ze rfl rfl rfl zj ?_
 refine za rfl ?_;refine yc rfl rfl ?_;refine za rfl ?_;iterate 2 refine zb ?_
 refine zn ?_;refine zf zc [] rfl ?_;refine za rfl ?_;first | refine za rfl ?_ | refine zd rfl rfl zj ?_ | refine ze rfl rfl rfl zj ?_
 refine za rfl ?_;first | refine za rfl ?_ | refine zd rfl rfl zj ?_ | refine ze rfl rfl rfl zj ?_
 refine za rfl ?_;refine zb ?_;refine zm rfl (fun hc0=>?_) (fun hc0=>?_)
 ·(try simp only [zh] at hc0);rw [if_pos hc0]
  refine ze9 zc [48] [_,_,_,_,_,_,_,_,_,_,_,_,_,_,_,_,_,_] ([.c (edC e)]) [false,false,false,false,false,false,false,false,false,false,false,false,false,false,false,false,false,false] rfl yj yj yj (by repeat' first | exact x5 | refine x8 ?_ | refine xe ?_) ?_;refine yx rfl ?_;refine yx rfl ?_;refine uw rfl rfl (h6) rfl ?_;refine yx rfl ?_;refine yx rfl ?_;first | refine yx rfl ?_ | refine VD.loadI rfl rfl zj ?_
  refine yx (t:=I64 (4 * k.fm)) (by show some (T.v (.int .i64 (IntKind.i64.wrap (4 * k.fm))),(none : Option (Nat × List T))) = _;rw [wq z8]) ?_;refine yx rfl ?_;refine yx rfl ?_;first | refine yx rfl ?_ | refine VD.loadI rfl rfl zj ?_
  refine yx rfl ?_;first | refine yx rfl ?_ | refine VD.loadI rfl rfl zj ?_
  refine yx (t:=I64 (k.tz - k.fm)) (by show some (T.v (.int .i64 (IntKind.i64.wrap (k.tz - k.fm))),(none : Option (Nat × List T))) = _;rw [wq z8]) ?_;refine yx (t:=I64 (4 * (k.tz - k.fm))) (by show some (T.v (.int .i64 (IntKind.i64.wrap (4 * (k.tz - k.fm)))),(none : Option (Nat × List T))) = _;rw [wq z8]) ?_;refine uw rfl rfl (hf1) rfl ?_;refine yx rfl ?_;refine uw rfl rfl (h3) rfl ?_;refine zbu rfl ?_;refine qj ?_;first | refine xb rfl rfl rfl rfl rfl rfl yh yh yh ?_ | refine yw rfl rfl rfl rfl rfl rfl rfl rfl yh yh yh yh yh ?_
  refine za rfl ?_;refine zb ?_;refine zn ?_;refine zf zc [] rfl ?_;refine za rfl ?_;first | refine za rfl ?_ | refine zd rfl rfl zj ?_ | refine ze rfl rfl rfl zj ?_
  refine za rfl ?_;refine zb ?_;refine zm rfl (fun hc1=>?_) (fun hc1=>?_)
  ·(try simp only [zh] at hc1);rw [if_pos hc1]
   refine zw zc [61] rfl ?_;iterate 3 refine za rfl ?_
   first | refine za rfl ?_ | refine zd rfl rfl zj ?_ | refine ze rfl rfl rfl zj ?_
   first | refine vv rfl rfl (by omega) ?_ | refine za rfl ?_
   refine za rfl ?_;first | refine zy rfl rfl (by omega) ?_ | refine za rfl ?_
   refine vn rfl rfl (hf2) rfl ?_;refine ya rfl rfl ?_;first | refine xb rfl rfl rfl rfl rfl rfl yh yh yh ?_ | refine yw rfl rfl rfl rfl rfl rfl rfl rfl yh yh yh yh yh ?_
   refine za rfl ?_;refine zb ?_;refine zf zc [] rfl ?_;iterate 2 refine za rfl ?_
   refine zb ?_;refine zq ?_;exact ⟨trivial,_,rfl,out1 rfl (CvL.pure hp) (Cv.fslc0 ⟨rfl,by simp⟩ xq)⟩
  ·(try simp only [zh] at hc1);rw [if_neg (by omega)]
   refine zo ?_;refine zf zc [] rfl ?_;iterate 2 refine za rfl ?_
   refine zb ?_;refine zq ?_;exact ⟨trivial,_,rfl,out1 rfl (CvL.pure hp) (Cv.fslc0 ⟨rfl,by simp⟩ xq)⟩
 ·(try simp only [zh] at hc0);rw [if_neg (by omega)]
  refine zo ?_;refine zn ?_;refine zf zc [] rfl ?_;refine za rfl ?_;first | refine za rfl ?_ | refine zd rfl rfl zj ?_ | refine ze rfl rfl rfl zj ?_
  refine za rfl ?_;refine zb ?_;refine zm rfl (fun hc1=>?_) (fun hc1=>?_)
  ·(try simp only [zh] at hc1);rw [if_pos hc1]
   refine zw zc [61] rfl ?_;iterate 3 refine za rfl ?_
   first | refine za rfl ?_ | refine zd rfl rfl zj ?_ | refine ze rfl rfl rfl zj ?_
   first | refine vv rfl rfl (by omega) ?_ | refine za rfl ?_
   refine za rfl ?_;first | refine zy rfl rfl (by omega) ?_ | refine za rfl ?_
   refine vn rfl rfl (hf2) rfl ?_;refine ya rfl rfl ?_;first | refine xb rfl rfl rfl rfl rfl rfl yh yh yh ?_ | refine yw rfl rfl rfl rfl rfl rfl rfl rfl yh yh yh yh yh ?_
   refine za rfl ?_;refine zb ?_;refine zf zc [] rfl ?_;iterate 2 refine za rfl ?_
   refine zb ?_;refine zq ?_;exact ⟨trivial,_,rfl,out1 rfl (CvL.pure hp) (Cv.fslc0 ⟨rfl,by simp⟩ xq)⟩
  ·(try simp only [zh] at hc1);rw [if_neg (by omega)]
   refine zo ?_;refine zf zc [] rfl ?_;iterate 2 refine za rfl ?_
   refine zb ?_;refine zq ?_;exact ⟨trivial,_,rfl,out1 rfl (CvL.pure hp) (Cv.fslc0 ⟨rfl,by simp⟩ xq)⟩
end

section
open Go.RowKit
set_option maxRecDepth 100000
set_option maxHeartbeats 1000000
abbrev Ed.wc (e : Ed) (c : Ec) : Ed:={ e with c:=c }
theorem cut_t (e : Ed) (ok : e.c.Ok) : CallT Tryz.prog 79 [.ptr 0 0] [.c (edC e)] (fun t H'=>t = BL (decide (e.c.lo≠e.c.hi))∧H' = [.c (edC (e.wc e.c.cut))]):=by
 have hp:=yg e
 have hlen:=ok.bf.len
 have hcu:=ok.cur
 have hsp:=zd3 e.c
 have hlo : e.c.lo≤e.c.hi:=by unfold Ec.lo Ec.hi;omega
 have hhi : e.c.hi≤e.c.bf.text.length:=by unfold Ec.hi;omega
 by_cases h : e.c.lo = e.c.hi
 ·have e1 : e.c.cut = e.c:=by unfold Ec.cut;rw [if_pos h]
  rw [e1]
  refine CallT.intro zc Tryz.func79 rfl (by kernel_rfl) (Nat.le_of_ble_eq_true rfl) ?_;refine zf zc [] rfl ?_;refine za rfl ?_;refine zb ?_;refine zf zc [] rfl ?_;iterate 3 refine za rfl ?_
  first | refine za rfl ?_ | refine zd rfl rfl zj ?_ | refine ze rfl rfl rfl zj ?_
  refine zi rfl rfl rfl (hsp) ?_;iterate 5 refine za rfl ?_
  refine zb ?_;refine zn ?_;refine zf zc [] rfl ?_;iterate 3 refine za rfl ?_
  refine zb ?_;refine zm rfl (fun hc0=>?_) (fun hc0=>?_)
  ·(try simp only [zh] at hc0)
   refine zf zc [] rfl ?_;refine za rfl ?_;refine zb ?_;refine zq ?_;exact ⟨trivial,_,rfl,by rw [decide_eq_false (by simpa using h)];rfl,rfl⟩
  ·exact absurd hc0 (by rw [h];simp)
 ·have e1 : e.c.cut = { e.c with bf:=e.c.bf.chg ⟨e.c.lo,(e.c.bf.text.take e.c.hi).drop e.c.lo,[]⟩,cur:=e.c.lo,anc:=e.c.lo }:=by unfold Ec.cut;rw [if_neg h]
  have hde:=zer e.c.bf e.c.lo e.c.hi (by omega) hhi ok.bf.few.1 hlen
  have hbo:=zcw { e with c:={ e.c with bf:=e.c.bf.chg ⟨e.c.lo,(e.c.bf.text.take e.c.hi).drop e.c.lo,[]⟩ } } e.c.lo
  rw [e1]
  refine CallT.intro zc Tryz.func79 rfl (by kernel_rfl) (Nat.le_of_ble_eq_true rfl) ?_;refine zf zc [] rfl ?_;refine za rfl ?_;refine zb ?_;refine zf zc [] rfl ?_;iterate 3 refine za rfl ?_
  first | refine za rfl ?_ | refine zd rfl rfl zj ?_ | refine ze rfl rfl rfl zj ?_
  refine zi rfl rfl rfl (hsp) ?_;iterate 5 refine za rfl ?_
  refine zb ?_;refine zn ?_;refine zf zc [] rfl ?_;iterate 3 refine za rfl ?_
  refine zb ?_;refine zm rfl (fun hc0=>?_) (fun hc0=>?_)
  ·(try simp only [zh] at hc0);omega
  ·(try simp only [zh] at hc0)
   refine zo ?_;refine zf zc [] rfl ?_;iterate 4 refine za rfl ?_
   first | refine za rfl ?_ | refine zd rfl rfl zj ?_ | refine ze rfl rfl rfl zj ?_
   iterate 2 refine za rfl ?_
   refine zi rfl rfl rfl (hde) ?_;iterate 5 refine za rfl ?_
   refine zk rfl rfl rfl rfl rfl yh rfl ?_;refine zb ?_;refine zf zc [] rfl ?_;iterate 4 refine za rfl ?_
   refine y7 rfl rfl (CallT.frame (hbo) [0] rfl xj xj ?_)
   rintro _ _ ⟨rfl,rfl⟩;refine frK xk xk ?_;refine zb ?_;refine zf zc [] rfl ?_;refine za rfl ?_;refine zb ?_;refine zq ?_;exact ⟨trivial,_,rfl,by rw [decide_eq_true h];rfl,rfl⟩
theorem put_t (e : Ed) (ok : e.c.Ok) (s : List UInt8) (hs : s≠[]) (hr : rightB s = true) (hl : s.length≤100000) : CallT Tryz.prog 49 [.ptr 0 0,strT s] [.c (edC e)] (fun t H'=>t = .tup []∧H' = [.c (edC (e.wc (e.c.put s)))]):=by
 have hcut:=cut_t e ok
 have ok2:=ok.cut.1
 have hlen:=ok2.bf.len
 have hcu:=ok2.cur
 unfold Ec.put
 generalize e.c.cut = c at *
 have hp:=yg (e.wc c)
 have hle:=zfl c.bf
 by_cases h : 4096 < c.bf.text.length + s.length
 ·have e1 : c.ins s = c:=by unfold Ec.ins;rw [if_pos h]
  rw [e1]
  refine CallT.intro zc Tryz.func49 rfl (by kernel_rfl) (Nat.le_of_ble_eq_true rfl) ?_;refine zf zc [] rfl ?_;refine za rfl ?_;refine y7 rfl rfl (CallT.frame (hcut) [0] rfl xj xj ?_)
  rintro _ _ ⟨rfl,rfl⟩;refine frK xk xk ?_;refine zb ?_;refine zn ?_;refine zf zc [] rfl ?_;iterate 3 refine za rfl ?_
  first | refine za rfl ?_ | refine zd rfl rfl zj ?_ | refine ze rfl rfl rfl zj ?_
  refine zi rfl rfl rfl (hle) ?_;refine za rfl ?_;refine za (t:=I64 (s.length : Nat)) rfl ?_;first | refine zy rfl rfl (by omega) ?_ | refine za rfl ?_
  refine za rfl ?_;refine zb ?_;refine zm rfl (fun hc0=>?_) (fun hc0=>?_)
  ·(try simp only [zh] at hc0)
   refine zq ?_;exact ⟨trivial,_,rfl,rfl,rfl⟩
  ·(try simp only [zh] at hc0);omega
 ·have e1 : c.ins s = { c with bf:=c.bf.chg ⟨c.cur,[],s⟩,cur:=c.cur + s.length,anc:=c.cur + s.length }:=by unfold Ec.ins;rw [if_neg h]
  have hpb:=xl (c.bf.chg ⟨c.cur,[],s⟩)
  have hin:=zj8 c.bf c.cur s hcu.1 ok2.bf.few.1 (by omega) hs hr
  have hbo:=zcw { e with c:={ c with bf:=c.bf.chg ⟨c.cur,[],s⟩ } } (c.cur + s.length)
  rw [e1]
  refine CallT.intro zc Tryz.func49 rfl (by kernel_rfl) (Nat.le_of_ble_eq_true rfl) ?_;refine zf zc [] rfl ?_;refine za rfl ?_;refine y7 rfl rfl (CallT.frame (hcut) [0] rfl xj xj ?_)
  rintro _ _ ⟨rfl,rfl⟩;refine frK xk xk ?_;refine zb ?_;refine zn ?_;refine zf zc [] rfl ?_;iterate 3 refine za rfl ?_
  first | refine za rfl ?_ | refine zd rfl rfl zj ?_ | refine ze rfl rfl rfl zj ?_
  refine zi rfl rfl rfl (hle) ?_;refine za rfl ?_;refine za (t:=I64 (s.length : Nat)) rfl ?_;first | refine zy rfl rfl (by omega) ?_ | refine za rfl ?_
  refine za rfl ?_;refine zb ?_;refine zm rfl (fun hc0=>?_) (fun hc0=>?_)
  ·(try simp only [zh] at hc0);omega
  ·(try simp only [zh] at hc0)
   refine zo ?_;refine sb zc [] [_,_,_,_,_,_,_,_,_,_,_,_,_,_,_,_] (_) rfl yj yj yj (vb _) ?_;refine u5 (l1:=[_,_,_,_,_,_,_,_,_,_,_,_,_,_]) rfl ?_;iterate 3 refine za rfl ?_
   first | refine za rfl ?_ | refine zd rfl rfl zj ?_ | refine ze rfl rfl rfl zj ?_
   iterate 4 refine za rfl ?_
   first | refine za rfl ?_ | refine zd rfl rfl zj ?_ | refine ze rfl rfl rfl zj ?_
   refine za rfl ?_;refine zi rfl rfl rfl (hin) ?_;iterate 3 refine za rfl ?_
   refine zb ?_;refine zas rfl ?_;refine rf rfl rfl rfl rfl ?_;refine qi (⟨rfl,Nat.le_of_ble_eq_true rfl,rfl,trivial⟩) ?_;refine za rfl ?_;refine zb ?_;refine xr ([(0,.ptr 0 0),(4,.ptr 1 0)]) ([.c (edC (e.wc c)),.c (bufC (c.bf.chg ⟨c.cur,[],s⟩))]) [1,5] rfl (by refine ⟨[some 0,some 1],rfl,yo,yn,?_,?_⟩ <;> (repeat' first | exact trivial | exact ym | exact yq | exact yp rfl | refine yb ?_ ?_ | refine z4 rfl ?_ ?_ | refine zx ?_ ?_ | refine yk rfl ?_ | fail) <;> first | exact xd | (first | exact CvL.pure hp | exact CvL.pure hpb)) ?_
   refine zf zc [] rfl ?_;iterate 2 refine za rfl ?_
   refine zb ?_;refine xi rfl ?_;refine zf zc [] rfl ?_;refine za rfl ?_;first | refine za rfl ?_ | refine zd rfl rfl zj ?_ | refine ze rfl rfl rfl zj ?_
   iterate 2 refine za rfl ?_
   refine zk rfl rfl rfl rfl rfl yh rfl ?_;refine zb ?_;refine xr ([(0,.ptr 0 0)]) ([.c (edC { e with c:={ c with bf:=c.bf.chg ⟨c.cur,[],s⟩ } })]) [1] rfl (by refine ⟨[some 0],rfl,yo,yn,?_,?_⟩ <;> (repeat' first | exact trivial | exact ym | exact yq | exact yp rfl | refine yb ?_ ?_ | refine z4 rfl ?_ ?_ | refine zx ?_ ?_ | refine yk rfl ?_ | fail) <;> first | exact xd | (exact CvL.eq rfl (yg _))) ?_
   refine u6 zc [] [_,_,_,_,_,_,_,_,_,_,_] rfl yj yj ?_;iterate 7 refine za rfl ?_
   first | refine za rfl ?_ | refine zd rfl rfl zj ?_ | refine ze rfl rfl rfl zj ?_
   refine za rfl ?_;refine za (t:=I64 (s.length : Nat)) rfl ?_;refine zy (a:=(c.cur : Int)) (b:=(s.length : Int)) rfl rfl z8 ?_;refine zb ?_;refine y7 rfl rfl (CallT.frame (hbo) [0] rfl xj xj ?_)
   rintro _ _ ⟨rfl,rfl⟩;refine frK xk xk ?_;refine zb ?_;exact ⟨trivial,_,rfl,rfl,rfl⟩
theorem back_t (e : Ed) (p : Bf) (b : Bool) : CallT Tryz.prog 122 [.ptr 0 0,bufT p,BL b] [.c (edC e)] (fun t H'=>t = .tup []∧H' = [.c (edC (e.wc (e.c.back (p,b))))]):=by
 have hp:=yg e
 have hpb:=xl p
 have hle:=zfl p
 cases b
 case false=>
  refine CallT.intro zc Tryz.func122 rfl (by kernel_rfl) (Nat.le_of_ble_eq_true rfl) ?_;refine zf zc [4] rfl ?_;refine ya rfl rfl ?_;refine zb ?_;refine zf zc [] rfl ?_;refine za rfl ?_;refine zb ?_;refine y8 rfl ?_;refine zo ?_;exact ⟨trivial,_,rfl,rfl,rfl⟩
 case true=>
  have hbo:=zcw { e with c:={ e.c with bf:=p } } (min e.c.cur p.text.length)
  have e1 : min (e.c.cur : Int) (p.text.length : Int) = ((min e.c.cur p.text.length : Nat) : Int):=by omega
  refine CallT.intro zc Tryz.func122 rfl (by kernel_rfl) (Nat.le_of_ble_eq_true rfl) ?_;refine zf zc [4] rfl ?_;refine ya rfl rfl ?_;refine zb ?_;refine zf zc [] rfl ?_;refine za rfl ?_;refine zb ?_;refine xi rfl ?_;refine zf zc [] rfl ?_;refine za rfl ?_;first | refine za rfl ?_ | refine zd rfl rfl zj ?_ | refine ze rfl rfl rfl zj ?_
  iterate 2 refine za rfl ?_
  refine zk rfl rfl rfl rfl rfl yh rfl ?_;refine zb ?_;refine u6 zc [] [_,_,_,_,_,_,_,_,_,_,_] rfl yj yj ?_;iterate 7 refine za rfl ?_
  first | refine za rfl ?_ | refine zd rfl rfl zj ?_ | refine ze rfl rfl rfl zj ?_
  first | refine za rfl ?_ | refine zd rfl rfl zj ?_ | refine ze rfl rfl rfl zj ?_
  refine zi rfl rfl rfl (hle) ?_;refine w6 rfl rfl ?_;rw [e1]
  refine zb ?_;refine y7 rfl rfl (CallT.frame (hbo) [0] rfl xj xj ?_)
  rintro _ _ ⟨rfl,rfl⟩;refine frK xk xk ?_;refine zb ?_;exact ⟨trivial,_,rfl,rfl,rfl⟩
theorem zck (e : Ed) (ok : e.c.Ok) (by_ : Int) (h : e.c.lo≠e.c.hi) : CallT Tryz.prog 115 [.ptr 0 0,I64 by_] [.c (edC e)] (fun t H'=>t = .tup []∧H' = [.c (edC (e.wc e.c.cut))]):=by
 have hcut:=cut_t e ok
 rw [decide_eq_true h] at hcut
 refine CallT.intro zc Tryz.func115 rfl (by kernel_rfl) (Nat.le_of_ble_eq_true rfl) ?_;refine zn ?_;refine zf zc [] rfl ?_;refine za rfl ?_;refine y7 rfl rfl (CallT.frame (hcut) [0] rfl xj xj ?_)
 rintro _ _ ⟨rfl,rfl⟩;refine frK xk xk ?_;refine zb ?_;refine xi rfl ?_;refine zq ?_;exact ⟨trivial,_,rfl,rfl,rfl⟩
theorem zen (e : Ed) (ok : e.c.Ok) (by_ : Int) (h : e.c.lo = e.c.hi) (hb : by_ = -1∧e.c.cur = 0∨by_ = 1∧e.c.bf.text.length≤e.c.cur) : CallT Tryz.prog 115 [.ptr 0 0,I64 by_] [.c (edC e)] (fun t H'=>t = .tup []∧H' = [.c (edC e)]):=by
 have hcut:=cut_t e ok
 have hcu:=ok.cur
 have hlen:=ok.bf.len
 have hle:=zfl e.c.bf
 rw [decide_eq_false (by simpa using h),show e.c.cut = e.c from by unfold Ec.cut;rw [if_pos h]] at hcut
 replace hcut : CallT Tryz.prog 79 [.ptr 0 0] [.c (edC e)] (fun t H'=>t = BL false∧H' = [.c (edC e)]):=hcut
 refine CallT.intro zc Tryz.func115 rfl (by kernel_rfl) (Nat.le_of_ble_eq_true rfl) ?_;refine zn ?_;refine zf zc [] rfl ?_;refine za rfl ?_;refine y7 rfl rfl (CallT.frame (hcut) [0] rfl xj xj ?_)
 rintro _ _ ⟨rfl,rfl⟩;refine frK xk xk ?_;refine zb ?_;refine y8 rfl ?_;refine zo ?_;refine yv zc [] [_,_,_,_,_,_,_,_,_,_,_,_,_,_] rfl yj yj ?_;iterate 4 refine za rfl ?_
 first | refine za rfl ?_ | refine zd rfl rfl zj ?_ | refine ze rfl rfl rfl zj ?_
 iterate 4 refine za rfl ?_
 first | refine za rfl ?_ | refine zd rfl rfl zj ?_ | refine ze rfl rfl rfl zj ?_
 refine za rfl ?_;first | refine zy rfl rfl (by omega) ?_ | refine za rfl ?_
 first | refine w6 rfl rfl ?_ | refine za rfl ?_
 refine za rfl ?_;iterate 2 refine zb ?_
 refine yv zc [] [_,_,_,_,_,_,_,_,_,_,_,_,_,_] rfl yj yj ?_;iterate 4 refine za rfl ?_
 first | refine za rfl ?_ | refine zd rfl rfl zj ?_ | refine ze rfl rfl rfl zj ?_
 iterate 4 refine za rfl ?_
 first | refine za rfl ?_ | refine zd rfl rfl zj ?_ | refine ze rfl rfl rfl zj ?_
 refine za rfl ?_;first | refine zy rfl rfl (by omega) ?_ | refine za rfl ?_
 first | refine wy rfl rfl ?_ | refine za rfl ?_
 refine za rfl ?_;iterate 2 refine zb ?_
 refine zn ?_;refine zf zc [] rfl ?_;iterate 3 refine za rfl ?_
 refine' zu (d:=44) [_,_,_,_,_,_,_,_] rfl ?_ rfl ?_
 rotate_left
 ·refine zt rfl rfl (fun hb3_2=>?_) (fun hb3_2=>?_)
  ·have ghb3_2:=hb3_2
   try simp only [zh,Bool.not_true,Bool.not_false] at ghb3_2
   refine za rfl ?_;refine zg rfl rfl hb3_2 ?_;refine za rfl ?_;refine zg rfl rfl hb3_2 ?_;refine za rfl ?_;refine zg rfl rfl hb3_2 ?_;refine za rfl ?_;refine zg rfl rfl hb3_2 ?_;first | refine za rfl ?_ | refine zd rfl rfl zj ?_ | refine ze rfl rfl rfl zj ?_
   refine zg rfl rfl hb3_2 ?_;refine zi rfl rfl rfl (hle) ?_;refine zg rfl rfl hb3_2 ?_;refine za rfl ?_;refine zr rfl (fun _=>rfl) ?_;exact zb ⟨rfl,rfl⟩
  ·refine zl rfl rfl hb3_2 ?_;iterate 5 refine zl rfl rfl hb3_2 ?_
   exact zr rfl (fun h=>absurd (h.symm.trans hb3_2) (by decide)) (zb ⟨rfl,rfl⟩)
 refine zb ?_;refine zm rfl (fun hc1=>?_) (fun hc1=>?_)
 ·(try simp only [zh] at hc1)
  refine zq ?_;exact ⟨trivial,_,rfl,rfl,rfl⟩
 ·(try simp only [zh] at hc1);omega
theorem zeo (e : Ed) (ok : e.c.Ok) (by_ : Int) (k : Nat) (h : e.c.lo = e.c.hi) (hk : k + 1≤e.c.bf.text.length) (h1 : min (e.c.cur : Int) (e.c.cur + by_) = k) (h2 : max (e.c.cur : Int) (e.c.cur + by_) = ((k + 1 : Nat) : Int)) (hb : -10≤by_∧by_≤10) : CallT Tryz.prog 115 [.ptr 0 0,I64 by_] [.c (edC e)] (fun t H'=>t = .tup []∧H' = [.c (edC (e.wc { e.c with bf:=e.c.bf.chg ⟨k,(e.c.bf.text.take (k + 1)).drop k,[]⟩,cur:=k,anc:=k }))]):=by
 have hcut:=cut_t e ok
 have hcu:=ok.cur
 have hlen:=ok.bf.len
 have hle:=zfl e.c.bf
 have hde:=zer e.c.bf k (k + 1) (by omega) hk ok.bf.few.1 hlen
 have hbo:=zcw { e with c:={ e.c with bf:=e.c.bf.chg ⟨k,(e.c.bf.text.take (k + 1)).drop k,[]⟩ } } k
 rw [decide_eq_false (by simpa using h),show e.c.cut = e.c from by unfold Ec.cut;rw [if_pos h]] at hcut
 replace hcut : CallT Tryz.prog 79 [.ptr 0 0] [.c (edC e)] (fun t H'=>t = BL false∧H' = [.c (edC e)]):=hcut
 refine CallT.intro zc Tryz.func115 rfl (by kernel_rfl) (Nat.le_of_ble_eq_true rfl) ?_;refine zn ?_;refine zf zc [] rfl ?_;refine za rfl ?_;refine y7 rfl rfl (CallT.frame (hcut) [0] rfl xj xj ?_)
 rintro _ _ ⟨rfl,rfl⟩;refine frK xk xk ?_;refine zb ?_;refine y8 rfl ?_;refine zo ?_;refine yv zc [] [_,_,_,_,_,_,_,_,_,_,_,_,_,_] rfl yj yj ?_;iterate 4 refine za rfl ?_
 first | refine za rfl ?_ | refine zd rfl rfl zj ?_ | refine ze rfl rfl rfl zj ?_
 iterate 4 refine za rfl ?_
 first | refine za rfl ?_ | refine zd rfl rfl zj ?_ | refine ze rfl rfl rfl zj ?_
 refine za rfl ?_;first | refine zy rfl rfl (by omega) ?_ | refine za rfl ?_
 refine w6 rfl rfl ?_;rw [h1]
 refine za rfl ?_;iterate 2 refine zb ?_
 refine yv zc [] [_,_,_,_,_,_,_,_,_,_,_,_,_,_] rfl yj yj ?_;iterate 4 refine za rfl ?_
 first | refine za rfl ?_ | refine zd rfl rfl zj ?_ | refine ze rfl rfl rfl zj ?_
 iterate 4 refine za rfl ?_
 first | refine za rfl ?_ | refine zd rfl rfl zj ?_ | refine ze rfl rfl rfl zj ?_
 refine za rfl ?_;first | refine zy rfl rfl (by omega) ?_ | refine za rfl ?_
 refine wy rfl rfl ?_;rw [h2]
 refine za rfl ?_;iterate 2 refine zb ?_
 refine zn ?_;refine zf zc [] rfl ?_;iterate 3 refine za rfl ?_
 refine' zu (d:=44) [_,_,_,_,_,_,_,_] rfl ?_ rfl ?_
 rotate_left
 ·refine zt rfl rfl (fun hb3_2=>?_) (fun hb3_2=>?_)
  ·have ghb3_2:=hb3_2
   try simp only [zh,Bool.not_true,Bool.not_false] at ghb3_2
   refine za rfl ?_;refine zg rfl rfl hb3_2 ?_;refine za rfl ?_;refine zg rfl rfl hb3_2 ?_;refine za rfl ?_;refine zg rfl rfl hb3_2 ?_;refine za rfl ?_;refine zg rfl rfl hb3_2 ?_;first | refine za rfl ?_ | refine zd rfl rfl zj ?_ | refine ze rfl rfl rfl zj ?_
   refine zg rfl rfl hb3_2 ?_;refine zi rfl rfl rfl (hle) ?_;refine zg rfl rfl hb3_2 ?_;refine za rfl ?_;refine zr rfl (fun _=>rfl) ?_;exact zb ⟨rfl,rfl⟩
  ·refine zl rfl rfl hb3_2 ?_;iterate 5 refine zl rfl rfl hb3_2 ?_
   exact zr rfl (fun h=>absurd (h.symm.trans hb3_2) (by decide)) (zb ⟨rfl,rfl⟩)
 refine zb ?_;refine zm rfl (fun hc1=>?_) (fun hc1=>?_)
 ·(try simp only [zh] at hc1);omega
 ·(try simp only [zh] at hc1)
  refine zo ?_;refine zf zc [] rfl ?_;iterate 4 refine za rfl ?_
  first | refine za rfl ?_ | refine zd rfl rfl zj ?_ | refine ze rfl rfl rfl zj ?_
  iterate 2 refine za rfl ?_
  refine zi rfl rfl rfl (hde) ?_;iterate 5 refine za rfl ?_
  refine zk rfl rfl rfl rfl rfl yh rfl ?_;refine zb ?_;refine zw zc [] rfl ?_;iterate 4 refine za rfl ?_
  refine y7 rfl rfl (CallT.frame (hbo) [0] rfl xj xj ?_)
  rintro _ _ ⟨rfl,rfl⟩;refine frK xk xk ?_;refine zb ?_;exact ⟨trivial,_,rfl,rfl,rfl⟩
theorem zkk (e : Ed) (ok : e.c.Ok) : CallT Tryz.prog 115 [.ptr 0 0,I64 (-1)] [.c (edC e)] (fun t H'=>t = .tup []∧H' = [.c (edC (e.wc e.c.erase))]):=by
 have hcu:=ok.cur
 by_cases h : e.c.lo = e.c.hi
 ·by_cases h0 : e.c.cur = 0
  ·rw [show e.c.erase = e.c from by unfold Ec.erase;rw [if_neg (by simpa using h),if_pos h0]]
   exact zen e ok _ h (.inl ⟨rfl,h0⟩)
  ·rw [show e.c.erase = { e.c with bf:=e.c.bf.chg ⟨e.c.cur - 1,(e.c.bf.text.take e.c.cur).drop (e.c.cur - 1),[]⟩,cur:=e.c.cur - 1,anc:=e.c.cur - 1 } from by unfold Ec.erase;rw [if_neg (by simpa using h),if_neg h0]]
   have:=zeo e ok (-1) (e.c.cur - 1) h (by omega) (by omega) (by omega) (by omega)
   rw [show e.c.cur - 1 + 1 = e.c.cur by omega] at this
   exact this
 ·rw [show e.c.erase = e.c.cut from by unfold Ec.erase;rw [if_pos (by simpa using h)]]
  exact zck e ok _ h
theorem zkj (e : Ed) (ok : e.c.Ok) : CallT Tryz.prog 115 [.ptr 0 0,I64 1] [.c (edC e)] (fun t H'=>t = .tup []∧H' = [.c (edC (e.wc e.c.eraseF))]):=by
 have hcu:=ok.cur
 by_cases h : e.c.lo = e.c.hi
 ·by_cases h0 : e.c.bf.text.length≤e.c.cur
  ·rw [show e.c.eraseF = e.c from by unfold Ec.eraseF;rw [if_neg (by simpa using h),if_pos h0]]
   exact zen e ok _ h (.inr ⟨rfl,h0⟩)
  ·rw [show e.c.eraseF = { e.c with bf:=e.c.bf.chg ⟨e.c.cur,(e.c.bf.text.take (e.c.cur + 1)).drop e.c.cur,[]⟩,cur:=e.c.cur,anc:=e.c.cur } from by unfold Ec.eraseF;rw [if_neg (by simpa using h),if_neg h0]]
   exact zeo e ok 1 e.c.cur h (by omega) (by omega) (by omega) (by omega)
 ·rw [show e.c.eraseF = e.c.cut from by unfold Ec.eraseF;rw [if_pos (by simpa using h)]]
  exact zck e ok _ h
end

section
open Go.RowKit
set_option maxRecDepth 100000
set_option maxHeartbeats 1000000
def Ed.cmdR (e : Ed) (code time : Int) : List Rq:=
 if code = 99 then (if e.c.lo < e.c.hi then [⟨50,[e.win,3,time],[],[]⟩] else []) else if code = 118 then [⟨52,[e.win,3,4,9,time],[],[]⟩] else []
theorem zih (e : Ed) (ok : e.c.Ok) (code time : Int) : CallT Tryz.prog 112 [.ptr 0 0,I64 code,I64 time] [.c (edC e)] (fun t H'=>t = .slc 1 0 (e.cmdR code time).length 4 none∧H' = [.c (edC (e.wc (e.c.cmd code))),.c (encL cRq (e.cmdR code time))]):=by
 have hp:=yg e
 have hun:=undo_p e.c.bf ok.bf
 have hre:=redo_p e.c.bf ok.bf
 have hbu:=back_t e e.c.bf.undo.1 e.c.bf.undo.2
 have hbr:=back_t e e.c.bf.redo.1 e.c.bf.redo.2
 have hle:=zfl e.c.bf
 have hte:=ziq e.c.bf
 have hsp:=zd3 e.c
 have hcu:=ok.cur
 have hhi : e.c.hi≤e.c.bf.text.length:=by unfold Ec.hi;omega
 refine CallT.out ?_;unfold Ed.cmdR Ec.cmd
 refine CallT.intro zc Tryz.func112 rfl (by kernel_rfl) (Nat.le_of_ble_eq_true rfl) ?_;refine zf zc [] rfl ?_;refine za rfl ?_;refine zb ?_;refine zn ?_;refine zf zc [] rfl ?_;refine za rfl ?_;refine zb ?_;refine yf ?_;refine zf zc [] rfl ?_;iterate 2 refine za rfl ?_
 refine zb ?_;refine zm rfl (fun hc0=>?_) (fun hc0=>?_)
 ·(try simp only [zh] at hc0);rw [if_pos hc0,if_neg (by omega),if_neg (by omega)]
  refine zw zc [] rfl ?_;iterate 4 refine za rfl ?_
  first | refine za rfl ?_ | refine zd rfl rfl zj ?_ | refine ze rfl rfl rfl zj ?_
  refine zi rfl rfl rfl (hun) ?_;iterate 2 refine za rfl ?_
  refine y7 rfl rfl (CallT.frame (hbu) [0] rfl xj xj ?_)
  rintro _ _ ⟨rfl,rfl⟩;refine frK xk xk ?_;refine zb ?_;refine zf zc [] rfl ?_;refine za rfl ?_;refine zb ?_;refine zq ?_;exact ⟨trivial,_,rfl,out2n rfl (CvL.eq rfl (yg _))⟩
 ·(try simp only [zh] at hc0);rw [if_neg hc0]
  refine zf zc [] rfl ?_;iterate 2 refine za rfl ?_
  refine zb ?_;refine zm rfl (fun hc1=>?_) (fun hc1=>?_)
  ·(try simp only [zh] at hc1);rw [if_pos hc1,if_neg (by omega),if_neg (by omega)]
   refine zw zc [] rfl ?_;iterate 4 refine za rfl ?_
   first | refine za rfl ?_ | refine zd rfl rfl zj ?_ | refine ze rfl rfl rfl zj ?_
   refine zi rfl rfl rfl (hre) ?_;iterate 2 refine za rfl ?_
   refine y7 rfl rfl (CallT.frame (hbr) [0] rfl xj xj ?_)
   rintro _ _ ⟨rfl,rfl⟩;refine frK xk xk ?_;refine zb ?_;refine zf zc [] rfl ?_;refine za rfl ?_;refine zb ?_;refine zq ?_;exact ⟨trivial,_,rfl,out2n rfl (CvL.eq rfl (yg _))⟩
  ·(try simp only [zh] at hc1);rw [if_neg hc1]
   refine zf zc [] rfl ?_;iterate 2 refine za rfl ?_
   refine zb ?_;refine zm rfl (fun hc2=>?_) (fun hc2=>?_)
   ·(try simp only [zh] at hc2);rw [if_pos hc2,if_neg (by omega),if_neg (by omega)]
    refine zw zc [] rfl ?_;iterate 5 refine za rfl ?_
    first | refine za rfl ?_ | refine zd rfl rfl zj ?_ | refine ze rfl rfl rfl zj ?_
    refine zi rfl rfl rfl (hle) ?_;iterate 3 refine za rfl ?_
    refine zk rfl rfl rfl rfl rfl yh rfl ?_;iterate 3 refine za rfl ?_
    refine zk rfl rfl rfl rfl rfl yh rfl ?_;refine zb ?_;refine zf zc [] rfl ?_;refine za rfl ?_;refine zb ?_;refine zq ?_;exact ⟨trivial,_,rfl,out2n rfl (CvL.eq rfl (yg _))⟩
   ·(try simp only [zh] at hc2);rw [if_neg hc2]
    refine zf zc [] rfl ?_;iterate 2 refine za rfl ?_
    refine zb ?_;refine zm rfl (fun hc3=>?_) (fun hc3=>?_)
    ·(try simp only [zh] at hc3);rw [if_pos hc3,if_pos hc3]
     refine zf zc [] rfl ?_;iterate 3 refine za rfl ?_
     first | refine za rfl ?_ | refine zd rfl rfl zj ?_ | refine ze rfl rfl rfl zj ?_
     refine zi rfl rfl rfl (hsp) ?_;iterate 5 refine za rfl ?_
     refine zb ?_;refine zf zc [] rfl ?_;iterate 3 refine za rfl ?_
     refine zb ?_;refine zm rfl (fun hc4=>?_) (fun hc4=>?_)
     ·(try simp only [zh] at hc4);rw [if_pos (by omega),if_pos (by omega)]
      refine zf zc [] rfl ?_;iterate 4 refine za rfl ?_
      first | refine za rfl ?_ | refine zd rfl rfl zj ?_ | refine ze rfl rfl rfl zj ?_
      refine zi rfl rfl rfl (hte) ?_;iterate 2 refine za rfl ?_
      refine rd (p:=e.c.lo) (r:=e.c.hi) rfl rfl rfl rfl rfl rfl rfl z8 hhi ?_;iterate 2 refine za rfl ?_
      refine zk rfl rfl rfl rfl rfl yh rfl ?_;refine zb ?_;refine xr ([(0,.ptr 0 0)]) ([.c (edC (e.wc { e.c with cop:=(e.c.bf.text.take e.c.hi).drop e.c.lo }))]) [2] rfl (by refine ⟨[some 0],rfl,yo,yn,?_,?_⟩ <;> (repeat' first | exact trivial | exact ym | exact yq | exact yp rfl | refine yb ?_ ?_ | refine z4 rfl ?_ ?_ | refine zx ?_ ?_ | refine yk rfl ?_ | fail) <;> first | exact xd | (exact CvL.eq rfl (yg _))) ?_
      refine zf zc [76] rfl ?_;iterate 3 refine za rfl ?_
      first | refine za rfl ?_ | refine zd rfl rfl zj ?_ | refine ze rfl rfl rfl zj ?_
      refine za rfl ?_;refine ya rfl rfl ?_;refine za rfl ?_;refine yc rfl rfl ?_;refine za rfl ?_;refine zb ?_;refine zq ?_;refine ⟨trivial,_,rfl,out2 (b:=0) (xs:=[_,_,_,_]) rfl rfl (CvL.eq rfl (yg _)) ?_⟩;exact xq
     ·(try simp only [zh] at hc4);rw [if_neg (by omega),if_neg (by omega)]
      refine zo ?_;refine zf zc [] rfl ?_;refine za rfl ?_;refine zb ?_;refine zq ?_;exact ⟨trivial,_,rfl,out2n rfl (CvL.eq rfl (yg _))⟩
    ·(try simp only [zh] at hc3);rw [if_neg hc3,if_neg hc3]
     refine zf zc [] rfl ?_;iterate 2 refine za rfl ?_
     refine zb ?_;refine zm rfl (fun hc5=>?_) (fun hc5=>?_)
     ·(try simp only [zh] at hc5);rw [if_pos hc5]
      refine zf zc [86] rfl ?_;iterate 3 refine za rfl ?_
      first | refine za rfl ?_ | refine zd rfl rfl zj ?_ | refine ze rfl rfl rfl zj ?_
      refine za rfl ?_;refine ya rfl rfl ?_;refine za rfl ?_;refine yc rfl rfl ?_;refine za rfl ?_;refine zb ?_;refine zq ?_;refine ⟨trivial,_,rfl,out2 (b:=0) (xs:=[_,_,_,_]) rfl rfl (CvL.eq rfl (yg _)) ?_⟩;exact xq
     ·(try simp only [zh] at hc5);rw [if_neg hc5]
      refine zo ?_;refine zf zc [] rfl ?_;refine za rfl ?_;refine zb ?_;refine zq ?_;exact ⟨trivial,_,rfl,out2n rfl (CvL.eq rfl (yg _))⟩
/- where the cursor goes -/
abbrev goK : List Value:=[.int .i64 130,.int .i64 131,.int .i64 132,.int .i64 133,.int .i64 134,.int .i64 135]
abbrev goT (a b c : T) : List T:=[.clo 125 [] [a],.clo 126 [] [a],.clo 127 [] [a,b],.clo 128 [] [a,b],.clo 129 [] [a,b,c],.clo 130 [] [a,b,c]]
abbrev ePP (e : Ed) : T:=.iptr [.iptr (edC e) 0] 0
theorem goes_t (e : Ed) (ok : e.c.Ok) : CallT Tryz.prog 114 [.ptr 0 0] [.c (edC e)] (fun t H'=>t = .om 4∧H' = [.c (edC e),.c [.ptr 0 0],.c [I64 ((spotN e.c.bf.text e.c.cur).1 : Nat)],.c [I64 ((spotN e.c.bf.text e.c.cur).2 : Nat)],.o (mapP goK (goT (.ptr 1 0) (.ptr 2 0) (.ptr 3 0)))]):=by
 have hp:=yg e
 have hst:=zgl e.c.bf e.c.cur ok.bf.len ok.cur.1
 refine CallT.intro zc Tryz.func114 rfl (by kernel_rfl) (Nat.le_of_ble_eq_true rfl) ?_;refine zf zc [] rfl ?_;refine yc rfl rfl ?_;refine za rfl ?_;refine zb ?_;refine sb zc [] [_,_,_,_,_,_,_,_,_,_,_,_,_,_,_,_] (_) rfl yj yj yj (vb _) ?_;refine u5 (l1:=[_,_,_,_,_,_,_,_,_,_,_,_,_]) rfl ?_;first | refine za rfl ?_ | refine zd rfl rfl zj ?_ | refine ze rfl rfl rfl zj ?_
 iterate 2 refine za rfl ?_
 first | refine za rfl ?_ | refine zd rfl rfl zj ?_ | refine ze rfl rfl rfl zj ?_
 first | refine za rfl ?_ | refine zd rfl rfl zj ?_ | refine ze rfl rfl rfl zj ?_
 iterate 3 refine za rfl ?_
 first | refine za rfl ?_ | refine zd rfl rfl zj ?_ | refine ze rfl rfl rfl zj ?_
 refine zi rfl rfl rfl (hst) ?_;iterate 3 refine za rfl ?_
 refine zb ?_;refine zas rfl ?_;refine u5 (l1:=[_]) rfl ?_;refine yc rfl rfl ?_;refine zb ?_;refine rf rfl rfl rfl rfl ?_;refine qi (⟨rfl,Nat.le_of_ble_eq_true rfl,rfl,trivial⟩) ?_;refine zk rfl rfl rfl rfl rfl yh rfl ?_;refine zb ?_;refine zf zc [] rfl ?_;refine zar ?_;refine za rfl ?_;refine xv zc rfl rfl rfl rfl rfl rfl rfl rfl (by first | rfl | assumption | decide) (by first | assumption | (simp;done)) ?_;refine za rfl ?_;refine xv zc rfl rfl rfl rfl rfl rfl rfl rfl (by first | rfl | assumption | decide) (by first | assumption | (simp;done)) ?_;refine za rfl ?_;refine xv zc rfl rfl rfl rfl rfl rfl rfl rfl (by first | rfl | assumption | decide) (by first | assumption | (simp;done)) ?_;refine za rfl ?_;refine xv zc rfl rfl rfl rfl rfl rfl rfl rfl (by first | rfl | assumption | decide) (by first | assumption | (simp;done)) ?_;refine za rfl ?_;refine xv zc rfl rfl rfl rfl rfl rfl rfl rfl (by first | rfl | assumption | decide) (by first | assumption | (simp;done)) ?_;refine za rfl ?_;refine xv zc rfl rfl rfl rfl rfl rfl rfl rfl (by first | rfl | assumption | decide) (by first | assumption | (simp;done)) ?_;iterate 2 refine za rfl ?_
 refine zb ?_;refine zq ?_;exact ⟨trivial,_,rfl,rfl,rfl⟩
theorem go1_p (e : Ed) (ok : e.c.Ok) : CallP Tryz.prog 125 [ePP e] (I64 (e.c.cur - 1 : Nat)):=by
 have hp:=yg e
 have hcu:=ok.cur
 have hlen:=ok.bf.len
 have e1 : max ((e.c.cur : Int) - 1) 0 = ((e.c.cur - 1 : Nat) : Int):=by omega
 refine CallP.intro2 z5 z5 ?_;refine CallT.intro zc Tryz.func125 rfl (by kernel_rfl) (Nat.le_of_ble_eq_true rfl) ?_;refine zf zc [] rfl ?_;refine za rfl ?_;refine zb ?_;refine zf zc [] rfl ?_;first | refine za rfl ?_ | refine zd rfl rfl zj ?_ | refine ze rfl rfl rfl zj ?_
 iterate 3 refine za rfl ?_
 first | refine za rfl ?_ | refine zd rfl rfl zj ?_ | refine ze rfl rfl rfl zj ?_
 first | refine yu rfl rfl (by omega) ?_ | refine za rfl ?_
 refine wy rfl rfl ?_;rw [e1]
 refine za rfl ?_;refine zb ?_;refine zq ?_;exact ⟨trivial,_,rfl,Cv.eq rfl rfl⟩
theorem go2_p (e : Ed) (ok : e.c.Ok) : CallP Tryz.prog 126 [ePP e] (I64 (min (e.c.cur + 1) e.c.bf.text.length : Nat)):=by
 have hp:=yg e
 have hcu:=ok.cur
 have hlen:=ok.bf.len
 have hle:=zfl e.c.bf
 have e1 : min ((e.c.cur : Int) + 1) (e.c.bf.text.length : Int) = ((min (e.c.cur + 1) e.c.bf.text.length : Nat) : Int):=by omega
 refine CallP.intro2 z5 z5 ?_;refine CallT.intro zc Tryz.func126 rfl (by kernel_rfl) (Nat.le_of_ble_eq_true rfl) ?_;refine zf zc [] rfl ?_;refine za rfl ?_;refine zb ?_;refine yv zc [] [_,_,_,_,_,_,_,_,_,_,_,_,_] rfl yj yj ?_;first | refine za rfl ?_ | refine zd rfl rfl zj ?_ | refine ze rfl rfl rfl zj ?_
 iterate 3 refine za rfl ?_
 first | refine za rfl ?_ | refine zd rfl rfl zj ?_ | refine ze rfl rfl rfl zj ?_
 first | refine zy rfl rfl (by omega) ?_ | refine za rfl ?_
 first | refine za rfl ?_ | refine zd rfl rfl zj ?_ | refine ze rfl rfl rfl zj ?_
 iterate 2 refine za rfl ?_
 first | refine za rfl ?_ | refine zd rfl rfl zj ?_ | refine ze rfl rfl rfl zj ?_
 refine zi rfl rfl rfl (hle) ?_;refine w6 rfl rfl ?_;rw [e1]
 refine za rfl ?_;iterate 2 refine zb ?_
 refine zq ?_;exact ⟨trivial,_,rfl,Cv.eq rfl rfl⟩
theorem go3_p (e : Ed) (ok : e.c.Ok) (a : Nat) (ha : a≤10000) : CallP Tryz.prog 127 [ePP e,.iptr [I64 a] 0] (I64 (placeN e.c.bf.text a 0 : Nat)):=by
 have hp:=yg e
 have hpl:=ro e.c.bf a 0 ok.bf.len (by omega) (by omega)
 refine CallP.intro2 z5 z5 ?_;refine CallT.intro zc Tryz.func127 rfl (by kernel_rfl) (Nat.le_of_ble_eq_true rfl) ?_;refine zf zc [] rfl ?_;refine za rfl ?_;refine zb ?_;refine yv zc [] [_,_,_,_,_,_,_] rfl yj yj ?_;first | refine za rfl ?_ | refine zd rfl rfl zj ?_ | refine ze rfl rfl rfl zj ?_
 iterate 2 refine za rfl ?_
 first | refine za rfl ?_ | refine zd rfl rfl zj ?_ | refine ze rfl rfl rfl zj ?_
 first | refine za rfl ?_ | refine zd rfl rfl zj ?_ | refine ze rfl rfl rfl zj ?_
 refine zi rfl rfl rfl (hpl) ?_;refine za rfl ?_;iterate 2 refine zb ?_
 refine zq ?_;exact ⟨trivial,_,rfl,Cv.eq rfl rfl⟩
theorem go4_p (e : Ed) (ok : e.c.Ok) (a : Nat) (ha : a≤10000) : CallP Tryz.prog 128 [ePP e,.iptr [I64 a] 0] (I64 (placeN e.c.bf.text a (lineN e.c.bf.text a).length : Nat)):=by
 have hp:=yg e
 have hlen:=ok.bf.len
 have hln:=line_p e.c.bf a hlen (by omega)
 have hll : (lineN e.c.bf.text a).length≤e.c.bf.text.length:=by unfold lineN;split;exact Nat.zero_le _;rw [List.length_drop,List.length_take];omega
 have hpl:=ro e.c.bf a (lineN e.c.bf.text a).length hlen (by omega) (by omega)
 refine CallP.intro2 z5 z5 ?_;refine CallT.intro zc Tryz.func128 rfl (by kernel_rfl) (Nat.le_of_ble_eq_true rfl) ?_;refine zf zc [] rfl ?_;refine za rfl ?_;refine zb ?_;refine yv zc [] [_,_,_,_,_,_,_,_,_,_,_,_,_,_] rfl yj yj ?_;first | refine za rfl ?_ | refine zd rfl rfl zj ?_ | refine ze rfl rfl rfl zj ?_
 iterate 2 refine za rfl ?_
 first | refine za rfl ?_ | refine zd rfl rfl zj ?_ | refine ze rfl rfl rfl zj ?_
 first | refine za rfl ?_ | refine zd rfl rfl zj ?_ | refine ze rfl rfl rfl zj ?_
 first | refine za rfl ?_ | refine zd rfl rfl zj ?_ | refine ze rfl rfl rfl zj ?_
 iterate 2 refine za rfl ?_
 first | refine za rfl ?_ | refine zd rfl rfl zj ?_ | refine ze rfl rfl rfl zj ?_
 first | refine za rfl ?_ | refine zd rfl rfl zj ?_ | refine ze rfl rfl rfl zj ?_
 refine zi rfl rfl rfl (hln) ?_;refine za (t:=I64 ((lineN e.c.bf.text a).length : Nat)) rfl ?_;refine zi rfl rfl rfl (hpl) ?_;refine za rfl ?_;iterate 2 refine zb ?_
 refine zq ?_;exact ⟨trivial,_,rfl,Cv.eq rfl rfl⟩
theorem go5_p (e : Ed) (ok : e.c.Ok) (a b : Nat) (ha : a≤10000) (hb : b≤10000) : CallP Tryz.prog 129 [ePP e,.iptr [I64 a] 0,.iptr [I64 b] 0] (I64 (placeN e.c.bf.text ((a : Int) - 1) b : Nat)):=by
 have hp:=yg e
 have hpl:=ro e.c.bf ((a : Int) - 1) b ok.bf.len (by omega) (by omega)
 refine CallP.intro2 z5 z5 ?_;refine CallT.intro zc Tryz.func129 rfl (by kernel_rfl) (Nat.le_of_ble_eq_true rfl) ?_;refine zf zc [] rfl ?_;refine za rfl ?_;refine zb ?_;refine yv zc [] [_,_,_,_,_,_,_,_,_] rfl yj yj ?_;first | refine za rfl ?_ | refine zd rfl rfl zj ?_ | refine ze rfl rfl rfl zj ?_
 iterate 2 refine za rfl ?_
 first | refine za rfl ?_ | refine zd rfl rfl zj ?_ | refine ze rfl rfl rfl zj ?_
 first | refine za rfl ?_ | refine zd rfl rfl zj ?_ | refine ze rfl rfl rfl zj ?_
 first | refine yu rfl rfl (by omega) ?_ | refine za rfl ?_
 first | refine za rfl ?_ | refine zd rfl rfl zj ?_ | refine ze rfl rfl rfl zj ?_
 refine zi rfl rfl rfl (hpl) ?_;refine za rfl ?_;iterate 2 refine zb ?_
 refine zq ?_;exact ⟨trivial,_,rfl,Cv.eq rfl rfl⟩
theorem go6_p (e : Ed) (ok : e.c.Ok) (a b : Nat) (ha : a≤10000) (hb : b≤10000) : CallP Tryz.prog 130 [ePP e,.iptr [I64 a] 0,.iptr [I64 b] 0] (I64 (placeN e.c.bf.text ((a : Int) + 1) b : Nat)):=by
 have hp:=yg e
 have hpl:=ro e.c.bf ((a : Int) + 1) b ok.bf.len (by omega) (by omega)
 refine CallP.intro2 z5 z5 ?_;refine CallT.intro zc Tryz.func130 rfl (by kernel_rfl) (Nat.le_of_ble_eq_true rfl) ?_;refine zf zc [] rfl ?_;refine za rfl ?_;refine zb ?_;refine yv zc [] [_,_,_,_,_,_,_,_,_] rfl yj yj ?_;first | refine za rfl ?_ | refine zd rfl rfl zj ?_ | refine ze rfl rfl rfl zj ?_
 iterate 2 refine za rfl ?_
 first | refine za rfl ?_ | refine zd rfl rfl zj ?_ | refine ze rfl rfl rfl zj ?_
 first | refine za rfl ?_ | refine zd rfl rfl zj ?_ | refine ze rfl rfl rfl zj ?_
 first | refine zy rfl rfl (by omega) ?_ | refine za rfl ?_
 first | refine za rfl ?_ | refine zd rfl rfl zj ?_ | refine ze rfl rfl rfl zj ?_
 refine zi rfl rfl rfl (hpl) ?_;refine za rfl ?_;iterate 2 refine zb ?_
 refine zq ?_;exact ⟨trivial,_,rfl,Cv.eq rfl rfl⟩
end

section
open Go.RowKit
set_option maxRecDepth 100000
set_option maxHeartbeats 1000000
def Ed.keyR (e : Ed) (code mods time : Int) : List Rq:=if mods = 4 then e.cmdR code time else []
abbrev KeyT (e : Ed) (code mods time : Int) (l : List Rq) (c : Ec) : Prop:=CallT Tryz.prog 85 [.ptr 0 0,I64 code,I64 mods,I64 time] [.c (edC e)] (fun t H'=>t = .slc 1 0 l.length 4 none∧H' = [.c (edC (e.wc c)),.c (encL cRq l)])
theorem key_cmd (e : Ed) (ok : e.c.Ok) (code time : Int) : KeyT e code 4 time (e.cmdR code time) (e.c.cmd code):=by
 have hc:=zih e ok code time
 have hpl:=zp cRq (e.cmdR code time)
 refine CallT.intro zc Tryz.func85 rfl (by kernel_rfl) (Nat.le_of_ble_eq_true rfl) ?_;refine zf zc [] rfl ?_;refine za rfl ?_;refine zb ?_;refine zn ?_;refine zf zc [] rfl ?_;iterate 2 refine za rfl ?_
 refine zb ?_;refine xi rfl ?_;refine zf zc [] rfl ?_;iterate 3 refine za rfl ?_
 refine y7 rfl rfl (CallT.frame (hc) [0] rfl xj xj ?_)
 rintro _ _ ⟨rfl,rfl⟩;refine frK xk xk ?_;refine za rfl ?_;refine zb ?_;refine zq ?_;exact ⟨trivial,_,rfl,rfl,rfl⟩
theorem key_big (e : Ed) (code mods time : Int) (h : 1 < mods) (h4 : mods≠4) : KeyT e code mods time [] e.c:=by
 refine CallT.out ?_;refine CallT.intro zc Tryz.func85 rfl (by kernel_rfl) (Nat.le_of_ble_eq_true rfl) ?_;refine zf zc [] rfl ?_;refine za rfl ?_;refine zb ?_;refine zn ?_;refine zf zc [] rfl ?_;iterate 2 refine za rfl ?_
 refine zb ?_;refine zm rfl (fun hc0=>?_) (fun hc0=>?_)
 ·exact absurd hc0 (by simp [h4])
 ·(try simp only [zh] at hc0)
  refine zo ?_;refine zn ?_;refine zf zc [] rfl ?_;iterate 2 refine za rfl ?_
  refine zb ?_;refine zm rfl (fun hc1=>?_) (fun hc1=>?_)
  ·(try simp only [zh] at hc1)
   refine zf zc [] rfl ?_;refine za rfl ?_;refine zb ?_;refine zq ?_;exact ⟨trivial,_,rfl,out2n rfl (CvL.pure (yg _))⟩
  ·(try simp only [zh] at hc1);omega
theorem key_put (e : Ed) (ok : e.c.Ok) (code mods time : Int) (hm : mods = 0∨mods = 1) (b : UInt8) (hl : lok code mods = true) (hb : lby code mods = (b.toNat : Int)) (hr : rightB [b] = true) : KeyT e code mods time [] (e.c.put [b]):=by
 have hle:=zbc code mods
 rw [hl,hb] at hle
 have hpu:=put_t e ok [b] (by simp) hr (by simp)
 refine CallT.out ?_;refine CallT.intro zc Tryz.func85 rfl (by kernel_rfl) (Nat.le_of_ble_eq_true rfl) ?_;refine zf zc [] rfl ?_;refine za rfl ?_;refine zb ?_;refine zn ?_;refine zf zc [] rfl ?_;iterate 2 refine za rfl ?_
 refine zb ?_;refine zm rfl (fun hc0=>?_) (fun hc0=>?_)
 ·exact absurd hc0 (by simp;omega)
 ·(try simp only [zh] at hc0)
  refine zo ?_;refine zn ?_;refine zf zc [] rfl ?_;iterate 2 refine za rfl ?_
  refine zb ?_;refine zm rfl (fun hc1=>?_) (fun hc1=>?_)
  ·(try simp only [zh] at hc1);omega
  ·(try simp only [zh] at hc1)
   refine zo ?_;refine zn ?_;refine zf zc [] rfl ?_;iterate 2 refine za rfl ?_
   refine zi rfl rfl rfl (hle) ?_;iterate 5 refine za rfl ?_
   refine zb ?_;refine zf zc [] rfl ?_;refine za rfl ?_;refine zb ?_;refine xi rfl ?_;refine zf zc [30] rfl ?_;iterate 2 refine za rfl ?_
   refine ya rfl rfl ?_;first | refine t9 (xs:=[b]) rfl rfl rfl rfl rfl rfl rfl (Nat.le_of_ble_eq_true rfl) rfl ?_ | refine vf (xs:=[b]) rfl rfl rfl rfl rfl rfl rfl rfl (Nat.le_of_ble_eq_true rfl) rfl ?_
   refine y7 rfl rfl (CallT.frame (hpu) [0] rfl xj xj ?_)
   rintro _ _ ⟨rfl,rfl⟩;refine frK xk xk ?_;refine zb ?_;refine zf zc [] rfl ?_;refine za rfl ?_;refine zb ?_;refine zq ?_;exact ⟨trivial,_,rfl,out2n rfl (CvL.pure (yg _))⟩
abbrev goH (e : Ed) : Hp:=[.c (edC e),.c [.ptr 0 0],.c [I64 ((spotN e.c.bf.text e.c.cur).1 : Nat)],.c [I64 ((spotN e.c.bf.text e.c.cur).2 : Nat)],.o (mapP goK (goT (.ptr 1 0) (.ptr 2 0) (.ptr 3 0)))]
theorem zal (e : Ed) (ok : e.c.Ok) (code mods time : Int) (hm : mods = 0∨mods = 1) (hl : lok code mods = false) (f : FuncId) (cs cs' : List T) (k : Nat)
  (hlk : mLook2 tab 159 goK (goT (.ptr 1 0) (.ptr 2 0) (.ptr 3 0)) (.int .i64 code) true = some (.tup [.clo f [] cs,BL true]))
  (hcl : CallP Tryz.prog f cs' (I64 k)) (hcv : CvL (vwL (goH e) []) cs cs') : KeyT e code mods time [] (if mods = 0 then { e.c with cur:=k,anc:=k } else { e.c with cur:=k }):=by
 have hle:=zbc code mods
 rw [hl] at hle
 have hgo:=goes_t e ok
 refine CallT.out ?_;refine CallT.intro zc Tryz.func85 rfl (by kernel_rfl) (Nat.le_of_ble_eq_true rfl) ?_;refine zf zc [] rfl ?_;refine za rfl ?_;refine zb ?_;refine zn ?_;refine zf zc [] rfl ?_;iterate 2 refine za rfl ?_
 refine zb ?_;refine zm rfl (fun hc0=>?_) (fun hc0=>?_)
 ·exact absurd hc0 (by simp;omega)
 ·(try simp only [zh] at hc0)
  refine zo ?_;refine zn ?_;refine zf zc [] rfl ?_;iterate 2 refine za rfl ?_
  refine zb ?_;refine zm rfl (fun hc1=>?_) (fun hc1=>?_)
  ·(try simp only [zh] at hc1);omega
  ·(try simp only [zh] at hc1)
   refine zo ?_;refine zn ?_;refine zf zc [] rfl ?_;iterate 2 refine za rfl ?_
   refine zi rfl rfl rfl (hle) ?_;iterate 5 refine za rfl ?_
   refine zb ?_;refine zf zc [] rfl ?_;refine za rfl ?_;refine zb ?_;refine y8 rfl ?_;refine zo ?_;refine zn ?_;refine zf zc [] rfl ?_;refine za rfl ?_;refine y7 rfl rfl (hgo.mono ?_);rintro _ _ ⟨rfl,rfl⟩
   refine za rfl ?_;refine ze4 zc rfl rfl rfl hlk ?_;iterate 5 refine za rfl ?_
   refine zb ?_;refine zf zc [] rfl ?_;refine za rfl ?_;refine zb ?_;refine xi rfl ?_;refine zf zc [] rfl ?_;iterate 2 refine za rfl ?_
   refine VX.callB rfl rfl hcl rfl hcv ?_;iterate 3 refine za rfl ?_
   refine zk rfl rfl rfl rfl rfl yh rfl ?_;refine zb ?_;refine zn ?_;refine zf zc [] rfl ?_;iterate 2 refine za rfl ?_
   refine zb ?_;refine zm rfl (fun hc4=>?_) (fun hc4=>?_)
   ·(try simp only [zh] at hc4);rw [if_pos hc4]
    refine zw zc [] rfl ?_;iterate 5 refine za rfl ?_
    first | refine za rfl ?_ | refine zd rfl rfl zj ?_ | refine ze rfl rfl rfl zj ?_
    iterate 3 refine za rfl ?_
    refine zk rfl rfl rfl rfl rfl yh rfl ?_;refine zb ?_;refine zf zc [] rfl ?_;refine za rfl ?_;refine zb ?_;refine zq ?_;exact ⟨trivial,_,rfl,out2n rfl (CvL.eq rfl (yg _))⟩
   ·(try simp only [zh] at hc4);rw [if_neg hc4]
    refine zo ?_;refine zf zc [] rfl ?_;refine za rfl ?_;refine zb ?_;refine zq ?_;exact ⟨trivial,_,rfl,out2n rfl (CvL.eq rfl (yg _))⟩
theorem goes_no (code : Int) (a b c : T) (h : code < 130∨135 < code) : mLook2 tab 159 goK (goT a b c) (.int .i64 code) true = some (.tup [.v .nilFunc,BL false]):=by
 have e : mFind (.int .i64) (.int .i64 code) goK (goT a b c) = none:=by
  simp only [mFind,likeK,if_true,Option.some.injEq,beq_iff_eq]
  rw [if_neg (by omega),if_neg (by omega),if_neg (by omega),if_neg (by omega),if_neg (by omega),if_neg (by omega)]
 unfold mLook2
 simp only [tab_159,tab_3,tab_47,e]
 rfl
def Ec.ctl (e : Ec) (code : Int) : Ec:=if code = 13 then e.put [10] else if code = 8 then e.erase else if code = 127 then e.eraseF else e
theorem key_ctl (e : Ed) (ok : e.c.Ok) (code mods time : Int) (hm : mods = 0∨mods = 1) (hl : lok code mods = false) (hg : code < 130∨135 < code) : KeyT e code mods time [] (if mods≠0 then e.c else e.c.ctl code):=by
 have hle:=zbc code mods
 rw [hl] at hle
 have hgo:=goes_t e ok
 have hlk:=goes_no code (.ptr 1 0) (.ptr 2 0) (.ptr 3 0) hg
 have hpu:=put_t e ok [10] (by simp) (by decide) (by simp)
 have heb:=zkk e ok
 have hef:=zkj e ok
 refine CallT.out ?_;unfold Ec.ctl
 refine CallT.intro zc Tryz.func85 rfl (by kernel_rfl) (Nat.le_of_ble_eq_true rfl) ?_;refine zf zc [] rfl ?_;refine za rfl ?_;refine zb ?_;refine zn ?_;refine zf zc [] rfl ?_;iterate 2 refine za rfl ?_
 refine zb ?_;refine zm rfl (fun hc0=>?_) (fun hc0=>?_)
 ·exact absurd hc0 (by simp;omega)
 ·(try simp only [zh] at hc0)
  refine zo ?_;refine zn ?_;refine zf zc [] rfl ?_;iterate 2 refine za rfl ?_
  refine zb ?_;refine zm rfl (fun hc1=>?_) (fun hc1=>?_)
  ·(try simp only [zh] at hc1);omega
  ·(try simp only [zh] at hc1)
   refine zo ?_;refine zn ?_;refine zf zc [] rfl ?_;iterate 2 refine za rfl ?_
   refine zi rfl rfl rfl (hle) ?_;iterate 5 refine za rfl ?_
   refine zb ?_;refine zf zc [] rfl ?_;refine za rfl ?_;refine zb ?_;refine y8 rfl ?_;refine zo ?_;refine zn ?_;refine zf zc [] rfl ?_;refine za rfl ?_;refine y7 rfl rfl (hgo.mono ?_);rintro _ _ ⟨rfl,rfl⟩
   refine za rfl ?_;refine ze4 zc rfl rfl rfl hlk ?_;iterate 5 refine za rfl ?_
   refine zb ?_;refine xr ([(0,.ptr 0 0),(12,BL false)]) ([.c (edC e)]) [1,2,11] rfl (by refine ⟨[some 0],rfl,yo,yn,?_,?_⟩ <;> (repeat' first | exact trivial | exact ym | exact yq | exact yp rfl | refine yb ?_ ?_ | refine z4 rfl ?_ ?_ | refine zx ?_ ?_ | refine yk rfl ?_ | fail) <;> first | exact xd | (first | exact CvL.pure (yg _) | exact Cv.pure rfl)) ?_
   refine zf zc [] rfl ?_;refine za rfl ?_;refine zb ?_;refine y8 rfl ?_;refine zo ?_;refine zn ?_;refine zf zc [] rfl ?_;iterate 2 refine za rfl ?_
   refine zb ?_;refine zm rfl (fun hc5=>?_) (fun hc5=>?_)
   ·(try simp only [zh] at hc5);rw [if_pos hc5]
    refine zf zc [] rfl ?_;refine za rfl ?_;refine zb ?_;refine zq ?_;exact ⟨trivial,_,rfl,out2n rfl (CvL.eq rfl (yg _))⟩
   ·(try simp only [zh] at hc5);rw [if_neg (by simpa using hc5)]
    refine zo ?_;refine zn ?_;refine zf zc [] rfl ?_;refine za rfl ?_;refine zb ?_;refine yf ?_;refine zf zc [] rfl ?_;iterate 2 refine za rfl ?_
    refine zb ?_;refine zm rfl (fun hc6=>?_) (fun hc6=>?_)
    ·(try simp only [zh] at hc6);rw [if_pos hc6]
     refine zw zc [] rfl ?_;refine za rfl ?_;refine y7 rfl rfl (CallT.frame (hpu) [0] rfl xj xj ?_)
     rintro _ _ ⟨rfl,rfl⟩;refine frK xk xk ?_;refine zb ?_;refine zf zc [] rfl ?_;refine za rfl ?_;refine zb ?_;refine zq ?_;exact ⟨trivial,_,rfl,out2n rfl (CvL.eq rfl (yg _))⟩
    ·(try simp only [zh] at hc6);rw [if_neg hc6]
     refine zf zc [] rfl ?_;iterate 2 refine za rfl ?_
     refine zb ?_;refine zm rfl (fun hc7=>?_) (fun hc7=>?_)
     ·(try simp only [zh] at hc7);rw [if_pos hc7]
      refine zw zc [] rfl ?_;refine za rfl ?_;refine y7 rfl rfl (CallT.frame (heb) [0] rfl xj xj ?_)
      rintro _ _ ⟨rfl,rfl⟩;refine frK xk xk ?_;refine zb ?_;refine zf zc [] rfl ?_;refine za rfl ?_;refine zb ?_;refine zq ?_;exact ⟨trivial,_,rfl,out2n rfl (CvL.eq rfl (yg _))⟩
     ·(try simp only [zh] at hc7);rw [if_neg hc7]
      refine zf zc [] rfl ?_;iterate 2 refine za rfl ?_
      refine zb ?_;refine zm rfl (fun hc8=>?_) (fun hc8=>?_)
      ·(try simp only [zh] at hc8);rw [if_pos hc8]
       refine zw zc [] rfl ?_;refine za rfl ?_;refine y7 rfl rfl (CallT.frame (hef) [0] rfl xj xj ?_)
       rintro _ _ ⟨rfl,rfl⟩;refine frK xk xk ?_;refine zb ?_;refine zf zc [] rfl ?_;refine za rfl ?_;refine zb ?_;refine zq ?_;exact ⟨trivial,_,rfl,out2n rfl (CvL.eq rfl (yg _))⟩
      ·(try simp only [zh] at hc8);rw [if_neg hc8]
       refine zo ?_;refine zf zc [] rfl ?_;refine za rfl ?_;refine zb ?_;refine zq ?_;exact ⟨trivial,_,rfl,out2n rfl (CvL.eq rfl (yg _))⟩
theorem okB_let {b : UInt8} (h : 32≤b.toNat∧b.toNat≤126) : rightB [b] = true:=by
 unfold rightB okB
 simp
 omega
theorem zj6 {code mods : Int} (h : lok code mods = true) : ∃ b : UInt8,letN code mods = some b∧lby code mods = (b.toNat : Int)∧32≤b.toNat∧b.toNat≤126:=by
 have h2 : 32≤code∧code≤126∧0≤mods∧mods≤1:=by unfold lok at h;simp at h;omega
 have hv : ∀ v : Int,32≤v→v≤126→((UInt8.ofNat v.toNat).toNat : Int) = v:=fun v h1 h2=>by rw [UInt8.toNat_ofNat'];omega
 unfold letN lby
 rw [if_neg (by omega),if_pos h]
 by_cases hc : mods = 1∧97≤code∧code≤122
 ·rw [if_pos hc]
  have:=hv (code - 32) (by omega) (by omega)
  exact ⟨_,rfl,this.symm,by omega,by omega⟩
 ·rw [if_neg hc]
  have:=hv code (by omega) (by omega)
  exact ⟨_,rfl,this.symm,by omega,by omega⟩
theorem letN_no {code mods : Int} (h : lok code mods = false) : letN code mods = none:=by
 unfold letN
 rw [if_pos]
 unfold lok at h
 simp at h
 omega
theorem key_t (e : Ed) (ok : e.c.Ok) (code mods time : Int) (hm : 0≤mods∧mods≤255) : KeyT e code mods time (e.keyR code mods time) (e.c.key code mods):=by
 have hsl:=sg e.c.bf.text e.c.cur
 have hlen:=ok.bf.len
 unfold Ed.keyR Ec.key
 by_cases h4 : mods = 4
 ·subst h4
  rw [if_pos rfl,if_pos rfl]
  exact key_cmd e ok code time
 rw [if_neg h4,if_neg h4]
 by_cases h1 : 1 < mods
 ·rw [if_pos h1]
  exact key_big e code mods time h1 h4
 rw [if_neg h1]
 have hm2 : mods = 0∨mods = 1:=by omega
 cases hl : lok code mods with
 | true=>
  obtain ⟨b,hb1,hb2,hb3⟩:=zj6 hl
  rw [hb1]
  exact key_put e ok code mods time hm2 b hl hb2 (okB_let hb3)
 | false=>
  rw [letN_no hl]
  dsimp only
  have c1 : CvL (vwL (goH e) []) [.ptr 1 0] [ePP e]:=CvL.cons (Cv.fptr ⟨rfl,by simp⟩ (CvL.cons (Cv.fptr ⟨rfl,by simp⟩ (CvL.pure (yg e))) CvL.nil)) CvL.nil
  have c2 : CvL (vwL (goH e) []) [.ptr 1 0,.ptr 2 0] [ePP e,.iptr [I64 ((spotN e.c.bf.text e.c.cur).1 : Nat)] 0]:=CvL.cons (Cv.fptr ⟨rfl,by simp⟩ (CvL.cons (Cv.fptr ⟨rfl,by simp⟩ (CvL.pure (yg e))) CvL.nil)) (CvL.cons (Cv.fptr ⟨rfl,by simp⟩ (CvL.pure rfl)) CvL.nil)
  have c3 : CvL (vwL (goH e) []) [.ptr 1 0,.ptr 2 0,.ptr 3 0] [ePP e,.iptr [I64 ((spotN e.c.bf.text e.c.cur).1 : Nat)] 0,.iptr [I64 ((spotN e.c.bf.text e.c.cur).2 : Nat)] 0]:=CvL.cons (Cv.fptr ⟨rfl,by simp⟩ (CvL.cons (Cv.fptr ⟨rfl,by simp⟩ (CvL.pure (yg e))) CvL.nil)) (CvL.cons (Cv.fptr ⟨rfl,by simp⟩ (CvL.pure rfl)) (CvL.cons (Cv.fptr ⟨rfl,by simp⟩ (CvL.pure rfl)) CvL.nil))
  unfold Ec.goes
  dsimp only
  by_cases g1 : code = 130
  ·subst g1;rw [if_pos rfl];exact zal e ok _ mods time hm2 hl _ _ _ _ rfl (go1_p e ok) c1
  rw [if_neg g1]
  by_cases g2 : code = 131
  ·subst g2;rw [if_pos rfl];exact zal e ok _ mods time hm2 hl _ _ _ _ rfl (go2_p e ok) c1
  rw [if_neg g2]
  by_cases g3 : code = 132
  ·subst g3;rw [if_pos rfl];exact zal e ok _ mods time hm2 hl _ _ _ _ rfl (go3_p e ok _ (by omega)) c2
  rw [if_neg g3]
  by_cases g4 : code = 133
  ·subst g4;rw [if_pos rfl];exact zal e ok _ mods time hm2 hl _ _ _ _ rfl (go4_p e ok _ (by omega)) c2
  rw [if_neg g4]
  by_cases g5 : code = 134
  ·subst g5;rw [if_pos rfl];exact zal e ok _ mods time hm2 hl _ _ _ _ rfl (go5_p e ok _ _ (by omega) (by omega)) c3
  rw [if_neg g5]
  by_cases g6 : code = 135
  ·subst g6;rw [if_pos rfl];exact zal e ok _ mods time hm2 hl _ _ _ _ rfl (go6_p e ok _ _ (by omega) (by omega)) c3
  rw [if_neg g6]
  exact key_ctl e ok code mods time hm2 hl (by omega)
end
end Go.Proofs.YtofmninnienjhaaGreatDoor
