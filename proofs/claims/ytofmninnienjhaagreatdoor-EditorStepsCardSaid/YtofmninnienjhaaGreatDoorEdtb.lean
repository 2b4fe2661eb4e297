/-
  The proof's lemmas, part 2.
-/
import Derived.Test.YtofmninnienjhaaGreatDoorEdta
import Derived.Scope
import Derived.Deep.AppendSrc
import Derived.Deep.Upon
import Derived.Lib.Hide
import Derived.Test.YtofmninnienjhaaGreatDoorMul
import Derived.WalkSpells
import Derived.WalkLawsBesides
import Derived.BigQuiet
import Derived.Deep.QuietTactic
import Derived.StillTailTactics
import Derived.Laws.CopyOwn
import Derived.Lib.MakeNoZero
import Derived.Lib.UnsafeStr
import Derived.Lib.SlBytesRow
import Derived.Lib.SliceRun
import Derived.Deep.RegionLaw
import Derived.Maps.RangeRun
import Derived.Lib.ConvBytes
import Derived.ChangeSlices
import Derived.ProofKit
import Derived.OpenShut
import Derived.Lib.Space
import Derived.Lib.LaidTab
namespace Go.Proofs.YtofmninnienjhaaGreatDoor
set_option linter.unusedSimpArgs false
set_option linter.unusedVariables false

section
open Go.RowKit
mutual
def wk : T→T→Prop
 | .v x,t=>t = .v x∨(x = .slice none 0 0∧(t = .islc [] 0 none∨t = .islc [] 0 (some 0)))
 | .agg a,t=>∃ b,t = .agg b∧wkL a b
 | .tup a,t=>∃ b,t = .tup b∧wkL a b
 | .clo f a c,t=>∃ b d,t = .clo f b d∧wkL a b∧wkL c d
 | .ptr b o,t=>t = .ptr b o
 | .slc b o n z c,t=>t = .slc b o n z c∨t = .slc b o n z none
 | .iptr a o,t=>∃ b,t = .iptr b o∧wkL a b
 | .islc a n c,t=>∃ b,(t = .islc b n c∨t = .islc b n none)∧wkL a b
 | .yl b,t=>t = .yl b
 | .mp ks a,t=>∃ b,t = .mp ks b∧wkL a b
 | .om b,t=>t = .om b
def wkL : List T→List T→Prop
 | [],l=>l = []
 | t :: ts,l=>∃ u us,l = u :: us∧wk t u∧wkL ts us
end
mutual
theorem wk_refl : ∀ t : T,wk t t
 | .v _=>.inl rfl
 | .agg a=>⟨a,rfl,w7 a⟩
 | .tup a=>⟨a,rfl,w7 a⟩
 | .clo _ a c=>⟨a,c,rfl,w7 a,w7 c⟩
 | .ptr _ _=>rfl
 | .slc _ _ _ _ _=>.inl rfl
 | .iptr a _=>⟨a,rfl,w7 a⟩
 | .islc a _ _=>⟨a,.inl rfl,w7 a⟩
 | .yl _=>rfl
 | .mp _ a=>⟨a,rfl,w7 a⟩
 | .om _=>rfl
theorem w7 : ∀ ts : List T,wkL ts ts
 | []=>rfl
 | t :: ts=>⟨t,ts,rfl,wk_refl t,w7 ts⟩
end
mutual
theorem Rep.wk {M : Mp} : ∀ (t t' : T) (u : Value),wk t t'→Rep M t u→Rep M t' u
 | .v x,t',u,h,r=>by
  rcases h with rfl | ⟨rfl,rfl | rfl⟩
  ·exact r
  ·obtain rfl:=r;exact ⟨none,0,rfl,Nat.le_refl _,Nat.zero_le _,fun q hq=>(by cases hq),.inl ⟨rfl,rfl⟩⟩
  ·obtain rfl:=r;exact ⟨none,0,rfl,Nat.le_refl _,Nat.zero_le _,fun q hq=>(by injection hq),.inl ⟨rfl,rfl⟩⟩
 | .agg a,_,_,⟨b,h1,h2⟩,⟨us,k1,k2⟩=>by subst h1;exact ⟨us,k1,RepL.wk a b us h2 k2⟩
 | .tup a,_,_,⟨b,h1,h2⟩,⟨us,k1,k2⟩=>by subst h1;exact ⟨us,k1,RepL.wk a b us h2 k2⟩
 | .clo _ a c,_,_,⟨b,d,h1,h2,h3⟩,⟨us,ws,k1,k2,k3⟩=>by subst h1;exact ⟨us,ws,k1,RepL.wk a b us h2 k2,RepL.wk c d ws h3 k3⟩
 | .ptr _ _,_,_,h,r=>by obtain rfl:=h;exact r
 | .slc _ _ _ _ c,_,_,h,r=>by
  rcases h with rfl | rfl
  ·exact r
  ·rcases r with ⟨h1,h2,h3,h4,h5⟩ | ⟨B,O,k,h1,h2,h3,h4,h5,h6⟩
   ·exact .inl ⟨h1,h2,h3,fun q hq=>(by cases hq),h5⟩
   ·exact .inr ⟨B,O,k,h1,h2,h3,h4,fun q hq=>(by cases hq),h6⟩
 | .iptr a _,_,_,⟨b,h1,h2⟩,⟨B,O,ar,k1,k2,k3⟩=>by subst h1;exact ⟨B,O,ar,k1,k2,RepA.wk a b ar O h2 k3⟩
 | .islc a n c,_,_,⟨b,h1,h2⟩,⟨A,k,k1,k2,k3,k4,k5⟩=>by
  have key : ([] = b∧n = 0∨∃ B O ar,A = some ⟨B,O,none⟩∧M.imm B ar∧RepA M b ar O):=by
   rcases k5 with ⟨rfl,k6⟩ | ⟨B,O,ar,k6,k7,k8⟩
   ·exact .inl ⟨h2.symm,k6⟩
   ·exact .inr ⟨B,O,ar,k6,k7,RepA.wk a b ar O h2 k8⟩
  rcases h1 with rfl | rfl
  ·exact ⟨A,k,k1,k2,k3,k4,key.imp (fun h=>⟨h.1.symm,h.2⟩) (fun h=>h)⟩
  ·exact ⟨A,k,k1,k2,k3,fun q hq=>(by cases hq),key.imp (fun h=>⟨h.1.symm,h.2⟩) (fun h=>h)⟩
 | .yl _,_,_,h,r=>by obtain rfl:=h;exact r
 | .mp _ a,_,_,⟨b,h1,h2⟩,⟨r,es,n,us,k1,k2,k3,k4,k5⟩=>by subst h1;exact ⟨r,es,n,us,k1,k2,k3,k4,RepL.wk a b us h2 k5⟩
 | .om _,_,_,h,r=>by obtain rfl:=h;exact r
theorem RepL.wk {M : Mp} : ∀ (ts ts' : List T) (us : List Value),wkL ts ts'→RepL M ts us→RepL M ts' us
 | [],_,_,h,r=>by obtain rfl:=h;exact r
 | t :: ts,_,_,⟨x,xs,h1,h2,h3⟩,⟨u,r,k1,k2,k3⟩=>by subst h1;exact ⟨u,r,k1,Rep.wk t x u h2 k2,RepL.wk ts xs r h3 k3⟩
theorem RepA.wk {M : Mp} : ∀ (ts ts' : List T) (a : Array Value) (j : Nat),wkL ts ts'→RepA M ts a j→RepA M ts' a j
 | [],_,_,_,h,r=>by obtain rfl:=h;exact r
 | t :: ts,_,a,j,⟨x,xs,h1,h2,h3⟩,⟨u,k1,k2,k3⟩=>by subst h1;exact ⟨u,k1,Rep.wk t x u h2 k2,RepA.wk ts xs a (j + 1) h3 k3⟩
end
def wkE : Env→Env→Prop
 | [],_=>True
 | (d,t) :: r,E=>(∃ s,E.get d = some s∧wk s t)∧wkE r E
def wkH : Hp→Hp→Prop
 | [],H=>H = []
 | .c a :: r,H=>∃ b H',H = .c b :: H'∧wkL a b∧wkH r H'
 | .o p :: r,H=>∃ H',H = .o p :: H'∧wkH r H'
 | .d :: r,H=>∃ H',H = .d :: H'∧wkH r H'
theorem sd : ∀ H : Hp,wkH H H
 | []=>rfl
 | .c a :: r=>⟨a,r,rfl,w7 a,sd r⟩
 | .o _ :: r=>⟨r,rfl,sd r⟩
 | .d :: r=>⟨r,rfl,sd r⟩
theorem zf1 : ∀ {L E : Env},wkE L E→∀ d t,L.get d = some t→∃ s,E.get d = some s∧wk s t
 | [],_,_,d,t,h=>by cases h
 | (k,x) :: r,E,⟨h1,h2⟩,d,t,h=>by
  simp only [Env.get] at h
  split at h
  ·rename_i hk;subst hk;injection h with h;subst h;exact h1
  ·exact zf1 h2 d t h
theorem u7 : ∀ {H H' : Hp},wkH H H'→H'.length = H.length
 | [],_,h=>by obtain rfl:=h;rfl
 | .c _ :: r,_,⟨b,H',h1,_,h2⟩=>by subst h1;simp [u7 h2]
 | .o _ :: r,_,⟨H',h1,h2⟩=>by subst h1;simp [u7 h2]
 | .d :: r,_,⟨H',h1,h2⟩=>by subst h1;simp [u7 h2]
def wkB : Blk→Blk→Prop
 | .c a,x=>∃ b,x = .c b∧wkL a b
 | y,x=>x = y
theorem rh : ∀ {H H' : Hp},wkH H H'→∀ b,wkB (blkH H b) (blkH H' b)
 | [],_,h,b=>by obtain rfl:=h;rfl
 | .c a :: r,_,⟨c,H',h1,h2,h3⟩,0=>by subst h1;exact ⟨c,rfl,h2⟩
 | .c a :: r,_,⟨c,H',h1,h2,h3⟩,b + 1=>by subst h1;exact rh h3 b
 | .o p :: r,_,⟨H',h1,h2⟩,0=>by subst h1;rfl
 | .o p :: r,_,⟨H',h1,h2⟩,b + 1=>by subst h1;exact rh h2 b
 | .d :: r,_,⟨H',h1,h2⟩,0=>by subst h1;rfl
 | .d :: r,_,⟨H',h1,h2⟩,b + 1=>by subst h1;exact rh h2 b
section
variable {z : Bool} {P : Program} {tab : Tab} {n kb lb : Nat} {E : Env} {H : Hp} {QT : Exit→Env→Hp→Prop} {X0 : Nat→Prop} {a : Act} {M : Mp}
theorem SimH.wk [Dr] {H' : Hp} (h : SimH H X0 M) (hw : wkH H H') : SimH H' X0 M:=by
 have hlen:=u7 hw
 have hnd : ∀ b,blkH H' b≠.d↔blkH H b≠.d:=fun b=>by
  have:=rh hw b
  cases hx : blkH H b with
  | c a=>rw [hx] at this;obtain ⟨c,h1,-⟩:=this;rw [h1];simp
  | o p=>rw [hx] at this;rw [this]
  | d=>rw [hx] at this;rw [this]
 refine ⟨fun b cs hl hd=>?_,fun b p hl hd=>?_,fun b b' B O O' h1 h2=>h.inj b b' B O O' ((hnd b).1 h1) ((hnd b').1 h2),fun b hb=>h.dom b (by simpa only [hlen] using hb),fun B=>?_,h.bnd,h.glo⟩
 ·have hd : b < H.length:=by simpa only [hlen] using hd
  have hb:=rh hw b
  rw [hl] at hb
  cases hx : blkH H b with
  | c a=>
   rw [hx] at hb
   obtain ⟨c,h1,h2⟩:=hb
   injection h1 with h1;subst h1
   rcases h.live b a hx hd with ⟨k1,k2⟩ | ⟨B,O,ar,e,fz,k1,k2,k3,k4,k5⟩
   ·subst k2;exact .inl ⟨k1,h2⟩
   ·exact .inr ⟨B,O,ar,e,fz,k1,k2,k3,RepA.wk _ _ _ _ h2 k4,k5⟩
  | o p=>rw [hx] at hb;cases hb
  | d=>rw [hx] at hb;cases hb
 ·have hd : b < H.length:=by simpa only [hlen] using hd
  have hb:=rh hw b
  rw [hl] at hb
  cases hx : blkH H b with
  | c a=>rw [hx] at hb;obtain ⟨c,h1,-⟩:=hb;cases h1
  | o q=>rw [hx] at hb;injection hb with hb;subst hb;exact h.liveo b _ hx hd
  | d=>rw [hx] at hb;cases hb
 ·rw [h.own B]
  constructor
  ·rintro (k | ⟨b,O,k1,k2⟩)
   ·exact .inl k
   ·exact .inr ⟨b,O,(hnd b).2 k1,k2⟩
  ·rintro (k | ⟨b,O,k1,k2⟩)
   ·exact .inl k
   ·exact .inr ⟨b,O,(hnd b).1 k1,k2⟩
theorem St.wk [Dr] {L : Env} {H' : Hp} (h : St n kb E H X0 a M) (hl : wkE L E) (hw : wkH H H') : St n kb L H' X0 a M:=
 ⟨fun d t ht=>by obtain ⟨s,h1,h2⟩:=zf1 hl d t ht;obtain ⟨u,h3,h4⟩:=h.tm d s h1;exact ⟨u,h3,Rep.wk _ _ _ h2 h4⟩,h.sz,h.df,h.ge,h.sim.wk hw⟩
theorem VC.wk [Dr] {c : Code} (L : Env) (H' : Hp) (hl : wkE L E) (hw : wkH H H') (h : VC z P n lb c QT L H') : VC z P n lb c QT E H:=fun X0 M a r kb hz hs=>h X0 M a r kb hz (hs.wk hl hw)
theorem VC.cut [Dr] {x y : Code} (R : Env→Hp→Prop) (hx : VC z P n lb x (ExThen (fun E' H'=>∃ L H'',R L H''∧wkE L E'∧wkH H' H'') QT) E H) (hy : ∀ E H,R E H→VC z P n lb y QT E H) : VC z P n lb (.seq x y) QT E H:=by
 refine zn (hx.mono fun e E' H' h=>?_)
 cases e with
 | normal=>obtain ⟨L,H'',h1,h2,h3⟩:=h;exact VC.wk L H'' h2 h3 (hy L H'' h1)
 | _=>exact h
theorem CallT.arg [Dr] {f : FuncId} {args args' : List T} {H H' : Hp} {Q : T→Hp→Prop} (ha : wkL args args') (hw : wkH H H') (h : CallT P f args' H' Q) : CallT P f args H Q:=
 ⟨h.1,fun X0 M us hS hr=>h.2 X0 M us (hS.wk hw) (RepL.wk _ _ _ ha hr)⟩
theorem CallT.res [Dr] {f : FuncId} {args : List T} {H : Hp} {Q : T→Hp→Prop} (h : CallT P f args H fun t H'=>∃ t' H'',wk t t'∧wkH H' H''∧Q t' H'') : CallT P f args H Q:=
 ⟨h.1,fun X0 M us hS hr=>(h.2 X0 M us hS hr).mono fun e w' ⟨u,t,H',M',h1,h2,⟨t',H'',k1,k2,k3⟩,h4,h5,h6⟩=>⟨u,t',H'',M',h1,h2,k3,h4,h5.wk k2,Rep.wk _ _ _ k1 h6⟩⟩
theorem CallP.intro [Dr] {f : FuncId} {args : List T} {r : T} (ha : T.pureL args = true) (hr : r.pure = true) (h : CallT P f args [] (fun t _=>wk t r)) : CallP P f args r:=
 ⟨ha,hr,CallT.res (h.mono fun t H' hw=>⟨r,H',hw,sd H',rfl⟩)⟩
theorem CallP.arg [Dr] {f : FuncId} {args args' : List T} {r : T} (ha : wkL args args') (hp : T.pureL args = true) (h : CallP P f args' r) : CallP P f args r:=
 ⟨hp,h.2.1,h.2.2.arg ha (sd [])⟩
end
end

section
open Go.RowKit
theorem Sim.newo [Dr] {blk : Nat→Blk} {D X0 : Nat→Prop} {M : Mp} (h : Sim blk D X0 M) {nx : Nat} (hn : ¬ D nx) {q : OP} {o' : Obj} {w : World} (hw : w.heap = M.w.heap.push o') (ho : w.os = M.w.os) (ht : Tp M.w w) (hu : w.output = M.w.output)
  (hn' : ∀ a e fz,o'≠.cells a e fz) (hc : q.p M o') :
  Evo X0 M (newM M nx w)∧Sim (fun b=>if b = nx then .o q else blk b) (fun b=>D b∨b = nx) X0 (newM M nx w):=by
 have hnb : M.β nx = none:=h.dom nx hn
 have hE : Evo X0 M (newM M nx w):=by
  refine ⟨fun b p hp=>?_,fun B hB hx=>?_,fun B hB _=>?_,fun B s hs=>?_,ho,ht,hu,?_⟩
  ·show (if b = nx then _ else M.β b) = _
   rw [if_neg (fun e=>by subst e;rw [hnb] at hp;cases hp)];exact hp
  ·show ¬ (M.X B∨B = M.w.heap.size)
   exact fun hh=>hh.elim hx (by omega)
  ·show w.heap[B]? = _
   rw [hw,xg,if_neg (by omega)]
  ·rw [← hs]
   refine xp ?_;show w.heap[B]? = _
   have : B < M.w.heap.size:=by
    rcases Nat.lt_or_ge B M.w.heap.size with h1 | h1
    ·exact h1
    ·simp [World.shape?,Array.getElem?_eq_none h1] at hs
   rw [hw,xg,if_neg (by omega)]
  ·show _≤w.heap.size
   rw [hw];simp
 have hnew : (newM M nx w).w.heap[M.w.heap.size]? = some o':=by
  show w.heap[_]? = _
  rw [hw,xg,if_pos rfl]
 have hold : ∀ b p,M.β b = some p→b≠nx:=fun b p hp e=>by subst e;rw [hnb] at hp;cases hp
 have hβ : ∀ b,b≠nx→(newM M nx w).β b = M.β b:=fun b hb=>if_neg hb
 refine ⟨hE,fun b cells hb hd=>?_,fun b p hb hd=>?_,fun b b' B O O' h1 h2 h3 h4=>?_,fun b hb=>?_,fun B=>?_,fun B hB=>?_,Glo.evo hE h.glo⟩
 ·by_cases hbn : b = nx
  ·subst hbn;simp only [if_true] at hb;cases hb
  ·simp only [hbn,if_false] at hb
   have hd' : D b:=hd.resolve_right hbn
   rcases h.live b cells hb hd' with ⟨h1,h2⟩ | ⟨B,O,a',e',fz',h1,h2,h3,h4,h5,h6⟩
   ·exact .inl ⟨by rw [hβ b hbn];exact h1,h2⟩
   ·refine .inr ⟨B,O,a',e',fz',by rw [hβ b hbn];exact h1,?_,h3,RepA.stays hE.stays _ _ _ h4,h5,h6⟩
    show w.heap[B]? = _
    rw [hw,xg,if_neg (by have:=wn h2;omega)];exact h2
 ·by_cases hbn : b = nx
  ·subst hbn
   simp only [if_true] at hb
   injection hb with hb;subst hb
   refine ⟨M.w.heap.size,o',by show (if _ then _ else _) = _;rw [if_pos rfl],hnew,hn',q.st hE.stays hc,fun hx=>?_⟩
   have:=h.bnd _ ((h.own _).2 (.inl hx));omega
  ·simp only [hbn,if_false] at hb
   obtain ⟨B,o,h1,h2,h3,h4,h5⟩:=h.liveo b p hb (hd.resolve_right hbn)
   refine ⟨B,o,by rw [hβ b hbn];exact h1,?_,h3,p.st hE.stays h4,h5⟩
   show w.heap[B]? = _
   rw [hw,xg,if_neg (by have:=wn h2;omega)];exact h2
 ·have hlt : ∀ c p q,c≠nx→blk c≠.d→M.β c = some (some (p,q))→p < M.w.heap.size:=fun c p q _ hl hc=>h.bnd p ((h.own p).2 (.inr ⟨c,q,hl,hc⟩))
  by_cases hb : b = nx <;> by_cases hb' : b' = nx
  ·rw [hb,hb']
  ·subst hb
   simp only [hb',if_false] at h2
   rw [hβ b' hb'] at h4
   have h3 : (if b = b then some (some (M.w.heap.size,0)) else M.β b) = some (some (B,O)):=h3
   rw [if_pos rfl] at h3
   injection h3 with h3;injection h3 with h3;injection h3 with e1 e2
   have:=hlt b' B O' hb' h2 h4;omega
  ·subst hb'
   simp only [hb,if_false] at h1
   rw [hβ b hb] at h3
   have h4 : (if b' = b' then some (some (M.w.heap.size,0)) else M.β b') = some (some (B,O')):=h4
   rw [if_pos rfl] at h4
   injection h4 with h4;injection h4 with h4;injection h4 with e1 e2
   have:=hlt b B O hb h1 h3;omega
  ·simp only [hb,hb',if_false] at h1 h2
   rw [hβ b hb] at h3;rw [hβ b' hb'] at h4
   exact h.inj b b' B O O' h1 h2 h3 h4
 ·have hb' : b≠nx:=fun e=>hb (.inr e)
  rw [hβ b hb']
  exact h.dom b fun hd=>hb (.inl hd)
 ·show (M.X B∨B = M.w.heap.size)↔_
  constructor
  ·rintro (hx | rfl)
   ·rcases (h.own B).1 hx with h1 | ⟨b,O,h1,h2⟩
    ·exact .inl h1
    ·have hbn:=hold b _ h2
     exact .inr ⟨b,O,by simp only [hbn,if_false];exact h1,by rw [hβ b hbn];exact h2⟩
   ·exact .inr ⟨nx,0,by simp,by show (if _ then _ else _) = _;rw [if_pos rfl]⟩
  ·rintro (h1 | ⟨b,O,h1,h2⟩)
   ·exact .inl ((h.own B).2 (.inl h1))
   ·by_cases hbn : b = nx
    ·subst hbn
     have h2 : (if b = b then some (some (M.w.heap.size,0)) else M.β b) = some (some (B,O)):=h2
     rw [if_pos rfl] at h2
     injection h2 with h2;injection h2 with h2;injection h2 with e1 e2
     exact .inr e1.symm
    ·simp only [hbn,if_false] at h1
     rw [hβ b hbn] at h2
     exact .inl ((h.own B).2 (.inr ⟨b,O,h1,h2⟩))
 ·have hB : M.X B∨B = M.w.heap.size:=hB
  show B < w.heap.size
  rw [hw,Array.size_push]
  rcases hB with hB | hB
  ·have:=h.bnd B hB;omega
  ·omega
def _root_.Go.Loop.at (L : Loop) (s : LoopState) (j : Option Code) : Loop:={ L with state:=s,pending:=j }
def recP (n : Nat) (L : Loop) (E : Env) : OP :=
  ⟨fun M o => o = .loop L ∧ L.tmps.size = n ∧ ∀ d t, E.get d = some t → ∃ u, L.tmps[d]? = some u ∧ Rep M t u,
   fun h ⟨h1, h2, h3⟩ => ⟨h1, h2, fun d t ht => by obtain ⟨u, k1, k2⟩ := h3 d t ht; exact ⟨u, k1, Rep.stays h _ _ k2⟩⟩, false, fun h => by cases h⟩
section
variable {z : Bool} {P : Program} {tab : Tab} {n kb lb : Nat} {E : Env} {H : Hp} {QT : Exit→Env→Hp→Prop} {X0 : Nat→Prop} {a : Act} {M : Mp}
theorem St.evo [Dr] {M' : Mp} {H' : Hp} (h : St n kb E H X0 a M) (hE : Evo X0 M M') (hS : SimH H' X0 M') : St n kb E H' X0 a M':=
 ⟨fun d t ht=>by obtain ⟨u,h1,h2⟩:=h.tm d t ht;exact ⟨u,h1,Rep.stays hE.stays _ _ h2⟩,h.sz,h.df.evo hE,Nat.le_trans h.ge hE.size,hS⟩
theorem Sim.setr [Dr] {b B O : Nat} {L L' : Loop} {E : Env} (h : SimH H X0 M) (hc : blkH H b = .o (recP n L E)) (hB : M.β b = some (some (B,O))) (hs : L'.tmps = L.tmps) :
  O = 0∧M.w.heap[B]? = some (.loop L)∧Evo X0 M (atW M (M.w.putObj B (.loop L')))∧SimH (setH H b (.o (recP n L' E))) X0 (atW M (M.w.putObj B (.loop L'))):=by
 have hb : b < H.length:=xa (by rw [hc];simp)
 obtain ⟨B',o,k1,k2,k3,⟨k4,k5,k6⟩,k7⟩:=h.liveo b _ hc hb
 rw [hB] at k1;injection k1 with k1;injection k1 with k1;injection k1 with e1 e2;subst e1 e2 k4
 obtain ⟨g1,g2⟩:=Sim.writeo (o':=.loop L') (p':=recP n L' E) h hB hc k7 k2 k3 rfl (by simp) ⟨rfl,by rw [hs];exact k5,fun d t ht=>by rw [hs];exact k6 d t ht⟩
 exact ⟨rfl,k2,g1,SimH.set hb g2⟩
def putPs : List Nat→List T→Env→Env
 | p :: ps,t :: ts,E=>putPs ps ts (E.put (some p) t)
 | _,_,E=>E
theorem zb7 : ∀ (ps : List Nat) (ts : List T) (us : List Value) (E : Env) (tmps : Array Value),RepL M ts us→(∀ p∈ps,p < n)→tmps.size = n→(∀ d t,E.get d = some t→∃ u,tmps[d]? = some u∧Rep M t u)→
  ((ps.zip us).foldl (fun tmps x=>tmps.setIfInBounds x.1 x.2) tmps).size = n∧∀ d t,(putPs ps ts E).get d = some t→∃ u,((ps.zip us).foldl (fun tmps x=>tmps.setIfInBounds x.1 x.2) tmps)[d]? = some u∧Rep M t u
 | [],_,_,_,_,_,_,h,k=>by simpa [putPs] using ⟨h,k⟩
 | _ :: _,[],us,_,_,hr,_,h,k=>by obtain rfl:=hr;simpa [putPs] using ⟨h,k⟩
 | p :: ps,t :: ts,_,E,tmps,⟨u,us,h1,h2,h3⟩,hp,h,k=>by
  subst h1
  simp only [List.zip_cons_cons,List.foldl_cons,putPs]
  refine zb7 ps ts us _ _ h3 (fun q hq=>hp q (List.mem_cons_of_mem _ hq)) (by simpa using h) fun d s hd=>?_
  rw [v6] at hd
  split at hd
  ·rename_i hk;subst hk
   injection hd with hd;subst hd
   exact ⟨u,by rw [Array.getElem?_setIfInBounds_self_of_lt (by rw [h];exact hp _ List.mem_cons_self)],h2⟩
  ·rename_i hk
   obtain ⟨v,g1,g2⟩:=k d s hd
   exact ⟨v,by rw [Array.getElem?_setIfInBounds_ne (by first | exact hk | exact fun e=>hk e.symm | exact fun e=>hk (by rw [e]))];exact g1,g2⟩
def roundQ (n b : Nat) (L : Loop) (E0 : Env) (Q : T→Hp→Prop) : Exit→Env→Hp→Prop
 | .normal,_,H=>blkH H b = .o (recP n (L.at .busy none) E0)∧Q (.v (.bool true)) (setH H b (.o (recP n (L.at .ready none) E0)))
 | .ret,_,H=>blkH H b = .o (recP n (L.at .busy none) E0)∧Q (.v (.bool false)) (setH H b (.o (recP n (L.at .done (some .ret)) E0)))
 | .exit id,_,H=>blkH H b = .o (recP n (L.at .busy none) E0)∧Q (.v (.bool false)) (setH H b (.o (recP n (L.at .done (some (.exit id))) E0)))
 | _,_,_=>False
theorem YieldT.intro [Dr] {L : Loop} {b : Nat} {args : List T} {Q : T→Hp→Prop} (hc : blkH H b = .o (recP n (L.at .ready none) E)) (hps : ∀ p∈L.params.toList,p < n) (hlen : args.length = L.params.size)
  (h : VC false P n H.length L.assign (ExThen (fun E1 H1=>blkH H1 b = .o (recP n (L.at .ready none) E)∧VC false P n H.length L.body (roundQ n b L E Q) E1 (setH H1 b (.o (recP n (L.at .busy none) E)))) (fun _ _ _=>False)) (putPs L.params.toList args E) H) : YieldT P b args H Q:=by
 intro X0 M B O us hS hB hr
 have hb : b < H.length:=xa (by rw [hc];simp)
 obtain ⟨B',o,k1,k2,k3,⟨k4,k5,k6⟩,k7⟩:=hS.liveo b _ hc hb
 rw [hB] at k1;injection k1 with k1;injection k1 with k1;injection k1 with e1 e2;subst e1 e2 k4
 obtain ⟨p1,p2⟩:=zb7 L.params.toList args us E L.tmps hr hps k5 k6
 have hul:=hr.length
 refine ⟨L.fn,_,L.assign,L.body,run_yield (r:=L.at .ready none) k2 (by show us.toArray.size = L.params.size;simp;omega),fun r=>roundIn_of_wpIn trivial ?_⟩
 have hfold : ((L.at .ready none).params.zip us.toArray).foldl (fun tmps x=>tmps.setIfInBounds x.1 x.2) (L.at .ready none).tmps = (L.params.toList.zip us).foldl (fun tmps x=>tmps.setIfInBounds x.1 x.2) L.tmps:=by
  rw [← Array.foldl_toList,Array.toList_zip];rfl
 have hs : St n M.w.heap.size (putPs L.params.toList args E) H X0 { tmps:=((L.at .ready none).params.zip us.toArray).foldl (fun tmps x=>tmps.setIfInBounds x.1 x.2) (L.at .ready none).tmps,defers:=[] } M:=by
  rw [hfold];exact ⟨p2,p1,trivial,Nat.le_refl _,hS⟩
 refine wpIn_mono (h X0 M _ (some B) _ (by simp) hs) ?_;rintro e a1 w1 ⟨E1,H1,M1,q1,rfl,q3,q4⟩;cases e with
 | normal=>
  obtain ⟨q5,q6⟩:=q1
  have hB1:=q3.at_ _ _ hb hB
  obtain ⟨-,g1,g2,g3⟩:=Sim.setr (L':=L.at .busy none) q4.sim q5 hB1 rfl
  refine ⟨_,run_beginRound g1 rfl,?_⟩
  refine wpIn_mono (q6 X0 _ a1 (some B) _ (by simp) (q4.evo g2 g3)) ?_;rintro e a2 w2 ⟨E2,H2,M2,j1,rfl,j3,j4⟩;have hB2:=j3.at_ _ _ hb (g2.at_ _ _ hB1)
  cases e with
  | normal=>
   obtain ⟨j5,j6⟩:=j1
   obtain ⟨-,g4,g5,g6⟩:=Sim.setr (L':=L.at .ready none) j4.sim j5 hB2 rfl
   exact ⟨_,_,run_endRound none g4,.bool true,.v (.bool true),_,_,rfl,rfl,j6,(q3.trans ((g2.toK _).trans (j3.trans (g5.toK _)))).evo fun b hb=>hS.dom b hb,g6,rfl⟩
  | ret=>
   obtain ⟨j5,j6⟩:=j1
   obtain ⟨-,g4,g5,g6⟩:=Sim.setr (L':=L.at .done (some .ret)) j4.sim j5 hB2 rfl
   exact ⟨_,_,run_endRound (some .ret) g4,.bool false,.v (.bool false),_,_,rfl,rfl,j6,(q3.trans ((g2.toK _).trans (j3.trans (g5.toK _)))).evo fun b hb=>hS.dom b hb,g6,rfl⟩
  | exit id=>
   obtain ⟨j5,j6⟩:=j1
   obtain ⟨-,g4,g5,g6⟩:=Sim.setr (L':=L.at .done (some (.exit id))) j4.sim j5 hB2 rfl
   exact ⟨_,_,run_endRound (some (.exit id)) g4,.bool false,.v (.bool false),_,_,rfl,rfl,j6,(q3.trans ((g2.toK _).trans (j3.trans (g5.toK _)))).evo fun b hb=>hS.dom b hb,g6,rfl⟩
  | _=>exact j1.elim
 | _=>exact q1.elim
def rangeQ (n b : Nat) (L : Loop) (E : Env) (QT : Exit→Env→Hp→Prop) (H : Hp) : Prop:=
 (blkH H b = .o (recP n (L.at .ready none) E)∧QT .normal E (setH H b .d))∨(blkH H b = .o (recP n (L.at .done (some .ret)) E)∧QT .ret E (setH H b .d))∨∃ id,blkH H b = .o (recP n (L.at .done (some (.exit id))) E)∧QT (.exit id) E (setH H b .d)
theorem Marks.lt : ∀ {ds : List Deferred},Marks kb ds M→∀ d∈ds,∃ r,d = { target:=.collected r,args:=#[] }∧r < M.w.heap.size
 | _ :: _,⟨⟨r,h1,h0,h2,h3,h4⟩,k⟩,d,hd=>by
  rcases List.mem_cons.1 hd with rfl | hd
  ·exact ⟨r,h1,wn h3⟩
  ·exact Marks.lt k d hd
theorem Sim.endr [Dr] {b : Nat} {x : Blk} (hb : b < H.length) (hx : x≠.d) (h : SimH (setH H b x) X0 M) : Evo X0 M (killM M b)∧SimH (setH H b .d) X0 (killM M b):=by
 obtain ⟨h1,h2⟩:=Sim.kill h (b:=b) (by rw [x6 _ _ _ _ hb,if_pos rfl];exact hx) (by rw [xc];exact hb)
 refine ⟨h1,h2.congr (fun c=>?_) (fun c=>by simp [xc])⟩
 rw [x6 _ _ _ _ hb]
 unfold updL
 split
 ·rfl
 ·rename_i hc;rw [x6 _ _ _ _ hb,if_neg hc]
theorem VC.range [Dr] {g : Operand} {ps : Array Tmp} {assign body : Code} {f : FuncId} {fs cs : List T} (hg : E.opd g = some (.clo f fs cs))
  (h : ∀ L : Loop,L.params = ps→L.assign = assign→L.body = body→CallT P f (fs ++ [.yl H.length] ++ cs) (H ++ [.o (recP n (L.at .ready none) E)]) (fun _ H'=>rangeQ n H.length L E QT H')) : VC true P n lb (.rangeFunc g ps assign body) QT E H:=by
 intro X0 M a r kb hz hs
 obtain rfl:=hz rfl
 refine wpIn_rangeFunc fun fn hfn=>?_
 obtain ⟨us,ws,e1,r1,r2⟩:=wm hs _ _ hg
 let L : Loop:={ state:=.ready,pending:=none,fn,tmps:=a.tmps,params:=ps,assign,body,defers:=M.w.heap.size }
 let M1 : Mp:=⟨M.β,M.X,M.w.alloc (.deferred (some []))⟩
 have hE1 : Evo X0 M M1:=⟨fun _ _ h=>h,fun _ _ h=>h,fun B hB _=>by show (M.w.heap.push _)[B]? = _;rw [xg,if_neg (by omega)],fun B s hB=>by
  rw [← hB];refine xp ?_
  have : B < M.w.heap.size:=by
   rcases Nat.lt_or_ge B M.w.heap.size with h1 | h1
   ·exact h1
   ·simp [World.shape?,Array.getElem?_eq_none h1] at hB
  show (M.w.heap.push _)[B]? = _;rw [xg,if_neg (by omega)],rfl,⟨rfl,fun _=>Nat.le_refl _⟩,rfl,by show _≤(M.w.heap.push _).size;simp⟩
 have hS1 : SimH H X0 M1:=hs.sim.world hE1 fun B hB=>by show (M.w.heap.push _)[B]? = _;rw [xg,if_neg (by omega)]
 have hz1 : M1.w.heap.size = M.w.heap.size + 1:=by show (M.w.heap.push _).size = _;simp
 obtain ⟨hE2,S2⟩:=Sim.newo hS1 (nx:=H.length) (fun hh=>Nat.lt_irrefl _ hh) (q:=recP n (L.at .ready none) E) (o':=.loop L) (w:=M1.w.alloc (.loop L)) rfl rfl ⟨rfl,fun _=>Nat.le_refl _⟩ rfl (by simp)
  ⟨rfl,hs.sz,fun d t ht=>by obtain ⟨u,k1,k2⟩:=hs.tm d t ht;exact ⟨u,k1,Rep.stays hE1.stays _ _ k2⟩⟩
 have hS2 : SimH (H ++ [.o (recP n (L.at .ready none) E)]) X0 (newM M1 H.length (M1.w.alloc (.loop L))):=SimH.push S2
 have hE:=hE1.trans hE2
 have hβ : (newM M1 H.length (M1.w.alloc (.loop L))).β H.length = some (some (M.w.heap.size + 1,0)):=by show (if _ then _ else _) = _;rw [if_pos rfl,hz1]
 have hm : Marks kb ({ target:=.collected M.w.heap.size,args:=#[] } :: a.defers) (newM M1 H.length (M1.w.alloc (.loop L))):=by
  refine ⟨⟨M.w.heap.size,rfl,hs.ge,?_,?_,fun d hd e=>?_⟩,hs.df.evo hE⟩
  ·show ¬ (M.X _∨_ = M1.w.heap.size)
   rintro (hx | hx)
   ·exact Nat.lt_irrefl _ (hs.sim.bnd _ hx)
   ·omega
  ·show (M1.w.heap.push _)[_]? = _
   rw [xg,if_neg (by omega)]
   exact World.alloc_heap_new _ _
  ·obtain ⟨r,h1,h2⟩:=hs.df.lt d hd
   rw [h1] at e
   injection e with e
   injection e with e
   omega
 have hcall:=h L rfl rfl rfl
 have henter : (Instr.enterLoop fn a.tmps ps assign body (FW none).round).run P M.w = .ok (M.w.heap.size + 1,[{ target:=.collected M.w.heap.size,args:=#[] }]) (newM M1 H.length (M1.w.alloc (.loop L))).w:=run_enterLoop_outer _ _ _ _ _
 generalize hM2 : newM M1 H.length (M1.w.alloc (.loop L)) = M2 at *
 clear_value M1 L
 have hcl:=hcall.2 X0 M2 _ hS2 (RepL.append (RepL.append (RepL.stays hE.stays _ _ r1) ⟨_,[],rfl,⟨_,_,hβ,rfl⟩,rfl⟩) (RepL.stays hE.stays _ _ r2))
 refine ⟨M.w.heap.size + 1,[{ target:=.collected M.w.heap.size,args:=#[] }],M2.w,({ target:=.fn (.func f) ws.toArray,args:=us.toArray ++ #[Value.func (.yield (M.w.heap.size + 1)) #[] #[]] } : Deferred),M2.w,f,(us ++ [Value.func (.yield (M.w.heap.size + 1)) #[] #[]] ++ ws).toArray,M2.w,?_,?_,?_,?_,?_,?_⟩
 ·exact henter
 ·simp only [resolve,Sem.run_bind,e1,Deferred.ofValue,Sem.run_pure,Result.andThen_ok]
  simp [Act.eval]
 ·exact fun _ _=>trivial
 ·simp only [invoke]
  rw [wp _ _ _ hcall.1]
  simp
 ·exact fun hh=>(by cases hh)
 refine callsIn_wide.2 (hcl.mono ?_)
 rintro e w' ⟨u,t,H',M',rfl,rfl,k1,k2,k3,k4⟩;have hB:=k2.at_ _ _ hβ
 have fin : ∀ (s : LoopState) (j : Option Code),blkH H' H.length = .o (recP n (L.at s j) E)→s≠.busy→∃ M4 : Mp,(Instr.endLoop (M.w.heap.size + 1)).run P M'.w = .ok j M4.w∧Evo X0 M M4∧St n kb E (setH H' H.length .d) X0 { a with defers:=[{ target:=.collected M.w.heap.size,args:=#[] }] ++ a.defers } M4:=by
  intro s j hb hne
  have hlt : H.length < H'.length:=xa (by rw [hb];simp)
  obtain ⟨-,g1,g2,g3⟩:=Sim.setr (L':=L.at .exhausted j) k3 hb hB rfl
  obtain ⟨g4,g5⟩:=Sim.endr hlt (by simp) g3
  have hEv:=(hE.trans k2).trans (g2.trans g4)
  refine ⟨_,run_endLoop g1 hne,hEv,fun d t ht=>?_,hs.sz,hm.evo (k2.trans (g2.trans g4)),Nat.le_trans hs.ge hEv.size,g5⟩
  obtain ⟨u,q1,q2⟩:=hs.tm d t ht
  exact ⟨u,q1,Rep.stays hEv.stays _ _ q2⟩
 rcases k1 with ⟨b1,q⟩ | ⟨b1,q⟩ | ⟨id,b1,q⟩
 ·obtain ⟨M4,f1,f2,f3⟩:=fin _ _ b1 (by simp)
  exact ⟨none,M4.w,f1,E,_,M4,q,rfl,f2.toK lb,f3⟩
 ·obtain ⟨M4,f1,f2,f3⟩:=fin _ _ b1 (by simp)
  exact ⟨some .ret,M4.w,f1,wpIn_ret ⟨E,_,M4,q,rfl,f2.toK lb,f3⟩⟩
 ·obtain ⟨M4,f1,f2,f3⟩:=fin _ _ b1 (by simp)
  exact ⟨some (.exit id),M4.w,f1,wpIn_exit ⟨E,_,M4,q,rfl,f2.toK lb,f3⟩⟩
end
end

section
open Go.RowKit
def Sub (E E' : Env) : Prop:=∀ d t,E.get d = some t→E'.get d = some t
theorem Sub.refl (E : Env) : Sub E E:=fun _ _ h=>h
theorem Sub.opd {E E' : Env} (h : Sub E E') {x : Operand} {t : T} (hx : E.opd x = some t) : E'.opd x = some t:=by
 cases x with
 | tmp d=>exact h d t hx
 | _=>exact hx
def putC (E : Env) : Option Nat→T→Env
 | none,_=>E
 | some d,t=>(d,t) :: E
theorem Sub.put {E E' : Env} (h : Sub E E') (d : Option Nat) (t : T) : Sub (putC E d t) (E'.put d t):=by
 cases d with
 | none=>exact h
 | some d=>
  intro k s hk
  rw [v6]
  have hk : (if d = k then some t else E.get k) = some s:=hk
  by_cases e : k = d
  ·rw [if_pos e];rw [if_pos e.symm] at hk;exact hk
  ·rw [if_neg e];rw [if_neg (fun h=>e h.symm)] at hk;exact h k s hk
def SubF (ρ ρ' : EnvF) : Prop:=∀ x t,ρ x = some t→ρ' x = some t
theorem x9 {ρ ρ' : EnvF} (h : SubF ρ ρ') : ∀ (xs : List Operand) (ts : List T),optL ρ xs = some ts→optL ρ' xs = some ts
 | [],ts,hx=>hx
 | x :: xs,ts,hx=>by
  simp only [optL] at hx ⊢
  cases h1 : ρ x with
  | none=>simp only [h1] at hx;cases hx
  | some t=>
   cases h2 : optL ρ xs with
   | none=>simp only [h1,h2] at hx;cases hx
   | some ts'=>simp only [h1,h2] at hx;simp only [h _ _ h1,x9 h xs _ h2];exact hx
theorem pd {ρ ρ' : EnvF} (h : SubF ρ ρ') : ∀ (xs : List (Nat × Operand)) (ts : List (Nat × T)),optP ρ xs = some ts→optP ρ' xs = some ts
 | [],ts,hx=>hx
 | (i,x) :: xs,ts,hx=>by
  simp only [optP] at hx ⊢
  cases h1 : ρ x with
  | none=>simp only [h1] at hx;cases hx
  | some t=>
   cases h2 : optP ρ xs with
   | none=>simp only [h1,h2] at hx;cases hx
   | some ts'=>simp only [h1,h2] at hx;simp only [h _ _ h1,pd h xs _ h2];exact hx
theorem pe {ρ ρ' : EnvF} (h : SubF ρ ρ') : ∀ (x : Option Operand) (l : Option Int),optI x ρ = some l→optI x ρ' = some l
 | none,l,hx=>hx
 | some x,l,hx=>by
  simp only [optI] at hx ⊢
  cases h1 : ρ x with
  | none=>simp only [h1] at hx;cases hx
  | some t=>simp only [h1] at hx;simp only [h _ _ h1];exact hx
theorem sv {tab : Tab} {look : Look} {nx : Nat} {ρ ρ' : EnvF} (hs : SubF ρ ρ') {op : Op} {r : T × Option (Nat × List T)} (h : opM tab look nx ρ op = some r) : opM tab look nx ρ' op = some r:=by
 have one : ∀ {β : Type} (x : Operand) (F : T→Option β) (r : β),(match ρ x with | some t=>F t | none=>none) = some r→(match ρ' x with | some t=>F t | none=>none) = some r:=by
  intro β x F r hh
  cases h1 : ρ x with
  | none=>simp only [h1] at hh;cases hh
  | some t=>simp only [h1] at hh;simp only [hs _ _ h1];exact hh
 have two : ∀ {β : Type} (x y : Operand) (F : T→T→Option β) (r : β),(match ρ x,ρ y with | some a,some b=>F a b | _,_=>none) = some r→(match ρ' x,ρ' y with | some a,some b=>F a b | _,_=>none) = some r:=by
  intro β x y F r hh
  cases h1 : ρ x with
  | none=>simp only [h1] at hh;cases hh
  | some t=>
   cases h2 : ρ y with
   | none=>simp only [h1,h2] at hh;cases hh
   | some u=>simp only [h1,h2] at hh;simp only [hs _ _ h1,hs _ _ h2];exact hh
 cases op with
 | move x=>exact one x _ _ h
 | assign x=>exact one x _ _ h
 | pick c a b=>
  simp only [opM] at h ⊢
  cases h1 : ρ c with
  | none=>simp [h1] at h
  | some tc=>
   simp only [h1,hs _ _ h1] at h ⊢
   cases tc <;> first | (simp at h;done) | skip
   rename_i x
   cases x <;> first | (simp at h;done) | skip
   rename_i q
   cases q
   ·cases h3 : ρ b with
    | none=>rw [h3] at h;cases h2 : ρ a <;> rw [h2] at h <;> simp at h
    | some tb=>
     have e : r = (tb,none):=by
      rw [h3] at h
      split at h <;> simp_all
     subst e
     rw [hs _ _ h3]
     split <;> simp_all
   ·cases h2 : ρ a with
    | none=>rw [h2] at h;cases h3 : ρ b <;> rw [h3] at h <;> simp at h
    | some ta=>
     have e : r = (ta,none):=by
      rw [h2] at h
      split at h <;> simp_all
     subst e
     rw [hs _ _ h2]
     split <;> simp_all
 | alloc e=>exact h
 | box e x=>exact one x _ _ h
 | build t ps=>
  simp only [opM] at h ⊢
  cases h1 : optP ρ ps.toList with
  | none=>simp [h1] at h
  | some l=>simp only [h1,pd hs _ _ h1] at h ⊢;exact h
 | buildSlice t n ps=>
  simp only [opM] at h ⊢
  cases h1 : optP ρ ps.toList with
  | none=>simp [h1] at h
  | some l=>simp only [h1,pd hs _ _ h1] at h ⊢;exact h
 | load t a=>exact one a _ _ h
 | nilCheck x=>
  simp only [opM] at h ⊢
  cases h1 : ρ x with
  | none=>simp [h1] at h
  | some t=>simp only [h1,hs _ _ h1] at h ⊢;exact h
 | binOp op t x y yt=>exact two x y _ _ h
 | unOp op t x=>exact one x _ _ h
 | convert s d x=>exact one x _ _ h
 | makeFunc f fs cs=>
  cases f with
  | func f=>
   simp only [opM] at h ⊢
   cases h1 : optL ρ fs.toList with
   | none=>simp [h1] at h
   | some a=>
    cases h2 : optL ρ cs.toList with
    | none=>simp [h1,h2] at h
    | some b=>simp only [h1,h2,x9 hs _ _ h1,x9 hs _ _ h2] at h ⊢;exact h
  | _=>simp [opM] at h
 | makeSlice t l c=>exact two l c _ _ h
 | slice t x lo hi mx=>
  simp only [opM] at h ⊢
  cases h1 : ρ x with
  | none=>simp [h1] at h
  | some a=>
   cases h2 : optI lo ρ with
   | none=>simp [h1,h2] at h
   | some l=>
    cases h3 : optI hi ρ with
    | none=>simp [h1,h2,h3] at h
    | some hh=>
     cases h4 : optI mx ρ with
     | none=>simp [h1,h2,h3,h4] at h
     | some m=>simp only [h1,h2,h3,h4,hs _ _ h1,pe hs _ _ h2,pe hs _ _ h3,pe hs _ _ h4] at h ⊢;exact h
 | fieldAddr s x f=>exact one x _ _ h
 | field s x f=>exact one x _ _ h
 | indexAddr t x i=>exact two x i _ _ h
 | index t x i=>exact two x i _ _ h
 | lookup t x i ok=>exact two x i _ _ h
 | extract x i=>
  simp only [opM] at h ⊢
  cases h1 : ρ x with
  | none=>simp [h1] at h
  | some t=>simp only [h1,hs _ _ h1] at h ⊢;exact h
 | call c=>
  obtain ⟨cal,args,ats⟩:=c
  cases cal with
  | builtin b=>
   cases b <;> first | (simp [opM] at h;done) | skip
   ·simp only [opM] at h ⊢
    split at h
    ·exact one _ _ _ h
    ·cases h
   ·simp only [opM] at h ⊢
    cases h1 : optL ρ args.toList with
    | none=>simp [h1] at h
    | some l=>simp only [h1,x9 hs _ _ h1] at h ⊢;exact h
   ·simp only [opM] at h ⊢
    cases h1 : optL ρ args.toList with
    | none=>simp [h1] at h
    | some l=>simp only [h1,x9 hs _ _ h1] at h ⊢;exact h
  | _=>simp [opM] at h
 | _=>simp [opM] at h
def VX [Dr] (q : Bool) (P : Program) (tab : Tab) (im : List Nat) (ds : List (Option Nat)) (l : List Oper) (E : Env) (H : Hp) (K : Env→Hp→Prop) : Prop:=
 ∀ E2,Sub E E2→match q with
  | true=>vcDraw P tab im ds l E2 H (fun E' H'=>∃ E1,Sub E1 E'∧K E1 H')
  | false=>vcSeq P tab im ds l E2 H (fun E' H'=>∃ E1,Sub E1 E'∧K E1 H')
section
variable {q : Bool} {P : Program} {tab : Tab} {im : List Nat} {ds : List (Option Nat)} {l : List Oper} {E : Env} {H : Hp} {K : Env→Hp→Prop}
theorem zb [Dr] (h : K E H) : VX q P tab im ds [] E H K:=fun E2 he=>by
 cases q
 ·exact ⟨E,he,h⟩
 ·exact ⟨E,he,h⟩
theorem zf3 [Dr] {o : Oper} {K : Env→Hp→Prop} {t : T} {nb : Option (Nat × List T)} (h : opM tab (lookH H) H.length E.opd o.op = some (t,nb)) (hk : match nb with | none=>K (E.put o.dst t) H | some (_,cs)=>if imB im o.dst = true then K (E.put o.dst (immT t cs)) H else K (E.put o.dst t) (H ++ [.c cs])) : vcOp P tab im o E H K:=by
 unfold vcOp
 split
 ·rename_i ho;rw [ho] at h;simp [opM] at h
 ·rename_i ho;rw [ho] at h;simp [opM] at h
 ·rename_i ho;rw [ho] at h;simp [opM] at h
 ·rename_i ho;rw [ho] at h;simp [opM] at h
 ·rename_i ho;rw [ho] at h;simp [opM] at h
 ·rw [h]
  cases nb with
  | none=>exact hk
  | some p=>exact hk
theorem zfb [Dr] {o : Oper} {K : Env→Hp→Prop} {t : T} {nb : Option (Nat × List T)} (h : opM tab (lookH H) H.length E.opd o.op = some (t,nb)) (hk : match nb with | none=>K (E.put o.dst t) H | some (_,cs)=>if imB im o.dst = true then K (E.put o.dst (immT t cs)) H else K (E.put o.dst t) (H ++ [.c cs])) : vcOpM P tab im o E H K:=by
 unfold vcOpM
 split
 ·rename_i ho;rw [ho] at h;simp [opM] at h
 ·rw [h]
  cases nb with
  | none=>exact hk
  | some p=>exact hk
theorem zbr [Dr] {o : Oper} {t : T} {nb : Option (Nat × List T)} (hg : o.guard = none) (h : opM tab (lookH H) H.length E.opd o.op = some (t,nb)) (k : match nb with | none=>VX q P tab im ds l (putC E o.dst t) H K | some (_,cs)=>if imB im o.dst = true then VX q P tab im ds l (putC E o.dst (immT t cs)) H K else VX q P tab im ds l (putC E o.dst t) (H ++ [.c cs]) K) : VX q P tab im ds (o :: l) E H K:=by
 intro E2 he
 have h' : opM tab (lookH H) H.length E2.opd o.op = some (t,nb):=sv (fun x t h=>he.opd h) h
 cases q
 ·show vcGuard ds E2 o _ _
  unfold vcGuard
  rw [hg]
  refine zf3 h' ?_;cases nb with
  | none=>exact k _ (he.put _ _)
  | some p=>
   obtain ⟨e,cs⟩:=p
   simp only at k ⊢
   split
   ·rename_i hi;rw [if_pos hi] at k;exact k _ (he.put _ _)
   ·rename_i hi;rw [if_neg hi] at k;exact k _ (he.put _ _)
 ·show vcGuard ds E2 o _ _
  unfold vcGuard
  rw [hg]
  refine zfb h' ?_;cases nb with
  | none=>exact k _ (he.put _ _)
  | some p=>
   obtain ⟨e,cs⟩:=p
   simp only at k ⊢
   split
   ·rename_i hi;rw [if_pos hi] at k;exact k _ (he.put _ _)
   ·rename_i hi;rw [if_neg hi] at k;exact k _ (he.put _ _)
theorem za [Dr] {d : Nat} {op : Op} {ty : TypeId} {pos : String} {after : Array Edge} {t : T} (h : opM tab (lookH H) H.length E.opd op = some (t,none)) (k : VX q P tab im ds l ((d,t) :: E) H K) : VX q P tab im ds (⟨some d,op,ty,pos,after,none⟩ :: l) E H K:=
 zbr (o:=⟨some d,op,ty,pos,after,none⟩) rfl h k
theorem yc [Dr] {d : Nat} {op : Op} {ty : TypeId} {pos : String} {after : Array Edge} {t : T} {e : Nat} {cs : List T} (hi : imB im (some d) = false) (h : opM tab (lookH H) H.length E.opd op = some (t,some (e,cs))) (k : VX q P tab im ds l ((d,t) :: E) (H ++ [.c cs]) K) : VX q P tab im ds (⟨some d,op,ty,pos,after,none⟩ :: l) E H K:=
 zbr (o:=⟨some d,op,ty,pos,after,none⟩) rfl h (by simp only [hi];exact k)
theorem ya [Dr] {d : Nat} {op : Op} {ty : TypeId} {pos : String} {after : Array Edge} {t : T} {e : Nat} {cs : List T} (hi : imB im (some d) = true) (h : opM tab (lookH H) H.length E.opd op = some (t,some (e,cs))) (k : VX q P tab im ds l ((d,immT t cs) :: E) H K) : VX q P tab im ds (⟨some d,op,ty,pos,after,none⟩ :: l) E H K:=
 zbr (o:=⟨some d,op,ty,pos,after,none⟩) rfl h (by simp only [hi,if_true];exact k)
theorem zt [Dr] {dst : Option Nat} {op : Op} {ty : TypeId} {pos : String} {after : Array Edge} {j g : Nat} {want b : Bool} (hj : ds[j]? = some (some g)) (hb : E.get g = some (.v (.bool b)))
  (h1 : b = want→VX q P tab im ds (⟨dst,op,ty,pos,after,none⟩ :: l) E H K) (h0 : b = !want→VX q P tab im ds l (putC E dst (.v undef)) H K) : VX q P tab im ds (⟨dst,op,ty,pos,after,some (j,want)⟩ :: l) E H K:=by
 intro E2 he
 have hb' : E2.get g = some (.v (.bool b)):=he _ _ hb
 have key : ∀ (A B : Prop),(b = want→A)→(b = !want→B)→vcGuard ds E2 ⟨dst,op,ty,pos,after,some (j,want)⟩ A B:=by
  intro A B ha hbb
  unfold vcGuard
  simp only [hj,hb']
  by_cases hw : b = want
  ·rw [if_pos hw];exact ha hw
  ·rw [if_neg hw];exact hbb (by cases b <;> cases want <;> simp_all)
 cases q
 ·exact key _ _ (fun hw=>by have:=h1 hw E2 he;exact this) (fun hw=>h0 hw _ (he.put _ _))
 ·exact key _ _ (fun hw=>by have:=h1 hw E2 he;exact this) (fun hw=>h0 hw _ (he.put _ _))
theorem qv [Dr] {o : Oper} {K1 K2 : Env→Hp→Prop} (k : ∀ t H',K1 (E.put o.dst t) H'→K2 (E.put o.dst t) H') (h : vcOp P tab im o E H K1) : vcOp P tab im o E H K2:=by
 unfold vcOp at h ⊢
 split at h
 ·split at h
  ·split at h
   ·exact k _ _ h
   ·exact h.elim
  ·exact h.elim
 ·split at h
  ·exact h.mono fun t H' hq=>k _ _ hq
  ·intro X0 M B O us h1 h2 h3
   obtain ⟨f',tmps,asx,bd,y1,y2⟩:=h X0 M B O us h1 h2 h3
   exact ⟨f',tmps,asx,bd,y1,fun r=>(y2 r).mono fun e w' ⟨u,t,H',M',k1,k2,k3,k4⟩=>⟨u,t,H',M',k1,k2,k _ _ k3,k4⟩⟩
  ·exact h.elim
 ·split at h
  ·split at h
   ·split at h
    ·exact k _ _ h
    ·exact h.elim
   ·exact h.elim
  ·exact h.elim
 ·split at h
  ·split at h
   ·split at h
    ·exact k _ _ h
    ·exact h.elim
   ·exact h.elim
  ·exact h.elim
 ·split at h
  ·split at h
   ·split at h
    ·exact k _ _ h
    ·exact h.elim
   ·exact h.elim
  ·exact h.elim
 ·split at h
  ·exact k _ _ h
  ·split at h
   ·rename_i hi;rw [if_pos hi];exact k _ _ h
   ·rename_i hi;rw [if_neg hi];exact k _ _ h
  ·exact ⟨h.1,fun X0 M ρ' h1 h2=>by obtain ⟨t,H',M',a,b,c,d⟩:=h.2 X0 M ρ' h1 h2;exact ⟨t,H',M',a,b,c,k _ _ d⟩⟩
theorem rj [Dr] {o : Oper} {K1 K2 : Env→Hp→Prop} (k : ∀ t H',K1 (E.put o.dst t) H'→K2 (E.put o.dst t) H') (h : vcOpM P tab im o E H K1) : vcOpM P tab im o E H K2:=by
 unfold vcOpM at h ⊢
 split at h
 ·split at h
  ·obtain ⟨r,h1,h2⟩:=h;exact ⟨r,h1,k _ _ h2⟩
  ·exact h.elim
 ·split at h
  ·exact k _ _ h
  ·split at h
   ·rename_i hi;rw [if_pos hi];exact k _ _ h
   ·rename_i hi;rw [if_neg hi];exact k _ _ h
  ·exact h.elim
theorem wo {o : Oper} {A B A' B' : Prop} (ha : A→A') (hb : B→B') (h : vcGuard ds E o A B) : vcGuard ds E o A' B':=by
 unfold vcGuard at h ⊢
 split at h
 ·exact ha h
 ·split at h
  ·split at h
   ·split at h
    ·rename_i e;rw [if_pos e];exact ha h
    ·rename_i e;rw [if_neg e];exact hb h
   ·exact hb h
   ·exact h.elim
  ·exact h.elim
theorem uh [Dr] : ∀ (l : List Oper) {E : Env} {H : Hp} {K1 K2 : Env→Hp→Prop},(∀ E H,K1 E H→K2 E H)→vcSeq P tab im ds l E H K1→vcSeq P tab im ds l E H K2
 | [],E,H,K1,K2,hk,h=>hk _ _ h
 | o :: l,E,H,K1,K2,hk,h=>wo (qv fun t H' hq=>uh l hk hq) (fun hq=>uh l hk hq) h
theorem w9 [Dr] : ∀ (l : List Oper) {E : Env} {H : Hp} {K1 K2 : Env→Hp→Prop},(∀ E H,K1 E H→K2 E H)→vcDraw P tab im ds l E H K1→vcDraw P tab im ds l E H K2
 | [],E,H,K1,K2,hk,h=>hk _ _ h
 | o :: l,E,H,K1,K2,hk,h=>wo (rj fun t H' hq=>w9 l hk hq) (fun hq=>w9 l hk hq) h
theorem qt [Dr] : ∀ (l : List Oper) {E : Env} {H : Hp} {K : Env→Hp→Prop},vcSeq P tab im ds l E H K→vcSeq P tab im ds l E H (fun E' H'=>K E' H'∧∀ k,(∀ o∈l,o.dst≠some k)→E'.get k = E.get k)
 | [],E,H,K,h=>⟨h,fun _ _=>rfl⟩
 | o :: l,E,H,K,h=>by
  have un : ∀ t H',vcSeq P tab im ds l (E.put o.dst t) H' K→vcSeq P tab im ds l (E.put o.dst t) H' (fun E' H'=>K E' H'∧∀ k,(∀ o'∈o :: l,o'.dst≠some k)→E'.get k = E.get k):=by
   intro t H' hq
   refine uh l (fun E' H' hh=>⟨hh.1,fun k hk=>?_⟩) (qt l hq)
   rw [hh.2 k fun o' ho'=>hk o' (List.mem_cons_of_mem _ ho')]
   have:=hk o List.mem_cons_self
   cases hd : o.dst with
   | none=>rfl
   | some d=>rw [v6,if_neg (fun e=>this (by rw [hd,e]))]
  exact wo (qv fun t H'=>un t H') (un _ _) h
theorem qa [Dr] : ∀ (l : List Oper) {E : Env} {H : Hp} {K : Env→Hp→Prop},vcDraw P tab im ds l E H K→vcDraw P tab im ds l E H (fun E' H'=>K E' H'∧∀ k,(∀ o∈l,o.dst≠some k)→E'.get k = E.get k)
 | [],E,H,K,h=>⟨h,fun _ _=>rfl⟩
 | o :: l,E,H,K,h=>by
  have un : ∀ t H',vcDraw P tab im ds l (E.put o.dst t) H' K→vcDraw P tab im ds l (E.put o.dst t) H' (fun E' H'=>K E' H'∧∀ k,(∀ o'∈o :: l,o'.dst≠some k)→E'.get k = E.get k):=by
   intro t H' hq
   refine w9 l (fun E' H' hh=>⟨hh.1,fun k hk=>?_⟩) (qa l hq)
   rw [hh.2 k fun o' ho'=>hk o' (List.mem_cons_of_mem _ ho')]
   have:=hk o List.mem_cons_self
   cases hd : o.dst with
   | none=>rfl
   | some d=>rw [v6,if_neg (fun e=>this (by rw [hd,e]))]
  exact wo (rj fun t H'=>un t H') (un _ _) h
theorem qu [Dr] : ∀ (l1 l2 : List Oper) {E : Env} {H : Hp} {K : Env→Hp→Prop},vcSeq P tab im ds l1 E H (fun E H=>vcSeq P tab im ds l2 E H K)→vcSeq P tab im ds (l1 ++ l2) E H K
 | [],_,_,_,_,h=>h
 | o :: l1,l2,E,H,K,h=>wo (qv fun t H' hq=>qu l1 l2 hq) (fun hq=>qu l1 l2 hq) h
theorem rk [Dr] : ∀ (l1 l2 : List Oper) {E : Env} {H : Hp} {K : Env→Hp→Prop},vcDraw P tab im ds l1 E H (fun E H=>vcDraw P tab im ds l2 E H K)→vcDraw P tab im ds (l1 ++ l2) E H K
 | [],_,_,_,_,h=>h
 | o :: l1,l2,E,H,K,h=>wo (rj fun t H' hq=>rk l1 l2 hq) (fun hq=>rk l1 l2 hq) h
def freshB (E : Env) (d : Nat) (l : List Oper) : Bool:=l.all fun o=>match o.dst with | some k=>Nat.beq k d || (E.get k).isNone | none=>true
theorem zu [Dr] {d : Nat} {t : T} {l2 : List Oper} (l1 : List Oper) (hl : l = l1 ++ l2) (h : VX q P tab im ds l1 E H (fun E' H'=>H' = H∧E'.get d = some t)) (hf : freshB E d l1 = true) (k : VX q P tab im ds l2 ((d,t) :: E) H K) : VX q P tab im ds l E H K:=by
 intro E2 he
 have fin : ∀ (E' : Env) (H' : Hp),((∃ E1,Sub E1 E'∧(H' = H∧E1.get d = some t))∧∀ k,(∀ o∈l1,o.dst≠some k)→E'.get k = E2.get k)→H' = H∧Sub ((d,t) :: E) E':=by
  rintro E' H' ⟨⟨E1,h1,h2,h3⟩,h4⟩;refine ⟨h2,fun k s hk=>?_⟩
  have hk : (if d = k then some t else E.get k) = some s:=hk
  by_cases e : d = k
  ·subst e;rw [if_pos rfl] at hk;rw [← hk];exact h1 _ _ h3
  ·rw [if_neg e] at hk
   rw [h4 k fun o ho hd=>?_]
   ·exact he _ _ hk
   ·have:=List.all_eq_true.1 hf o ho
    rw [hd] at this
    simp only [Bool.or_eq_true] at this
    rcases this with h5 | h5
    ·exact e (Nat.eq_of_beq_eq_true h5).symm
    ·rw [hk] at h5;cases h5
 cases q
 ·have:=qt _ (h E2 he)
  show vcSeq P tab im ds l E2 H _
  rw [hl]
  exact qu _ _ (uh _ (fun E' H' hh=>by obtain ⟨rfl,h2⟩:=fin E' H' hh;exact k E' h2) this)
 ·have:=qa _ (h E2 he)
  show vcDraw P tab im ds l E2 H _
  rw [hl]
  exact rk _ _ (w9 _ (fun E' H' hh=>by obtain ⟨rfl,h2⟩:=fin E' H' hh;exact k E' h2) this)
theorem zk [Dr] {ty : TypeId} {pos : String} {after : Array Edge} {t : Nat} {a x : Operand} {b o : Nat} {tx : T} {i : TyI} {cs : List T} (hT : tab t = some i) (ha : E.opd a = some (.ptr b o)) (hx : E.opd x = some tx) (hc : lookH H b = some cs)
  (h1 : (flat tx).length = i.sz) (h2 : o + i.sz≤cs.length) (h3 : (flat tx).all cellB = true) (k : VX false P tab im ds l E (setH H b (.c (putL cs o (flat tx)))) K) : VX false P tab im ds (⟨none,.store t a x,ty,pos,after,none⟩ :: l) E H K:=by
 intro E2 he
 show vcGuard ds E2 _ _ _
 unfold vcGuard vcOp
 simp only [he.opd ha,he.opd hx,mStore,hT,hc]
 rw [if_pos ⟨h1,h2,h3⟩]
 exact k _ he
theorem y7 [Dr] {d : Option Nat} {ty : TypeId} {pos : String} {after : Array Edge} {f : Operand} {args : Array Operand} {ats : Array TypeId} {g : FuncId} {fs cs ts : List T} (hf : E.opd f = some (.clo g fs cs)) (ha : optL E.opd args.toList = some ts)
  (hc : CallT P g (fs ++ ts ++ cs) H (fun t H'=>VX false P tab im ds l (putC E d t) H' K)) : VX false P tab im ds (⟨d,.call ⟨.value f,args,ats⟩,ty,pos,after,none⟩ :: l) E H K:=by
 intro E2 he
 show vcGuard ds E2 _ _ _
 unfold vcGuard vcOp
 simp only [he.opd hf,x9 (fun x t h=>he.opd h) _ _ ha]
 exact hc.mono fun t H' h=>h _ (he.put _ _)
theorem VX.callP [Dr] {d : Nat} {ty : TypeId} {pos : String} {after : Array Edge} {f : Operand} {args : Array Operand} {ats : Array TypeId} {g : FuncId} {fs cs ts asx : List T} {r : T} (hf : E.opd f = some (.clo g fs cs)) (ha : optL E.opd args.toList = some ts)
  (hc : CallP P g asx r) (hw : wkL (fs ++ ts ++ cs) asx) (hp : T.pureL (fs ++ ts ++ cs) = true) (k : VX q P tab im ds l ((d,r) :: E) H K) : VX q P tab im ds (⟨some d,.call ⟨.value f,args,ats⟩,ty,pos,after,none⟩ :: l) E H K:=by
 intro E2 he
 have e1:=he.opd hf
 have e2:=x9 (fun x t h=>he.opd h) _ _ ha
 cases q
 ·show vcGuard ds E2 _ _ _
  unfold vcGuard vcOp
  simp only [e1,e2]
  refine ((hc.arg hw hp).callT H).mono ?_;rintro t H' ⟨rfl,rfl⟩;exact k _ (he.put (some d) _)
 ·show vcGuard ds E2 _ _ _
  unfold vcGuard vcOpM
  simp only [e1,e2]
  exact ⟨r,hc.arg hw hp,k _ (he.put (some d) _)⟩
theorem zi [Dr] {d : Nat} {ty : TypeId} {pos : String} {after : Array Edge} {f : Operand} {args : Array Operand} {ats : Array TypeId} {g : FuncId} {fs cs ts asx : List T} {r : T} (hf : E.opd f = some (.clo g fs cs)) (ha : optL E.opd args.toList = some ts)
  (hw : fs ++ ts ++ cs = asx) (hc : CallP P g asx r) (k : VX q P tab im ds l ((d,r) :: E) H K) : VX q P tab im ds (⟨some d,.call ⟨.value f,args,ats⟩,ty,pos,after,none⟩ :: l) E H K:=
 VX.callP hf ha hc (by rw [hw];exact w7 _) (by rw [hw];exact hc.1) k
theorem VX.yield [Dr] {d : Option Nat} {ty : TypeId} {pos : String} {after : Array Edge} {f : Operand} {args : Array Operand} {ats : Array TypeId} {b : Nat} {ts : List T} (hf : E.opd f = some (.yl b)) (ha : optL E.opd args.toList = some ts)
  (hc : YieldT P b ts H (fun t H'=>VX false P tab im ds l (putC E d t) H' K)) : VX false P tab im ds (⟨d,.call ⟨.value f,args,ats⟩,ty,pos,after,none⟩ :: l) E H K:=by
 intro E2 he
 show vcGuard ds E2 _ _ _
 unfold vcGuard vcOp
 simp only [he.opd hf,x9 (fun x t h=>he.opd h) _ _ ha]
 intro X0 M B O us h1 h2 h3
 obtain ⟨f',tmps,asx,bd,y1,y2⟩:=hc X0 M B O us h1 h2 h3
 exact ⟨f',tmps,asx,bd,y1,fun r=>(y2 r).mono fun e w' ⟨u,t,H',M',k1,k2,k3,k4⟩=>⟨u,t,H',M',k1,k2,k3 _ (he.put _ _),k4⟩⟩
theorem yw [Dr] {d : Nat} {ty : TypeId} {pos : String} {after : Array Edge} {x y : Operand} {t1 t2 : TypeId} {b o n z e n2 : Nat} {c : Option Nat} {tyv : T} {i j : TyI} {cs ys : List T} (hT : tab t1 = some i) (hk : i.k = .sl e) (hj : tab e = some j) (hx : E.opd x = some (.slc b o n z c)) (hy : E.opd y = some tyv) (hc : lookH H b = some cs)
  (hs : srcCells tab (lookH H) t2 j.sz tyv = some (ys,n2)) (hz : z = j.sz) (h1 : o + n * z≤cs.length) (h2 : (n + n2) * j.by_≤2 ^ 47) (h3 : n + n2≤2 ^ 47) (h4 : n2 * j.sz = ys.length) (h5 : ys.all cellB = true)
  (k : VX false P tab im ds l ((d,.slc H.length 0 (n + n2) z none) :: E) (setH H b .d ++ [.c ((cs.drop o).take (n * z) ++ ys)]) K) : VX false P tab im ds (⟨some d,.call ⟨.builtin .append,#[x,y],#[t1,t2]⟩,ty,pos,after,none⟩ :: l) E H K:=by
 intro E2 he
 show vcGuard ds E2 _ _ _
 unfold vcGuard vcOp
 simp only [he.opd hx,he.opd hy,mAppend,hT,hk,hj,hs,hc]
 rw [if_pos ⟨hz,h1,h2,h3,h4,h5⟩]
 exact k _ (he.put (some d) _)
theorem xb [Dr] {d : Nat} {ty : TypeId} {pos : String} {after : Array Edge} {x y : Operand} {t1 t2 : TypeId} {e n2 : Nat} {tyv : T} {i j : TyI} {ys : List T} (hT : tab t1 = some i) (hk : i.k = .sl e) (hj : tab e = some j) (hx : E.opd x = some (.v (.slice none 0 0))) (hy : E.opd y = some tyv)
  (hs : srcCells tab (lookH H) t2 j.sz tyv = some (ys,n2)) (h2 : n2 * j.by_≤2 ^ 47) (h3 : n2≤2 ^ 47) (h4 : n2 * j.sz = ys.length)
  (k : VX false P tab im ds l ((d,.slc H.length 0 n2 j.sz none) :: E) (H ++ [.c ys]) K) : VX false P tab im ds (⟨some d,.call ⟨.builtin .append,#[x,y],#[t1,t2]⟩,ty,pos,after,none⟩ :: l) E H K:=by
 intro E2 he
 show vcGuard ds E2 _ _ _
 unfold vcGuard vcOp
 simp only [he.opd hx,he.opd hy,mAppend,hT,hk,hj,hs]
 rw [if_pos ⟨h2,h3,h4⟩]
 exact k _ (he.put (some d) _)
theorem VX.clear [Dr] {d : Option Nat} {ty : TypeId} {pos : String} {after : Array Edge} {x : Operand} {t : TypeId} {ta r : T} {H' : Hp} (hx : E.opd x = some ta) (hc : mClear tab H t ta = some (r,H'))
  (k : VX false P tab im ds l (putC E d r) H' K) : VX false P tab im ds (⟨d,.call ⟨.builtin .clear,#[x],#[t]⟩,ty,pos,after,none⟩ :: l) E H K:=by
 intro E2 he
 show vcGuard ds E2 _ _ _
 unfold vcGuard vcOp
 simp only [he.opd hx,hc]
 exact k _ (he.put _ _)
theorem VX.copy [Dr] {d : Option Nat} {ty : TypeId} {pos : String} {after : Array Edge} {x y : Operand} {t1 t2 : TypeId} {ta tb r : T} {H' : Hp} (hx : E.opd x = some ta) (hy : E.opd y = some tb) (hc : mCopy tab H t1 t2 ta tb = some (r,H'))
  (k : VX false P tab im ds l (putC E d r) H' K) : VX false P tab im ds (⟨d,.call ⟨.builtin .copy,#[x,y],#[t1,t2]⟩,ty,pos,after,none⟩ :: l) E H K:=by
 intro E2 he
 show vcGuard ds E2 _ _ _
 unfold vcGuard vcOp
 simp only [he.opd hx,he.opd hy,hc]
 exact k _ (he.put _ _)
end
section
variable {z : Bool} {P : Program} {tab : Tab} {n kb lb : Nat} {E : Env} {H : Hp} {QT : Exit→Env→Hp→Prop} {X0 : Nat→Prop} {a : Act} {M : Mp}
theorem St.eqv [Dr] {E' : Env} (h : St n kb E H X0 a M) (he : Sub E' E) : St n kb E' H X0 a M:=⟨fun d t ht=>h.tm d t (he d t ht),h.sz,h.df,h.ge,h.sim⟩
theorem zc3 [Dr] {c : Code} (h : VC z P n lb c (fun e E' H'=>∃ E1,Sub E1 E'∧QT e E1 H') E H) : VC z P n lb c QT E H:=fun X0 M a r kb hz hs=>
 wpIn_mono (h X0 M a r kb hz hs) fun e a' w' ⟨E',H',M',⟨E1,h1,h2⟩,h3,h4,h5⟩=>⟨E1,H',M',h2,h3,h4,h5.eqv h1⟩
theorem zw [Dr] {id : Nat} {l : List Oper} (hT : TabOk P tab) (im : List Nat) (hd : dstB n l = true) (h : VX false P tab im (l.map (·.dst)) l E H (QT .normal)) : VC z P n lb (.region id l.toArray false) QT E H:=
 zc3 (zi7 hT im hd (h E (Sub.refl E)))
theorem u6 [Dr] {id : Nat} {l l2 : List Oper} (hT : TabOk P tab) (im : List Nat) (l1 : List Oper) (hl : l = l1 ++ l2) (hm : P.follows .mixedOrders = true) (hB : drawB n l1.length l = true) (h : VX true P tab im (l.map (·.dst)) l1 E H fun E H=>VX false P tab im (l.map (·.dst)) l2 E H (QT .normal)) : VC z P n lb (.region id l.toArray true) QT E H:=by
 have e1 : l.take l1.length = l1:=by rw [hl,List.take_left]
 have e2 : l.drop l1.length = l2:=by rw [hl,List.drop_left]
 have h : VX true P tab im (l.map (·.dst)) (l.take l1.length) E H fun E H=>VX false P tab im (l.map (·.dst)) (l.drop l1.length) E H (QT .normal):=by rw [e1,e2];exact h
 clear e1 e2
 generalize l1.length = m at *
 refine zc3 (VC.draw hT im m hm hB ?_)
 exact w9 _ (fun E' H' ⟨E1,h1,h2⟩=>h2 E' h1) (h E (Sub.refl E))
theorem zf [Dr] {id : Nat} {l : List Oper} {c : Code} (hT : TabOk P tab) (im : List Nat) (hd : dstB n l = true) (h : VX false P tab im (l.map (·.dst)) l E H fun E H=>VC z P n lb c QT E H) : VC z P n lb (.seq (.region id l.toArray false) c) QT E H:=zn (zw hT im hd h)
theorem yv [Dr] {id : Nat} {l l2 : List Oper} {c : Code} (hT : TabOk P tab) (im : List Nat) (l1 : List Oper) (hl : l = l1 ++ l2) (hm : P.follows .mixedOrders = true) (hB : drawB n l1.length l = true) (h : VX true P tab im (l.map (·.dst)) l1 E H fun E H=>VX false P tab im (l.map (·.dst)) l2 E H fun E H=>VC z P n lb c QT E H) : VC z P n lb (.seq (.region id l.toArray true) c) QT E H:=zn (u6 hT im l1 hl hm hB h)
theorem xi [Dr] {c : Operand} {x y : Code} (hc : E.opd c = some (.v (.bool true))) (h : VC z P n lb x QT E H) : VC z P n lb (.cond c x y) QT E H:=zm hc (fun _=>h) (fun h=>by cases h)
theorem y8 [Dr] {c : Operand} {x y : Code} (hc : E.opd c = some (.v (.bool false))) (h : VC z P n lb y QT E H) : VC z P n lb (.cond c x y) QT E H:=zm hc (fun h=>by cases h) (fun _=>h)
end
end

section
open Go.RowKit
structure Vw where
 R : Nat→Nat→Prop
 V : Nat→Prop
 F : Nat→List T→Prop
 /-- old maps that are written no more -/
 G : Nat→List Value→List T→Prop
mutual
inductive Cv (v : Vw) : T→T→Prop
 | pure {t : T} (h : t.pure = true) : Cv v t t
 | nil (c : Option Nat) (h : c = none∨c = some 0) : Cv v (.v (.slice none 0 0)) (.islc [] 0 c)
 | nilv {b z : Nat} (h : v.V b) : Cv v (.v (.slice none 0 0)) (.slc b 0 0 z none)
 | ptr {b b' o : Nat} (h : v.R b' b) : Cv v (.ptr b o) (.ptr b' o)
 | slc {b b' o n z : Nat} {c c' : Option Nat} (h : v.R b' b) (hc : c' = c∨c' = none) : Cv v (.slc b o n z c) (.slc b' o n z c')
 | yl {b b' : Nat} (h : v.R b' b) : Cv v (.yl b) (.yl b')
 | fptr {b o : Nat} {cs cs' : List T} (h : v.F b cs) (hl : CvL v cs cs') : Cv v (.ptr b o) (.iptr cs' o)
 | fslc {b o n z : Nat} {c c' : Option Nat} {cs xs cs' : List T} (h : v.F b cs) (hx : ∀ (i : Nat) (t : T),xs[i]? = some t→cs[o + i]? = some t) (hl : CvL v xs cs') (hc : c' = c∨c' = none) : Cv v (.slc b o n z c) (.islc cs' n c')
 | agg {a b : List T} (h : CvL v a b) : Cv v (.agg a) (.agg b)
 | tup {a b : List T} (h : CvL v a b) : Cv v (.tup a) (.tup b)
 | clo {f : FuncId} {a b c d : List T} (h : CvL v a b) (k : CvL v c d) : Cv v (.clo f a c) (.clo f b d)
 | iptr {a b : List T} {o : Nat} (h : CvL v a b) : Cv v (.iptr a o) (.iptr b o)
 | islc {a b : List T} {n : Nat} {c c' : Option Nat} (h : CvL v a b) (hc : c' = c∨c' = none) : Cv v (.islc a n c) (.islc b n c')
 | mp {ks : List Value} {a b : List T} (h : CvL v a b) : Cv v (.mp ks a) (.mp ks b)
 | om {b b' : Nat} (h : v.R b' b) : Cv v (.om b) (.om b')
 | fom {b : Nat} {ks : List Value} {ts us : List T} (h : v.G b ks ts) (hl : CvL v ts us) : Cv v (.om b) (.mp ks us)
 | islcT {a b xs : List T} {n : Nat} {c c' : Option Nat} (h : CvL v a b) (hc : c' = c∨c' = none) : Cv v (.islc (a ++ xs) n c) (.islc b n c')
inductive CvL (v : Vw) : List T→List T→Prop
 | nil : CvL v [] []
 | cons {t u : T} {ts us : List T} (h : Cv v t u) (k : CvL v ts us) : CvL v (t :: ts) (u :: us)
end
theorem CvL.pure {v : Vw} : ∀ {ts : List T},T.pureL ts = true→CvL v ts ts
 | [],_=>.nil
 | t :: ts,h=>by simp only [T.pureL,Bool.and_eq_true] at h;exact .cons (.pure h.1) (CvL.pure h.2)
theorem Cv.eq {v : Vw} {t u : T} (h : t = u) (p : u.pure = true) : Cv v t u:=by subst h;exact .pure p
theorem CvL.eq {v : Vw} {t u : List T} (h : t = u) (p : T.pureL u = true) : CvL v t u:=by subst h;exact .pure p
structure VwOk (v : Vw) (M M2 : Mp) : Prop where
 st : StaysI M M2
 sh : ∀ B s,M.w.shape? B = some s→M2.w.shape? B = some s
 r : ∀ b' b,v.R b' b→M2.β b' = M.β b
 vt : ∀ b',v.V b'→M2.β b' = some none
 f : ∀ b cs,v.F b cs→(∀ B O,M.β b = some (some (B,O))→∃ a,M2.imm B a∧RepA M cs a O)∧(M.β b = some none→cs = [])
 g : ∀ b ks ts,v.G b ks ts→∀ B O,M.β b = some (some (B,O))→∃ es n us,¬ M2.X B∧M2.w.heap[B]? = some (.map es n)∧mapIs es n ks us∧RepL M ts us
theorem zev {c c' : Option Nat} {k : Nat} (hc : c' = c∨c' = none) (h : ∀ q,c = some q→k = q) : ∀ q,c' = some q→k = q:=by
 rcases hc with rfl | rfl
 ·exact h
 ·intro q hq;cases hq
theorem zim {c c' : Option Nat} (hc : c' = c∨c' = none) (h : ∀ q,c = some q→q = 0) : ∀ q,c' = some q→q = 0:=by
 rcases hc with rfl | rfl
 ·exact h
 ·intro q hq;cases hq
mutual
theorem Cv.rep {v : Vw} {M M2 : Mp} (k : VwOk v M M2) : ∀ {t t' : T} (u : Value),Cv v t t'→Rep M t u→Rep M2 t' u
 | _,_,u,.pure h,r=>Rep.staysI k.st _ _ h r
 | _,_,u,.nil c h,r=>by
  obtain rfl:=r
  exact ⟨none,0,rfl,Nat.le_refl _,Nat.zero_le _,fun q hq=>by rcases h with rfl | rfl <;> simp_all,.inl ⟨rfl,rfl⟩⟩
 | _,_,u,.nilv h,r=>by obtain rfl:=r;exact .inl ⟨k.vt _ h,rfl,rfl,fun q hq=>(by cases hq),none,rfl⟩
 | _,_,u,.ptr h,r=>by obtain ⟨B,O,h1,h2⟩:=r;exact ⟨B,O,(k.r _ _ h).trans h1,h2⟩
 | _,_,u,.slc h hc,r=>by
  rcases r with ⟨h1,h2,h3,h4,h5⟩ | ⟨B,O,q,h1,h2,h3,h4,h5,e,s,h6,h7⟩
  ·exact .inl ⟨(k.r _ _ h).trans h1,h2,h3,zim hc h4,h5⟩
  ·exact .inr ⟨B,O,q,(k.r _ _ h).trans h1,h2,h3,h4,zev hc h5,e,s,k.sh _ _ h6,h7⟩
 | _,_,u,.yl h,r=>by obtain ⟨B,O,h1,h2⟩:=r;exact ⟨B,O,(k.r _ _ h).trans h1,h2⟩
 | _,_,u,.fptr h hl,r=>by
  obtain ⟨B,O,h1,h2⟩:=r
  obtain ⟨a,h3,h4⟩:=(k.f _ _ h).1 B O h1
  exact ⟨B,O,a,h2,h3,CvL.repA k a O hl h4⟩
 | _,_,u,.fslc (xs:=xs) h hx hl hc,r=>by
  rcases r with ⟨h1,h2,h3,h4,h5⟩ | ⟨B,O,q,h1,h2,h3,h4,h5,e,s,h6,h7⟩
  ·obtain rfl:=(k.f _ _ h).2 h1
   have : xs = []:=by
    cases xs with
    | nil=>rfl
    | cons x r=>have:=hx 0 x rfl;simp at this
   subst this
   cases hl
   obtain ⟨A,rfl⟩:=h5
   exact ⟨A,0,by rw [h2],by omega,Nat.zero_le _,fun q hq=>(zim hc h4 q hq).symm,.inl ⟨rfl,h2⟩⟩
  ·obtain ⟨a,h8,h9⟩:=(k.f _ _ h).1 B O h1
   exact ⟨_,q,h2,h3,h4,zev hc h5,.inr ⟨B,O + _,a,rfl,h8,CvL.repA k a _ hl (h9.sub hx)⟩⟩
 | _,_,u,.agg h,r=>by obtain ⟨us,h1,h2⟩:=r;exact ⟨us,h1,CvL.repL k us h h2⟩
 | _,_,u,.tup h,r=>by obtain ⟨us,h1,h2⟩:=r;exact ⟨us,h1,CvL.repL k us h h2⟩
 | _,_,u,.clo h h',r=>by obtain ⟨us,ws,h1,h2,h3⟩:=r;exact ⟨us,ws,h1,CvL.repL k us h h2,CvL.repL k ws h' h3⟩
 | _,_,u,.iptr h,r=>by obtain ⟨B,O,a,h1,h2,h3⟩:=r;exact ⟨B,O,a,h1,k.st.imm _ _ h2,CvL.repA k a O h h3⟩
 | _,_,u,.islc h hc,r=>by
  obtain ⟨A,q,h1,h2,h3,h4,h5⟩:=r
  refine ⟨A,q,h1,h2,h3,zev hc h4,?_⟩
  rcases h5 with ⟨rfl,h6⟩ | ⟨B,O,a,h6,h7,h8⟩
  ·cases h;exact .inl ⟨rfl,h6⟩
  ·exact .inr ⟨B,O,a,h6,k.st.imm _ _ h7,CvL.repA k a O h h8⟩
 | _,_,u,.mp h,r=>by
  obtain ⟨rr,es,n,us,h1,h2,h3,h4,h5⟩:=r
  obtain ⟨q1,q2⟩:=k.st.obj _ _ h2 h3 (fun d=>by simp)
  exact ⟨rr,es,n,us,h1,q1,q2,h4,CvL.repL k us h h5⟩
 | _,_,u,.om h,r=>by obtain ⟨B,O,h1,h2⟩:=r;exact ⟨B,O,(k.r _ _ h).trans h1,h2⟩
 | _,_,u,.fom h hl,r=>by
  obtain ⟨B,O,h1,h2⟩:=r
  obtain ⟨es,n,us,q1,q2,q3,q4⟩:=k.g _ _ _ h B O h1
  exact ⟨B,es,n,us,h2,q1,q2,q3,CvL.repL k us hl q4⟩
 | _,_,u,.islcT (a:=a) (xs:=xs) h hc,r=>by
  obtain ⟨A,q,h1,h2,h3,h4,h5⟩:=r
  refine ⟨A,q,h1,h2,h3,zev hc h4,?_⟩
  rcases h5 with ⟨h5,h6⟩ | ⟨B,O,arr,h6,h7,h8⟩
  ·have : a = []:=(List.append_eq_nil_iff.1 h5).1
   subst this;cases h;exact .inl ⟨rfl,h6⟩
  ·have h9 : RepA M a arr (O + 0):=h8.sub fun j t ht=>by rw [Nat.zero_add,List.getElem?_append_left (List.getElem?_eq_some_iff.1 ht).1];exact ht
   exact .inr ⟨B,O,arr,h6,k.st.imm _ _ h7,CvL.repA k arr O h h9⟩
theorem CvL.repL {v : Vw} {M M2 : Mp} (k : VwOk v M M2) : ∀ {ts ts' : List T} (us : List Value),CvL v ts ts'→RepL M ts us→RepL M2 ts' us
 | _,_,us,.nil,r=>r
 | _,_,us,.cons h h',r=>by obtain ⟨u,q,h1,h2,h3⟩:=r;exact ⟨u,q,h1,Cv.rep k u h h2,CvL.repL k q h' h3⟩
theorem CvL.repA {v : Vw} {M M2 : Mp} (k : VwOk v M M2) : ∀ {ts ts' : List T} (a : Array Value) (j : Nat),CvL v ts ts'→RepA M ts a j→RepA M2 ts' a j
 | _,_,a,j,.nil,r=>trivial
 | _,_,a,j,.cons h h',r=>by obtain ⟨u,h1,h2,h3⟩:=r;exact ⟨u,h1,Cv.rep k u h h2,CvL.repA k a (j + 1) h' h3⟩
end
def mapP (ks : List Value) (ts : List T) : OP :=
  ⟨fun M o => ∃ es n us, o = .map es n ∧ mapIs es n ks us ∧ RepL M ts us, fun h ⟨es, n, us, h1, h2, h3⟩ => ⟨es, n, us, h1, h2, RepL.stays h ts us h3⟩,
   T.pureL ts, fun p _ _ _ h ⟨es, n, us, h1, h2, h3⟩ => ⟨es, n, us, h1, h2, RepL.staysI h ts us p h3⟩⟩
def vwL (H : Hp) (ρ : List (Option Nat)) : Vw:=⟨fun b' b=>ρ[b']? = some (some b),fun b'=>ρ[b']? = some none,fun b cs=>lookH H b = some cs∧some b∉ρ,fun b ks ts=>blkH H b = .o (mapP ks ts)∧some b∉ρ⟩
def CvE (v : Vw) (E : Env) : Env→Prop
 | []=>True
 | (d,t) :: r=>(∃ s,E.get d = some s∧Cv v s t)∧CvE v E r
def CvB (v : Vw) (H : Hp) : Option Nat→Blk→Prop
 | some b,.c cs'=>∃ cs,lookH H b = some cs∧CvL v cs cs'
 | none,.c cs'=>cs' = []
 | some b,.o p=>blkH H b = .o p
 | none,.o _=>False
 | _,.d=>True
def CvH (v : Vw) (H : Hp) : List (Option Nat)→Hp→Prop
 | [],[]=>True
 | r :: ρ,x :: H2=>CvB v H r x∧CvH v H ρ H2
 | _,_=>False
def noneIn : Option Nat→List (Option Nat)→Bool
 | none,_=>true
 | some b,l=>l.all fun x=>match x with | some c=>!(Nat.beq b c) | none=>true
def injB : List (Option Nat)→Bool
 | []=>true
 | x :: r=>noneIn x r && injB r
def lbOk : Nat→Nat→List (Option Nat)→Prop
 | 0,_,_=>True
 | k + 1,i,some b :: r=>b = i∧lbOk k (i + 1) r
 | _ + 1,_,_=>False
def noO : Hp→Bool
 | []=>true
 | .o p :: r=>p.pi && noO r
 | _ :: r=>noO r
def Conv (lb : Nat) (E : Env) (H : Hp) (E2 : Env) (H2 : Hp) : Prop:=∃ ρ : List (Option Nat),injB ρ = true∧lbOk lb 0 ρ∧noO H2 = true∧CvE (vwL H ρ) E E2∧CvH (vwL H ρ) H ρ H2
theorem z4 {v : Vw} {E r : Env} {d : Nat} {s t : T} (h : E.get d = some s) (k : Cv v s t) (l : CvE v E r) : CvE v E ((d,t) :: r):=⟨⟨s,h,k⟩,l⟩
theorem yb {v : Vw} {E : Env} : ∀ {a b : Env},CvE v E a→CvE v E b→CvE v E (a ++ b)
 | [],_,_,k=>k
 | (d,t) :: a,_,⟨h1,h2⟩,k=>⟨h1,yb h2 k⟩
theorem zx {v : Vw} {H H2 : Hp} {r : Option Nat} {ρ : List (Option Nat)} {x : Blk} (h : CvB v H r x) (k : CvH v H ρ H2) : CvH v H (r :: ρ) (x :: H2):=⟨h,k⟩
theorem yk {v : Vw} {H : Hp} {b : Nat} {cs cs' : List T} (h : lookH H b = some cs) (k : CvL v cs cs') : CvB v H (some b) (.c cs'):=⟨cs,h,k⟩
theorem ym {v : Vw} {H : Hp} : CvB v H none (.c []):=rfl
theorem yq {v : Vw} {H : Hp} {r : Option Nat} : CvB v H r .d:=by cases r <;> trivial
theorem CvE.get {v : Vw} {E : Env} : ∀ {E2 : Env},CvE v E E2→∀ d t,E2.get d = some t→∃ s,E.get d = some s∧Cv v s t
 | [],_,d,t,h=>by cases h
 | (k,x) :: r,⟨h1,h2⟩,d,t,h=>by
  simp only [Env.get] at h
  split at h
  ·rename_i hk;subst hk;injection h with h;subst h;exact h1
  ·exact CvE.get h2 d t h
theorem CvH.length {v : Vw} {H : Hp} : ∀ {ρ : List (Option Nat)} {H2 : Hp},CvH v H ρ H2→ρ.length = H2.length
 | [],[],_=>rfl
 | _ :: ρ,_ :: H2,⟨_,h⟩=>by simp [CvH.length h]
theorem CvH.at {v : Vw} {H : Hp} : ∀ {ρ : List (Option Nat)} {H2 : Hp},CvH v H ρ H2→∀ i,i < H2.length→∃ r,ρ[i]? = some r∧CvB v H r (blkH H2 i)
 | [],[],_,i,hi=>by simp at hi
 | r :: ρ,x :: H2,⟨h,_⟩,0,_=>⟨r,rfl,h⟩
 | r :: ρ,x :: H2,⟨_,h⟩,i + 1,hi=>by simpa [blkH] using CvH.at h i (by simpa using hi)
theorem zhv : ∀ {ρ : List (Option Nat)},injB ρ = true→∀ (i j b : Nat),ρ[i]? = some (some b)→ρ[j]? = some (some b)→i = j
 | [],_,i,j,b,h,_=>by simp at h
 | x :: r,hh,i,j,b,h1,h2=>by
  simp only [injB,Bool.and_eq_true] at hh
  have no : x = some b→∀ k,r[k]?≠some (some b):=fun hx k hk=>by
   subst hx
   have:=List.all_eq_true.1 hh.1 _ (List.mem_of_getElem? hk)
   simp at this
  cases i with
  | zero=>
   cases j with
   | zero=>rfl
   | succ j=>simp at h1 h2;exact absurd h2 (no h1 j)
  | succ i=>
   cases j with
   | zero=>simp at h1 h2;exact absurd h1 (no h2 i)
   | succ j=>simp at h1 h2;rw [zhv hh.2 i j b h1 h2]
theorem zdl : ∀ {k i : Nat} {ρ : List (Option Nat)},lbOk k i ρ→∀ j,j < k→ρ[j]? = some (some (i + j))
 | k + 1,i,some b :: r,⟨h1,h2⟩,0,_=>by subst h1;rfl
 | k + 1,i,some b :: r,⟨h1,h2⟩,j + 1,hj=>by
  have:=zdl h2 j (by omega)
  simpa [Nat.add_assoc,Nat.add_comm 1 j] using this
theorem zeg : ∀ {H : Hp},noO H = true→∀ b p,blkH H b = .o p→p.pi = true
 | [],_,b,p,k=>by simp [blkH] at k
 | .c cs :: r,h,0,p,k=>by simp [blkH] at k
 | .d :: r,h,0,p,k=>by simp [blkH] at k
 | .o q :: r,h,0,p,k=>by
  simp only [noO,Bool.and_eq_true] at h
  simp only [blkH] at k
  injection k with k;subst k;exact h.1
 | .c cs :: r,h,b + 1,p,k=>zeg (by simpa [noO] using h) b p (by simpa only [blkH] using k)
 | .d :: r,h,b + 1,p,k=>zeg (by simpa [noO] using h) b p (by simpa only [blkH] using k)
 | .o q :: r,h,b + 1,p,k=>by
  simp only [noO,Bool.and_eq_true] at h
  exact zeg h.2 b p (by simpa only [blkH] using k)
section
variable {z : Bool} {P : Program} {tab : Tab} {n kb lb : Nat} {E : Env} {H : Hp} {QT : Exit→Env→Hp→Prop} {X0 : Nat→Prop} {a : Act} {M : Mp}
theorem zfy {v : Vw} {b : Nat} {x : Blk} (h : CvB v H (some b) x) (hx : x≠.d) : blkH H b≠.d:=by
 cases x with
 | c cs=>obtain ⟨cs0,h1,-⟩:=h;rw [y9.1 h1];simp
 | o p=>have h : blkH H b = .o p:=h;rw [h];simp
 | d=>exact absurd rfl hx
def viewM (M : Mp) (X0 : Nat→Prop) (H2 : Hp) (ρ : List (Option Nat)) : Mp:=
 let β:=fun b'=>match ρ[b']? with | some (some b)=>M.β b | some none=>some none | none=>none
 ⟨β,fun B=>X0 B∨∃ b' O,blkH H2 b'≠.d∧β b' = some (some (B,O)),M.w⟩
theorem zau [Dr] {ρ : List (Option Nat)} {H2 : Hp} (hS : SimH H X0 M) (hi : injB ρ = true) (hO : noO H2 = true) (hH : CvH (vwL H ρ) H ρ H2) :
  VwOk (vwL H ρ) M (viewM M X0 H2 ρ)∧SimH H2 X0 (viewM M X0 H2 ρ)∧(∀ B,(viewM M X0 H2 ρ).X B→M.X B):=by
 have hlen:=hH.length
 have hβ : ∀ b' b,ρ[b']? = some (some b)→(viewM M X0 H2 ρ).β b' = M.β b:=fun b' b h=>by show (match ρ[b']? with | some (some b)=>M.β b | some none=>some none | none=>none) = _;rw [h]
 have hβn : ∀ b',ρ[b']? = some none→(viewM M X0 H2 ρ).β b' = some none:=fun b' h=>by show (match ρ[b']? with | some (some b)=>M.β b | some none=>some none | none=>none) = _;rw [h]
 have hβo : ∀ b',ρ[b']? = none→(viewM M X0 H2 ρ).β b' = none:=fun b' h=>by show (match ρ[b']? with | some (some b)=>M.β b | some none=>some none | none=>none) = _;rw [h]
 have hmap : ∀ b' B O,blkH H2 b'≠.d→(viewM M X0 H2 ρ).β b' = some (some (B,O))→∃ b,ρ[b']? = some (some b)∧blkH H b≠.d∧M.β b = some (some (B,O)):=fun b' B O h1 h2=>by
  have hlt:=xa h1
  obtain ⟨r,h3,h4⟩:=hH.at b' hlt
  cases r with
  | none=>rw [hβn b' h3] at h2;cases h2
  | some b=>rw [hβ b' b h3] at h2;exact ⟨b,h3,zfy h4 h1,h2⟩
 have hX : ∀ B,(viewM M X0 H2 ρ).X B→M.X B:=fun B hB=>by
  rcases hB with h | ⟨b',O,h1,h2⟩
  ·exact (hS.own B).2 (.inl h)
  ·obtain ⟨b,h3,h4,h5⟩:=hmap b' B O h1 h2
   exact (hS.own B).2 (.inr ⟨b,O,h4,h5⟩)
 have hst : StaysI M (viewM M X0 H2 ρ):=⟨fun B o h1 h2 _=>⟨fun h=>h1 (hX B h),h2⟩⟩
 have hok : VwOk (vwL H ρ) M (viewM M X0 H2 ρ):=by
  refine ⟨hst,fun _ _ h=>h,hβ,hβn,fun b cs hF=>?_,fun b ks ts hG B O hB=>?_⟩
  rotate_left
  ·obtain ⟨hc,hno⟩:=hG
   obtain ⟨B',o,h1,h2,h3,⟨es,n,us,e1,h4,h5⟩,h6⟩:=hS.liveo b _ hc (xa (by rw [hc];simp))
   rw [hB] at h1;injection h1 with h1;injection h1 with h1;injection h1 with e2 e3;subst e2
   refine ⟨es,n,us,?_,by rw [← e1];exact h2,h4,h5⟩
   rintro (hx | ⟨b',O',g1,g2⟩)
   ·exact h6 hx
   ·obtain ⟨b2,g3,g4,g5⟩:=hmap b' B O' g1 g2
    have:=hS.inj b2 b B O' O g4 (by rw [hc];simp) g5 hB
    subst this
    exact hno (List.mem_of_getElem? g3)
  obtain ⟨hc,hno⟩:=hF
  have hcb:=y9.1 hc
  refine ⟨fun B O hB=>?_,fun hB=>?_⟩
  ·rcases hS.live b cs hcb (xn hc) with ⟨h1,-⟩ | ⟨B',O',ar,e,fz,h1,h2,h3,h4,h5,h6⟩
   ·rw [hB] at h1;cases h1
   ·rw [hB] at h1;injection h1 with h1;injection h1 with h1;injection h1 with e1 e2;subst e1 e2
    refine ⟨ar,⟨?_,e,fz,h2⟩,h4⟩
    rintro (hx | ⟨b',O',g1,g2⟩)
    ·exact h6 hx
    ·obtain ⟨b2,g3,g4,g5⟩:=hmap b' B O' g1 g2
     have:=hS.inj b2 b B O' O g4 (by rw [hcb];simp) g5 hB
     subst this
     exact hno (List.mem_of_getElem? g3)
  ·rcases hS.live b cs hcb (xn hc) with ⟨-,h2⟩ | ⟨B',O',ar,e,fz,h1,-⟩
   ·exact h2
   ·rw [hB] at h1;cases h1
 refine ⟨hok,⟨fun b' cells hb hd=>?_,fun b' p hb hd=>?_,fun b1 b2 B O O' h1 h2 h3 h4=>?_,fun b' hb=>?_,fun B=>Iff.rfl,fun B hB=>hS.bnd B (hX B hB),Glo.sub hS.glo rfl hX⟩,hX⟩
 ·obtain ⟨r,h3,h4⟩:=hH.at b' hd
  rw [hb] at h4
  cases r with
  | none=>exact .inl ⟨hβn b' h3,h4⟩
  | some b=>
   obtain ⟨cs,h5,h6⟩:=h4
   rcases hS.live b cs (y9.1 h5) (xn h5) with ⟨h1,h2⟩ | ⟨B,O,ar,e,fz,h1,h2,h7,h8,h9,h10⟩
   ·subst h2;cases h6;exact .inl ⟨(hβ b' b h3).trans h1,rfl⟩
   ·exact .inr ⟨B,O,ar,e,fz,(hβ b' b h3).trans h1,h2,h7,h6.repA hok ar O h8,h9,h10⟩
 ·obtain ⟨r,h3,h4⟩:=hH.at b' hd
  rw [hb] at h4
  cases r with
  | none=>exact h4.elim
  | some b=>
   have h4 : blkH H b = .o p:=h4
   obtain ⟨B,o,k1,k2,k3,k4,k5⟩:=hS.liveo b p h4 (xa (by rw [h4];simp))
   exact ⟨B,o,(hβ b' b h3).trans k1,k2,k3,p.sti (zeg hO b' p hb) hst k4,k5⟩
 ·obtain ⟨c1,g1,g2,g3⟩:=hmap b1 B O h1 h3
  obtain ⟨c2,k1,k2,k3⟩:=hmap b2 B O' h2 h4
  have:=hS.inj c1 c2 B O O' g2 k2 g3 k3
  subst this
  exact zhv hi b1 b2 c1 g1 k1
 ·exact hβo b' (by rw [List.getElem?_eq_none_iff];omega)
theorem St.conv [Dr] {E2 : Env} {H2 : Hp} (hs : St n kb E H X0 a M) (hc : Conv lb E H E2 H2) : ∃ M2,M2.w = M.w∧EvoK lb X0 M M2∧St n kb E2 H2 X0 a M2:=by
 obtain ⟨ρ,hi,hl,hO,hE,hH⟩:=hc
 obtain ⟨h1,h2,h3⟩:=zau hs.sim hi hO hH
 have hev : EvoK lb X0 M (viewM M X0 H2 ρ):=⟨fun b p hb hp=>by
  have h4:=zdl hl b hb
  rw [Nat.zero_add] at h4
  exact (h1.r b b h4).trans hp,fun B _ hx h=>hx (h3 B h),fun _ _ _=>rfl,fun _ _ h=>h,rfl,Tp.refl _,rfl,Nat.le_refl _⟩
 refine ⟨viewM M X0 H2 ρ,rfl,hev,fun d t ht=>?_,hs.sz,?_,hs.ge,h2⟩
 ·obtain ⟨s,g1,g2⟩:=hE.get d t ht
  obtain ⟨u,g3,g4⟩:=hs.tm d s g1
  exact ⟨u,g3,g2.rep h1 u g4⟩
 ·have:=hs.df
  generalize a.defers = ds at this ⊢
  induction ds with
  | nil=>trivial
  | cons d ds ih=>
   obtain ⟨⟨r,k1,k0,k2,k3,k4⟩,k5⟩:=this
   exact ⟨⟨r,k1,k0,fun h=>k2 (h3 r h),k3,k4⟩,ih k5⟩
theorem VC.conv [Dr] {c : Code} (E2 : Env) (H2 : Hp) (hc : Conv lb E H E2 H2) (h : VC z P n lb c QT E2 H2) : VC z P n lb c QT E H:=by
 intro X0 M a r kb hz hs
 obtain ⟨M2,h1,h2,h3⟩:=hs.conv hc
 have:=h X0 M2 a r kb hz h3
 rw [h1] at this
 exact wpIn_mono this fun e a' w' hl=>hl.evo h2
theorem VC.loopC [Dr] {c : Code} (I : Nat→Env→Hp→Prop) (m : Nat) (L : Env) (H0 : Hp) (hc : Conv lb E H L H0) (h0 : I m L H0)
  (round : ∀ m L H,I m L H→VC z P n lb c (ExThen (fun E' H'=>∃ m' L' H'',m' < m∧I m' L' H''∧Conv lb E' H' L' H'') QT) L H) : VC z P n lb (.loop c) QT E H:=by
 intro X0 M a r kb hz hs
 obtain ⟨M0,q1,q2,q3⟩:=hs.conv hc
 refine zbw (fun m a' w'=>∃ L' H' M',I m L' H'∧M'.w = w'∧EvoK lb X0 M M'∧St n kb L' H' X0 a' M') m ⟨L,H0,M0,h0,q1,q2,q3⟩ fun m a' w' ⟨L',H',M',h1,h2,h3,h4⟩=>?_
 subst h2
 refine wpIn_mono (round m L' H' h1 X0 M' a' r kb hz h4) fun e a2 w2 hq=>?_
 obtain ⟨E2,H2,M2,k1,k2,k3,k4⟩:=hq
 cases e with
 | normal=>
  obtain ⟨m',L2,H3,j1,j2,j3⟩:=k1
  obtain ⟨M3,g1,g2,g3⟩:=k4.conv j3
  exact ⟨m',j1,L2,H3,M3,j2,g1.trans k2,h3.trans (k3.trans g2),g3⟩
 | _=>exact ⟨E2,H2,M2,k1,k2,h3.trans k3,k4⟩
def lcE (E : Env) : List Nat→Option Env
 | []=>some []
 | d :: ds=>match E.get d,lcE E ds with
  | some t,some r=>some ((d,t) :: r)
  | _,_=>none
theorem yy [Dr] {c : Code} {σ : Type} {Lc : Env} (μ : σ→Nat) (R : σ→Prop) (L : σ→Env) (Hs : σ→Hp) (ds : List Nat) (hL : lcE E ds = some Lc) (s : σ) (hc : Conv lb E H (L s ++ Lc) (Hs s)) (h0 : R s)
  (round : ∀ s,R s→VC z P n lb c (ExThen (fun E' H'=>∃ s',μ s' < μ s∧R s'∧Conv lb E' H' (L s' ++ Lc) (Hs s')) QT) (L s ++ Lc) (Hs s)) : VC z P n lb (.loop c) QT E H:=by
 refine VC.loopC (fun m L' H'=>∃ s,m = μ s∧R s∧L' = L s ++ Lc∧H' = Hs s) (μ s) (L s ++ Lc) (Hs s) hc ⟨s,rfl,h0,rfl,rfl⟩ ?_;rintro m L' H' ⟨s,rfl,h1,rfl,rfl⟩;refine (round s h1).mono fun e E' H' h=>?_
 cases e with
 | normal=>obtain ⟨s',h2,h3,h4⟩:=h;exact ⟨μ s',_,_,h2,⟨s',rfl,h3,rfl,rfl⟩,h4⟩
 | _=>exact h
theorem zi8 [Dr] {c : Code} {σ1 : Type} {σ2 : Type} {Lc : Env} (μ : σ1→σ2→Nat) (R : σ1→σ2→Prop) (L : σ1→σ2→Env) (Hs : σ1→σ2→Hp) (ds : List Nat) (hL : lcE E ds = some Lc) (s1 : σ1) (s2 : σ2) (hc : Conv lb E H (L s1 s2 ++ Lc) (Hs s1 s2)) (h0 : R s1 s2)
  (round : ∀ s1 s2,R s1 s2→VC z P n lb c (ExThen (fun E' H'=>∃ t1 t2,μ t1 t2 < μ s1 s2∧R t1 t2∧Conv lb E' H' (L t1 t2 ++ Lc) (Hs t1 t2)) QT) (L s1 s2 ++ Lc) (Hs s1 s2)) : VC z P n lb (.loop c) QT E H:=
 yy (σ:=σ1 × σ2) (fun s=>μ s.1 s.2) (fun s=>R s.1 s.2) (fun s=>L s.1 s.2) (fun s=>Hs s.1 s.2) ds hL ⟨s1,s2⟩ hc h0 fun ⟨s1,s2⟩ h=>(round s1 s2 h).mono fun e E' H' h=>by
  cases e with
  | normal=>obtain ⟨t1,t2,h2,h3,h4⟩:=h;exact ⟨⟨t1,t2⟩,h2,h3,h4⟩
  | _=>exact h
theorem xr [Dr] {c : Code} {Lc : Env} (L : Env) (H2 : Hp) (ds : List Nat) (hL : lcE E ds = some Lc) (hc : Conv lb E H (L ++ Lc) H2) (k : VC z P n lb c QT (L ++ Lc) H2) : VC z P n lb c QT E H:=VC.conv _ _ hc k
theorem YieldT.mono [Dr] {b : Nat} {args : List T} {Q Q' : T→Hp→Prop} (h : YieldT P b args H Q) (k : ∀ t H',Q t H'→Q' t H') : YieldT P b args H Q':=by
 intro X0 M B O us h1 h2 h3
 obtain ⟨f',tmps,asx,bd,y1,y2⟩:=h X0 M B O us h1 h2 h3
 exact ⟨f',tmps,asx,bd,y1,fun r=>(y2 r).mono fun e w' ⟨u,t,H',M',k1,k2,k3,k4⟩=>⟨u,t,H',M',k1,k2,k _ _ k3,k4⟩⟩
theorem CallP.intro2 [Dr] {f : FuncId} {args : List T} {r : T} (ha : T.pureL args = true) (hr : r.pure = true) (h : CallT P f args [] (fun t H'=>Cv (vwL H' []) t r)) : CallP P f args r:=by
 refine ⟨ha,hr,h.1,fun X0 M us hS hrep=>(h.2 X0 M us hS hrep).mono ?_⟩
 rintro e w' ⟨u,t,H',M',rfl,rfl,h3,h4,h5,h6⟩;obtain ⟨k1,k2,k3⟩:=zau (ρ:=[]) (H2:=[]) h5 rfl rfl trivial
 refine ⟨u,r,[],viewM M' X0 [] [],rfl,rfl,rfl,⟨fun b p hp=>?_,fun B hB hx h=>h4.nox B hB hx (k3 B h),h4.keep,h4.shape,h4.os,h4.tape,h4.output,h4.size⟩,k2,h3.rep k1 u h6⟩
 have:=hS.dom b (by simp)
 rw [this] at hp;cases hp
end
end

section
structure BSt where
 pos : Nat
 out : List UInt8
 inn : List UInt8
deriving DecidableEq,Inhabited
structure Bf where
 past : List BSt
 fut : List BSt
 text : List UInt8
deriving DecidableEq,Inhabited
def wth (l : List BSt) (one : BSt) : List BSt:=(if 256≤l.length then l.drop (l.length - 255) else l) ++ [one]
def Bf.chg (b : Bf) (one : BSt) : Bf:=⟨wth b.past one,[],b.text.take one.pos ++ one.inn ++ b.text.drop (one.pos + one.out.length)⟩
def Bf.undo (b : Bf) : Bf × Bool:=
 match b.past.getLast? with
 | none=>(b,false)
 | some one=>(⟨b.past.dropLast,wth b.fut one,b.text.take one.pos ++ one.out ++ b.text.drop (one.pos + one.inn.length)⟩,true)
def Bf.redo (b : Bf) : Bf × Bool:=
 match b.fut.getLast? with
 | none=>(b,false)
 | some one=>(⟨wth b.past one,b.fut.dropLast,b.text.take one.pos ++ one.inn ++ b.text.drop (one.pos + one.out.length)⟩,true)
theorem qr {l : List BSt} {one : BSt} (h : l.length < 256) : wth l one = l ++ [one]:=by unfold wth;rw [if_neg (by omega)]
/- letters that are typed, one by one -/
structure Ec where
 cur : Nat
 anc : Nat
 bf : Bf
 cop : List UInt8
deriving DecidableEq,Inhabited
def Ec.lo (e : Ec) : Nat:=min e.cur e.anc
def Ec.hi (e : Ec) : Nat:=max e.cur e.anc
def Ec.cut (e : Ec) : Ec:=if e.lo = e.hi then e else { e with bf:=e.bf.chg ⟨e.lo,(e.bf.text.take e.hi).drop e.lo,[]⟩,cur:=e.lo,anc:=e.lo }
def Ec.ins (e : Ec) (s : List UInt8) : Ec:=if 4096 < e.bf.text.length + s.length then e else { e with bf:=e.bf.chg ⟨e.cur,[],s⟩,cur:=e.cur + s.length,anc:=e.cur + s.length }
def Ec.put (e : Ec) (s : List UInt8) : Ec:=e.cut.ins s
def Ec.back (e : Ec) (p : Bf × Bool) : Ec:=if p.2 then { e with bf:=p.1,cur:=min e.cur p.1.text.length,anc:=min e.cur p.1.text.length } else e
def Ec.erase (e : Ec) : Ec:=if e.lo≠e.hi then e.cut else if e.cur = 0 then e else { e with bf:=e.bf.chg ⟨e.cur - 1,(e.bf.text.take e.cur).drop (e.cur - 1),[]⟩,cur:=e.cur - 1,anc:=e.cur - 1 }
/- lines of a text -/
def nlN (s : List UInt8) : Option Nat:=s.findIdx? (fun b=>b == 10)
theorem zah {s : List UInt8} {i : Nat} (h : nlN s = some i) : i < s.length:=by
 obtain ⟨h1,-⟩:=List.findIdx?_eq_some_iff_getElem.1 h
 exact h1
def lnFrom (s : List UInt8) : Nat→Nat
 | 0=>0
 | n + 1=>match nlN (s.drop (lnFrom s n)) with | some i=>lnFrom s n + i + 1 | none=>lnFrom s n
def lnTo (s : List UInt8) (n : Nat) : Nat:=match nlN (s.drop (lnFrom s n)) with | some i=>lnFrom s n + i | none=>s.length
theorem wu (s : List UInt8) : ∀ n,lnFrom s n≤s.length
 | 0=>Nat.zero_le _
 | n + 1=>by
  have ih:=wu s n
  unfold lnFrom
  split
  ·rename_i i hi
   have:=zah hi
   rw [List.length_drop] at this
   omega
  ·exact ih
theorem uk (s : List UInt8) (n : Nat) : lnFrom s n≤lnTo s n∧lnTo s n≤s.length:=by
 have h:=wu s n
 unfold lnTo
 split
 ·rename_i i hi
  have:=zah hi
  rw [List.length_drop] at this
  omega
 ·exact ⟨h,Nat.le_refl _⟩
def lnN (s : List UInt8) : Nat:=s.count 10 + 1
def lineN (s : List UInt8) (n : Int) : List UInt8:=if n < 0∨(lnN s : Int)≤n then [] else (s.take (lnTo s n.toNat)).drop (lnFrom s n.toNat)
def clampN (v : Int) (m : Nat) : Nat:=(min (max v 0) (m : Int)).toNat
theorem s5 (v : Int) (m : Nat) : clampN v m≤m:=by unfold clampN;omega
def placeN (s : List UInt8) (line col : Int) : Nat:=lnFrom s (clampN line (lnN s - 1)) + clampN col (lnTo s (clampN line (lnN s - 1)) - lnFrom s (clampN line (lnN s - 1)))
theorem v9 (s : List UInt8) (line col : Int) : placeN s line col≤s.length:=by
 unfold placeN
 have h1:=uk s (clampN line (lnN s - 1))
 have h2:=s5 col (lnTo s (clampN line (lnN s - 1)) - lnFrom s (clampN line (lnN s - 1)))
 omega
def colN (a : List UInt8) : Nat:=(a.reverse.takeWhile fun b=>b != 10).length
theorem zds (a : List UInt8) : colN a≤a.length:=by
 have h:=(List.takeWhile_sublist (fun b=>b != (10 : UInt8)) (l:=a.reverse)).length_le
 rw [List.length_reverse] at h
 exact h
def spotN (s : List UInt8) (k : Nat) : Nat × Nat:=((s.take k).count 10,colN (s.take k))
theorem sg (s : List UInt8) (k : Nat) : (spotN s k).1≤s.length∧(spotN s k).2≤s.length:=by
 have h1:=List.count_le_length (a:=(10 : UInt8)) (l:=s.take k)
 have h2:=zds (s.take k)
 rw [List.length_take] at h1 h2
 unfold spotN
 dsimp only
 omega
def sightN (first k many : Int) : Int:=if k < first then k else if many≤k - first then k - many + 1 else first
theorem zby {first k many : Int} (h1 : 0≤first) (h2 : 0≤k) (h3 : 1≤many) : 0≤sightN first k many∧sightN first k many≤max first k:=by
 unfold sightN
 split
 ·omega
 ·split <;> omega
end

section
open Go.RowKit
theorem add_none (b o j : Nat) : (⟨b,o,none⟩ : Addr).add j = ⟨b,o + j,none⟩:=by
 unfold Addr.add
 by_cases h : j = 0
 ·simp [h]
 ·simp [h]
def Rd (w : World) (k : Nat) (v : Value) (n : Nat) (xs : List Value) : Prop:=
 xs.length = n * k∧∃ A c,v = .slice A n c∧n≤c∧c≤maxLen∧(A = none∨∃ b o,A = some ⟨b,o,none⟩)∧
  (0 < n→∃ b o,A = some ⟨b,o,none⟩∧b < w.heap.size∧∀ j u,xs[j]? = some u→w.cell? ⟨b,o + j,none⟩ = some u)
theorem Rd.next {w w' : World} {k n : Nat} {v : Value} {xs : List Value} (h : Rd w k v n xs) (hb : Below w.heap.size w w') : Rd w' k v n xs:=by
 obtain ⟨h1,A,c,hv,h2,h3,h4,h5⟩:=h
 refine ⟨h1,A,c,hv,h2,h3,h4,fun hn=>?_⟩
 obtain ⟨b,o,hA,hlt,hc⟩:=h5 hn
 exact ⟨b,o,hA,Nat.lt_of_lt_of_le hlt hb.size,fun j u hu=>(hb.cell (p:=⟨b,o + j,none⟩) hlt).trans (hc j u hu)⟩
theorem Rd.nil (w : World) (k : Nat) : Rd w k (.slice none 0 0) 0 []:=
 ⟨by simp,none,0,rfl,Nat.le_refl _,Nat.zero_le _,Or.inl rfl,fun h=>absurd h (by omega)⟩
structure OwnAt (w : World) (B : Nat) (e : TypeId) (k g o n c : Nat) (xs : List Value) : Prop where
 base : B≤g
 kind : ∃ cur fz,w.heap[g]? = some (.cells cur e fz)
 le : n≤c
 max : c≤maxLen
 room : ∀ j,j < c * k→(w.cell? ⟨g,o + j,none⟩).isSome = true∧w.frozen? ⟨g,o + j,none⟩ = false
 holds : ∀ j u,xs[j]? = some u→w.cell? ⟨g,o + j,none⟩ = some u
theorem OwnAt.lt {w : World} {B : Nat} {e : TypeId} {k g o n c : Nat} {xs : List Value} (h : OwnAt w B e k g o n c xs) : g < w.heap.size:=by
 obtain ⟨cur,fz,hk⟩:=h.kind
 rcases Nat.lt_or_ge g w.heap.size with hlt | hge
 ·exact hlt
 ·rw [Array.getElem?_eq_none hge] at hk;cases hk
theorem OwnAt.keep {w w' : World} {B : Nat} {e : TypeId} {k g o n c : Nat} {xs : List Value} (h : OwnAt w B e k g o n c xs) (hb : w'.heap[g]? = w.heap[g]?) : OwnAt w' B e k g o n c xs:=by
 refine ⟨h.base,by obtain ⟨cur,fz,hk⟩:=h.kind;exact ⟨cur,fz,hb.trans hk⟩,h.le,h.max,fun j hj=>?_,fun j u hu=>?_⟩
 ·rw [World.cell?_of_block (a:=⟨g,o + j,none⟩) hb,World.frozen?_of_block (a:=⟨g,o + j,none⟩) hb];exact h.room j hj
 ·rw [World.cell?_of_block (a:=⟨g,o + j,none⟩) hb];exact h.holds j u hu
def Own (w : World) (B : Nat) (e : TypeId) (k : Nat) (v : Value) (n : Nat) (xs : List Value) : Prop:=
 xs.length = n * k∧((∃ A,v = .slice A 0 0∧n = 0∧(A = none∨∃ b o,A = some ⟨b,o,none⟩))∨∃ g o c,v = .slice (some ⟨g,o,none⟩) n c∧OwnAt w B e k g o n c xs)
theorem Own.nil (w : World) (B : Nat) (e : TypeId) (k : Nat) : Own w B e k (.slice none 0 0) 0 []:=⟨by simp,Or.inl ⟨none,rfl,rfl,Or.inl rfl⟩⟩
theorem Own.next {w w' : World} {B : Nat} {e : TypeId} {k n : Nat} {v : Value} {xs : List Value} (h : Own w B e k v n xs) (hb : Below w.heap.size w w') : Own w' B e k v n xs:=by
 refine ⟨h.1,?_⟩
 rcases h.2 with h0 | ⟨g,o,c,hv,ho⟩
 ·exact Or.inl h0
 ·exact Or.inr ⟨g,o,c,hv,ho.keep (hb.block g ho.lt)⟩
theorem Own.base {w : World} {B B' : Nat} {e : TypeId} {k n : Nat} {v : Value} {xs : List Value} (h : Own w B e k v n xs) (hB : B'≤B) : Own w B' e k v n xs:=by
 refine ⟨h.1,?_⟩
 rcases h.2 with h0 | ⟨g,o,c,hv,ho⟩
 ·exact Or.inl h0
 ·exact Or.inr ⟨g,o,c,hv,Nat.le_trans hB ho.base,ho.kind,ho.le,ho.max,ho.room,ho.holds⟩
theorem Own.kind {w : World} {B : Nat} {e : TypeId} {k n : Nat} {v : Value} {xs : List Value} (h : Own w B e k v n xs) (hn : 0 < n) : ∃ g cur fz,v.ownBlock = some g∧B≤g∧w.heap[g]? = some (.cells cur e fz):=by
 rcases h.2 with ⟨A,hv,h0,_⟩ | ⟨g,o,c,hv,ho⟩
 ·omega
 ·obtain ⟨cur,fz,hk⟩:=ho.kind
  exact ⟨g,cur,fz,by rw [hv];rfl,ho.base,hk⟩
theorem sf (g : Nat) : ∀ (vs : List Value) (o : Nat) (w : World),(w.setCells g o vs).tape = w.tape
 | [],_,_=>rfl
 | v :: r,o,w=>by rw [World.setCells,sf g r (o + 1)];rfl
theorem si (g : Nat) : ∀ (vs : List Value) (o : Nat) (w : World),(w.setCells g o vs).heap.size = w.heap.size
 | [],_,_=>rfl
 | v :: r,o,w=>by rw [World.setCells,si g r (o + 1)];simp [World.setCell]
theorem p7 (w : World) (g o : Nat) (vs : List Value) : w.grownBy (w.setCells g o vs) (some g):=
 ⟨World.os_setCells w g o vs,sf g vs o w,World.output_setCells w g o vs,by rw [si];exact Nat.le_refl _,fun i hi hne=>World.heap_setCells_other w g o vs hi (fun e=>hne (by rw [e]))⟩
def AppRow (w w' : World) (v : Value) (e : TypeId) : Prop:=w.grownBy w' none∨∃ g cur fz,v.ownBlock = some g∧w.heap[g]? = some (.cells cur e fz)∧w.grownBy w' (some g)
theorem AppRow.block {w w' : World} {v : Value} {e : TypeId} (h : AppRow w w' v e) {b : Nat} {cs : Array Value} {t : TypeId} {fz : Nat × Nat} (hb : w.heap[b]? = some (.cells cs t fz)) (hne : e≠t) : w'.heap[b]? = w.heap[b]?:=by
 have hlt : b < w.heap.size:=by
  rcases Nat.lt_or_ge b w.heap.size with hlt | hge
  ·exact hlt
  ·rw [Array.getElem?_eq_none hge] at hb;cases hb
 rcases h with h | ⟨g,cur,fz',_,hk,h⟩
 ·exact h.block b hlt (by simp)
 ·refine h.block b hlt (fun he=>?_)
  injection he with he
  subst he
  rw [hb] at hk
  injection hk with hk
  injection hk with _ ht
  exact hne ht.symm
theorem AppRow.own {w w' : World} {v : Value} {e : TypeId} (h : AppRow w w' v e) {B : Nat} {e' : TypeId} {k n : Nat} {u : Value} {xs : List Value} (ho : Own w B e' k u n xs) (hne : e≠e') : Own w' B e' k u n xs:=by
 refine ⟨ho.1,?_⟩
 rcases ho.2 with h0 | ⟨g,o,c,hv,ho⟩
 ·exact Or.inl h0
 ·obtain ⟨cur,fz,hk⟩:=ho.kind
  exact Or.inr ⟨g,o,c,hv,ho.keep (h.block hk hne)⟩
section
variable {P : Program} (w : World)
theorem Rd.src {k n : Nat} {v : Value} {xs : List Value} {tx e' : TypeId} (h : Rd w k v n xs) (hk : P.underlying tx = some (.slice e')) (h1 : ∀ u∈xs,u.oneCell' = true) : Src P k tx v n xs w:=by
 obtain ⟨hl,A,c,rfl,hle,hmx,hA,hc⟩:=h
 rcases Nat.eq_zero_or_pos n with h0 | h0
 ·subst h0
  obtain rfl : xs = []:=List.eq_nil_of_length_eq_zero (by simpa using hl)
  rcases hA with rfl | ⟨b,o,rfl⟩
  ·exact Src.ofNil w hk c
  ·exact Src.ofSlice w hk ⟨b,o,none⟩ 0 c [] (by simp) (fun j u hu=>by simp at hu) h1
 ·obtain ⟨b,o,rfl,_,hcell⟩:=hc h0
  exact Src.ofSlice w hk ⟨b,o,none⟩ n c xs hl (fun j u hu=>by rw [add_none];exact hcell j u hu) h1
theorem Own.from {B : Nat} {e t : TypeId} {v : Value} {n : Nat} {xs : List Value} (h : Own w B e 1 v n xs) (ht : P.underlying t = some (.slice e)) (hz : ∀ w,(Go.sizeOf e).run P w = .ok 1 w) (l : Nat) (hl : l≤n) :
  ∃ v',(∀ W,(Instr.slice t v (some (.int .i64 (l : Int))) none none).run P W = .ok v' W)∧Own w B e 1 v' (n - l) (xs.drop l):=by
 have ht' : P.underlying t = some (.slice (P.elem t)):=by simp [Program.elem,ht]
 have he : P.elem t = e:=by simp [Program.elem,ht]
 have hlen : (xs.drop l).length = (n - l) * 1:=by rw [List.length_drop,h.1];omega
 rcases h.2 with ⟨A,hv,h0,hA⟩ | ⟨g,o,c,hv,ho⟩
 ·subst h0
  obtain rfl : l = 0:=by omega
  refine ⟨.slice A 0 0,fun W=>?_,hlen,Or.inl ⟨A,rfl,rfl,hA⟩⟩
  rw [hv,run_slice_l W t _ _ _ ht' .i64 _ (by omega) (by omega),he,hz]
  simp [Result.andThen,sliced]
 ·have hle:=ho.le
  by_cases hc : c = l
  ·subst hc
   refine ⟨.slice (some ⟨g,o,none⟩) 0 0,fun W=>?_,hlen,Or.inl ⟨_,rfl,by omega,Or.inr ⟨_,_,rfl⟩⟩⟩
   rw [hv,run_slice_l W t _ _ _ ht' .i64 _ (by omega) (by omega),he,hz]
   simp [Result.andThen,sliced]
   omega
  ·refine ⟨.slice (some ⟨g,o + l,none⟩) (n - l) (c - l),fun W=>?_,hlen,Or.inr ⟨g,o + l,c - l,rfl,ho.base,ho.kind,by omega,by have:=ho.max;omega,fun j hj=>?_,fun j u hu=>?_⟩⟩
   ·rw [hv,run_slice_l W t _ _ _ ht' .i64 _ (by omega) (by omega),he,hz]
    by_cases h0 : l = 0
    ·subst h0
     simp [Result.andThen,sliced,Addr.add,hc]
    ·simp [Result.andThen,sliced,Addr.add,hc,h0]
   ·rw [Nat.add_assoc];exact ho.room (l + j) (by omega)
   ·rw [Nat.add_assoc];exact ho.holds (l + j) u (by rw [← List.getElem?_drop];exact hu)
end
end

section
open Go.RowKit
end

section
open Go.RowKit
def blankV : Value:=.int .u8 32
def BlkR (w : World) (g N k : Nat) : Prop:=∃ cur : List Value,w.heap[g]? = some (.cells cur.toArray 5 (0,0))∧cur.length = N∧cur.take k = List.replicate k blankV
theorem BlkR.own {w : World} {g N n B : Nat} (h : BlkR w g N n) (hB : B≤g) (hn : n≤N) (hm : n≤maxLen) : Own w B 5 1 (.slice (some ⟨g,0,none⟩) n n) n (List.replicate n blankV):=by
 obtain ⟨cur,hg,hl,ht⟩:=h
 refine ⟨by simp,Or.inr ⟨g,0,n,rfl,hB,⟨_,_,hg⟩,Nat.le_refl _,hm,fun j hj=>?_,fun j u hu=>?_⟩⟩
 ·rw [Nat.zero_add]
  refine ⟨?_,frozen_of_row _ _ _ _ _ hg⟩
  rw [cell_of_row _ _ _ _ _ _ hg,List.getElem?_toArray,List.getElem?_eq_getElem (by omega)]
  rfl
 ·rw [Nat.zero_add,cell_of_row _ _ _ _ _ _ hg,List.getElem?_toArray]
  rw [← ht,List.getElem?_take] at hu
  split at hu
  ·exact hu
  ·cases hu
theorem BlkR.step {w' : World} {g N k m : Nat} (cur : List Value) (hl : cur.length = N) (ht : cur.take k = List.replicate k blankV) (hkm : k + m≤N)
  (h : w'.heap[g]? = some (.cells (splice cur k (List.replicate m blankV)).toArray 5 (0,0))) : BlkR w' g N (k + m):=by
 refine ⟨_,h,by rw [length_splice _ _ _ (by rw [List.length_replicate];omega)];exact hl,?_⟩
 unfold splice
 rw [ht,← List.append_assoc,List.replicate_append_replicate,List.take_append_of_le_length (by rw [List.length_replicate];exact Nat.le_refl _),List.take_of_length_le (by rw [List.length_replicate];exact Nat.le_refl _)]
end

section
open Go.RowKit
structure Scr where
 cols : Nat
 rows : Nat
 most : Nat
 x : Nat
 y : Nat
 grid : List UInt8
 kept : List (List UInt8)
 st : Nat
 n0 : Nat
 n1 : Nat
 num : Nat
def strV (l : List UInt8) : Value:=.string ⟨l.toArray⟩
def Scr.vals (S : Scr) (vc vk : Value) : Array Value:=
 #[.int .i64 S.cols,.int .i64 S.rows,.int .i64 S.most,.int .i64 S.x,.int .i64 S.y,vc,vk,.int .i64 S.st,.int .i64 S.n0,.int .i64 S.n1,.int .i64 S.num]
structure Scr.Ok (S : Scr) : Prop where
 c1 : 1≤S.cols
 c2 : S.cols≤128
 r1 : 1≤S.rows
 r2 : S.rows≤64
 m : S.most≤1000
 x : S.x≤S.cols
 y : S.y < S.rows
 g : S.grid.length = S.cols * S.rows
 k : S.kept.length≤S.most
 s : S.st≤2
 a : S.n0≤999
 b : S.n1≤999
 n : S.num≤2
def CV (w : World) (v : Value) (S : Scr) : Prop:=
 ∃ vc vk,v = .agg (S.vals vc vk)∧Rd w 1 vc S.grid.length (Lib.byteCells S.grid)∧Rd w 1 vk S.kept.length (S.kept.map strV)∧(∀ c,vc = .slice none S.grid.length c→c = 0)∧(∀ c,vk = .slice none S.kept.length c→c = 0)
theorem CV.next {w w' : World} {v : Value} {S : Scr} (h : CV w v S) (hb : Below w.heap.size w w') : CV w' v S:=by
 obtain ⟨vc,vk,hv,h1,h2,h3,h4⟩:=h
 exact ⟨vc,vk,hv,h1.next hb,h2.next hb,h3,h4⟩
def RdT (w : World) (e : TypeId) (v : Value) (n : Nat) (xs : List Value) : Prop:=
 Rd w 1 v n xs∧(0 < n→∀ g,v.ownBlock = some g→∃ cur fz,w.heap[g]? = some (.cells cur e fz))
theorem block_lt {w : World} {g : Nat} {o : Obj} (h : w.heap[g]? = some o) : g < w.heap.size:=by
 rcases Nat.lt_or_ge g w.heap.size with hlt | hge
 ·exact hlt
 ·rw [Array.getElem?_eq_none hge] at h;cases h
theorem RdT.next {w w' : World} {e : TypeId} {n : Nat} {v : Value} {xs : List Value} (h : RdT w e v n xs) (hb : Below w.heap.size w w') : RdT w' e v n xs:=by
 refine ⟨h.1.next hb,fun hn g hg=>?_⟩
 obtain ⟨cur,fz,hk⟩:=h.2 hn g hg
 exact ⟨cur,fz,(hb.block g (block_lt hk)).trans hk⟩
theorem RdT.nil (w : World) (e : TypeId) : RdT w e (.slice none 0 0) 0 []:=⟨Rd.nil _ _,fun h=>absurd h (by omega)⟩
def CK (w : World) (v : Value) (S : Scr) : Prop:=
 ∃ vc vk,v = .agg (S.vals vc vk)∧RdT w 5 vc S.grid.length (Lib.byteCells S.grid)∧RdT w 9 vk S.kept.length (S.kept.map strV)∧(∀ c,vc = .slice none S.grid.length c→c = 0)∧(∀ c,vk = .slice none S.kept.length c→c = 0)
theorem CK.next {w w' : World} {v : Value} {S : Scr} (h : CK w v S) (hb : Below w.heap.size w w') : CK w' v S:=by
 obtain ⟨vc,vk,hv,h1,h2,h3,h4⟩:=h
 exact ⟨vc,vk,hv,h1.next hb,h2.next hb,h3,h4⟩
structure Bx (B b : Nat) (w w' : World) : Prop where
 os : w'.os = w.os
 tape : w'.tape = w.tape
 output : w'.output = w.output
 size : w.heap.size≤w'.heap.size
 block : ∀ k,k < B→k≠b→w'.heap[k]? = w.heap[k]?
theorem Bx.refl (B b : Nat) (w : World) : Bx B b w w:=⟨rfl,rfl,rfl,Nat.le_refl _,fun _ _ _=>rfl⟩
theorem Bx.trans {B b : Nat} {w v u : World} (h : Bx B b w v) (k : Bx B b v u) : Bx B b w u:=
 ⟨k.os.trans h.os,k.tape.trans h.tape,k.output.trans h.output,Nat.le_trans h.size k.size,fun i hi hn=>(k.block i hi hn).trans (h.block i hi hn)⟩
theorem Bx.of {B b : Nat} {w w' : World} (h : Below B w w') : Bx B b w w':=⟨h.os,h.tape,h.output,h.size,fun k hk _=>h.block k hk⟩
theorem Bx.alloc {B b : Nat} {a w : World} (h : Bx B b a w) (hB : B≤w.heap.size) (o : Obj) : Bx B b a (w.alloc o):=h.trans (Bx.of ((Below.refl _ _).alloc hB o))
theorem Bx.cells {B b : Nat} {a w : World} (h : Bx B b a w) (g o : Nat) (vs : List Value) (hg : B≤g) (hB : B≤w.heap.size) : Bx B b a (w.setCells g o vs):=
 h.trans (Bx.of ((Below.refl _ _).grown (p7 w g o vs) hB (fun q hq=>by injection hq with hq;omega)))
end

section
open Go.RowKit
abbrev I64 (n : Int) : T:=.v (.int .i64 n)
abbrev U8 (n : Int) : T:=.v (.int .u8 n)
abbrev BL (b : Bool) : T:=.v (.bool b)
abbrev NIL : T:=.v (.slice none 0 0)
structure Cd (α : Type) where
 sz : Nat
 cells : α→List T
 len : ∀ a,(cells a).length = sz
 pure : ∀ a,T.pureL (cells a) = true
 cb : ∀ a,(cells a).all cellB = true
 pos : 0 < sz
def cI : Cd Int:=⟨1,fun n=>[I64 n],fun _=>rfl,fun _=>rfl,fun _=>rfl,by decide⟩
def cU : Cd Int:=⟨1,fun n=>[U8 n],fun _=>rfl,fun _=>rfl,fun _=>rfl,by decide⟩
theorem t8 : cI.sz = 1:=rfl
theorem zfx : cU.sz = 1:=rfl
section
variable {α : Type} (c : Cd α)
def encL (l : List α) : List T:=l.flatMap c.cells
theorem xy (a : α) (l : List α) : encL c (a :: l) = c.cells a ++ encL c l:=rfl
theorem yr (l m : List α) : encL c (l ++ m) = encL c l ++ encL c m:=by simp [encL]
theorem ye : ∀ l : List α,(encL c l).length = l.length * c.sz
 | []=>by simp [encL]
 | a :: l=>by rw [xy,List.length_append,c.len,ye l,List.length_cons,Nat.add_mul];omega
theorem zp : ∀ l : List α,T.pureL (encL c l) = true
 | []=>rfl
 | a :: l=>by
  rw [xy]
  have h1:=c.pure a
  have h2:=zp l
  generalize c.cells a = x at h1
  induction x with
  | nil=>exact h2
  | cons t x ih=>simp only [T.pureL,Bool.and_eq_true,List.cons_append] at h1 ⊢;exact ⟨h1.1,ih h1.2⟩
theorem sq : ∀ (a b : List T),T.pureL (a ++ b) = (T.pureL a && T.pureL b)
 | [],b=>by simp [T.pureL]
 | t :: a,b=>by simp only [List.cons_append,T.pureL,sq a b,Bool.and_assoc]
theorem Cv.slcE {v : Vw} {b b' o n n' z : Nat} {c c' : Option Nat} (h : v.R b' b) (hn : n = n') (hc : c' = c∨c' = none) : Cv v (.slc b o n z c) (.slc b' o n' z c'):=by subst hn;exact .slc h hc
theorem wh (l : List α) : (encL c l).all cellB = true:=by
 rw [List.all_eq_true]
 intro t ht
 obtain ⟨a,-,h2⟩:=List.mem_flatMap.1 ht
 exact List.all_eq_true.1 (c.cb a) t h2
theorem zeq : ∀ (l : List α) (m k : Nat) (a : α),l[m]? = some a→k < c.sz→(encL c l)[m * c.sz + k]? = (c.cells a)[k]?
 | [],m,k,a,h,_=>by simp at h
 | x :: l,0,k,a,h,hk=>by
  simp at h;subst h
  rw [xy,Nat.zero_mul,Nat.zero_add,List.getElem?_append_left (by rw [c.len];exact hk)]
 | x :: l,m + 1,k,a,h,hk=>by
  rw [xy,List.getElem?_append_right (by rw [c.len,Nat.add_mul];omega),c.len,show (m + 1) * c.sz + k - c.sz = m * c.sz + k from by rw [Nat.add_mul];omega]
  exact zeq l m k a (by simpa using h) hk
theorem u4 : ∀ (l : List α) (m : Nat),(encL c l).drop (m * c.sz) = encL c (l.drop m)
 | [],m=>by simp [encL]
 | x :: l,0=>by simp
 | x :: l,m + 1=>by
  rw [xy,List.drop_succ_cons,← u4 l m,Nat.add_mul,Nat.one_mul,Nat.add_comm,← List.drop_drop,List.drop_append_of_le_length (by rw [c.len];exact Nat.le_refl _)]
  rw [List.drop_of_length_le (i:=c.sz) (l:=c.cells x) (by rw [c.len];exact Nat.le_refl _),List.nil_append]
theorem zco : ∀ (l : List α) (m : Nat),(encL c l).take (m * c.sz) = encL c (l.take m)
 | [],m=>by simp [encL]
 | x :: l,0=>by simp [encL]
 | x :: l,m + 1=>by
  rw [xy,List.take_succ_cons,xy,← zco l m,Nat.add_mul,Nat.one_mul,Nat.add_comm,List.take_append,c.len]
  rw [List.take_of_length_le (by rw [c.len];omega),show c.sz + m * c.sz - c.sz = m * c.sz from by omega]
theorem wx {ti : TyI} {l : List α} {m off : Nat} {a : α} {v : T} (hm : l[m]? = some a) (ho : off + ti.sz≤c.sz) (hz : ti.k.agg = true∨off < c.sz) (hv : partT ti (c.cells a) off = some v) : partT ti (encL c l) (m * c.sz + off) = some v:=by
 unfold partT at hv ⊢
 by_cases hag : ti.k.agg = true
 ·rw [if_pos hag] at hv ⊢
  rw [c.len,if_pos ho] at hv
  have hml : m < l.length:=(List.getElem?_eq_some_iff.1 hm).1
  have hle : (m + 1) * c.sz≤l.length * c.sz:=Nat.mul_le_mul_right _ hml
  rw [if_pos (by rw [ye];rw [Nat.add_mul] at hle;omega)]
  rw [← hv]
  congr 2
  rw [← List.drop_drop,u4]
  have hd : l.drop m = a :: l.drop (m + 1):=by
   obtain ⟨h1,h2⟩:=List.getElem?_eq_some_iff.1 hm
   rw [← h2];exact List.drop_eq_getElem_cons h1
  rw [hd,xy,List.drop_append_of_le_length (by rw [c.len];omega),List.take_append_of_le_length (by rw [List.length_drop,c.len];omega)]
 ·rw [if_neg hag] at hv ⊢
  rw [zeq c l m off a hm (hz.resolve_left hag)];exact hv
theorem zao {ti : TyI} {l : List α} {tl : List T} {m off : Nat} {a : α} {v : T} (hm : l[m]? = some a) (ho : off + ti.sz≤c.sz) (hz : ti.k.agg = true∨off < c.sz) (hv : partT ti (c.cells a) off = some v) : partT ti (encL c l ++ tl) (m * c.sz + off) = some v:=by
 have h:=wx c hm ho hz hv
 have hml : m < l.length:=(List.getElem?_eq_some_iff.1 hm).1
 have hle : (m + 1) * c.sz≤l.length * c.sz:=Nat.mul_le_mul_right _ hml
 rw [Nat.add_mul] at hle
 unfold partT at h ⊢
 by_cases hag : ti.k.agg = true
 ·rw [if_pos hag] at h ⊢
  rw [ye,if_pos (by omega)] at h
  rw [List.length_append,ye,if_pos (by omega),← h,List.drop_append_of_le_length (by rw [ye];omega),List.take_append_of_le_length (by rw [List.length_drop,ye];omega)]
 ·rw [if_neg hag] at h ⊢
  rw [List.getElem?_append_left (by have:=hz.resolve_left hag;rw [ye];omega)];exact h
theorem zdr {ti : TyI} {l : List α} {tl : List T} {m : Nat} {a : α} {v : T} (hm : l[m]? = some a) (ho : ti.sz≤c.sz) (hv : partT ti (c.cells a) 0 = some v) : partT ti (encL c l ++ tl) (m * c.sz) = some v:=
 zao c (off:=0) hm (by omega) (.inr c.pos) hv
theorem z6 {ti : TyI} {l : List α} {m : Nat} {a : α} {v : T} (hm : l[m]? = some a) (ho : ti.sz≤c.sz) (hv : partT ti (c.cells a) 0 = some v) : partT ti (encL c l) (m * c.sz) = some v:=
 wx c (off:=0) hm (by omega) (.inr c.pos) hv
theorem zep : ∀ (l : List α) (m off : Nat) (a b : α) (xs : List T),l[m]? = some a→off + xs.length≤c.sz→putL (c.cells a) off xs = c.cells b→putL (encL c l) (m * c.sz + off) xs = encL c (l.set m b)
 | [],m,off,a,b,xs,h,_,_=>by simp at h
 | x :: l,0,off,a,b,xs,h,ho,hp=>by
  simp at h;subst h
  rw [List.set_cons_zero,xy,xy,← hp]
  unfold putL
  rw [Nat.zero_mul,Nat.zero_add,List.take_append_of_le_length (by rw [c.len];omega),List.drop_append_of_le_length (by rw [c.len];omega)]
  simp [List.append_assoc]
 | x :: l,m + 1,off,a,b,xs,h,ho,hp=>by
  rw [List.set_cons_succ,xy,xy,← zep l m off a b xs (by simpa using h) ho hp]
  unfold putL
  rw [show (m + 1) * c.sz + off = c.sz + (m * c.sz + off) from by rw [Nat.add_mul];omega]
  rw [List.take_append,c.len,List.take_of_length_le (by rw [c.len];omega),show c.sz + (m * c.sz + off) - c.sz = m * c.sz + off from by omega]
  rw [List.drop_append,c.len,List.drop_of_length_le (by rw [c.len];omega),show c.sz + (m * c.sz + off) + xs.length - c.sz = m * c.sz + off + xs.length from by omega]
  simp [List.append_assoc]
end
theorem getE {α : Type} [Inhabited α] {l : List α} {m : Nat} (h : m < l.length) : l[m]? = some l[m]!:=by rw [getElem!_pos l m h];exact List.getElem?_eq_getElem h
section
variable {q : Bool} {P : Program} {tab : Tab} {im : List Nat} {ds : List (Option Nat)} {l : List Oper} {E : Env} {H : Hp} {K : Env→Hp→Prop} {d : Nat} {ty : TypeId} {pos : String} {after : Array Edge}
theorem wq {n : Int} (h : -9223372036854775808≤n∧n≤9223372036854775807) : IntKind.i64.wrap n = n:=by rw [IntKind.wrap];simp [IntKind.bits,IntKind.signed];omega
theorem yu [Dr] {x y : Operand} {t t2 : Nat} {a b : Int} (hx : E.opd x = some (.v (.int .i64 a))) (hy : E.opd y = some (.v (.int .i64 b))) (h : -9223372036854775808≤a - b∧a - b≤9223372036854775807) (k : VX q P tab im ds l ((d,.v (.int .i64 (a - b))) :: E) H K) : VX q P tab im ds (⟨some d,.binOp .sub t x y t2,ty,pos,after,none⟩ :: l) E H K:=
 za (t:=.v (.int .i64 (a - b))) (by simp only [opM,hx,hy,mBin,binInt,if_true,Option.map_some,wq h]) k
theorem zy [Dr] {x y : Operand} {t t2 : Nat} {a b : Int} (hx : E.opd x = some (.v (.int .i64 a))) (hy : E.opd y = some (.v (.int .i64 b))) (h : -9223372036854775808≤a + b∧a + b≤9223372036854775807) (k : VX q P tab im ds l ((d,.v (.int .i64 (a + b))) :: E) H K) : VX q P tab im ds (⟨some d,.binOp .add t x y t2,ty,pos,after,none⟩ :: l) E H K:=
 za (t:=.v (.int .i64 (a + b))) (by simp only [opM,hx,hy,mBin,binInt,if_true,Option.map_some,wq h]) k
theorem vv [Dr] {x y : Operand} {t t2 : Nat} {a b : Int} (hx : E.opd x = some (.v (.int .i64 a))) (hy : E.opd y = some (.v (.int .i64 b))) (h : -9223372036854775808≤a * b∧a * b≤9223372036854775807) (k : VX q P tab im ds l ((d,.v (.int .i64 (a * b))) :: E) H K) : VX q P tab im ds (⟨some d,.binOp .mul t x y t2,ty,pos,after,none⟩ :: l) E H K:=
 za (t:=.v (.int .i64 (a * b))) (by simp only [opM,hx,hy,mBin,binInt,if_true,Option.map_some,wq h]) k
theorem zhh {ρ : EnvF} {look : Look} {nx : Nat} {c a f : Operand} {b v : Bool} (hc : ρ c = some (.v (.bool b))) (hf : ρ f = some (.v (.bool false))) (ha : b = true→ρ a = some (.v (.bool v))) : opM tab look nx ρ (.pick c a f) = some (.v (.bool (b && v)),none):=by
 cases b
 ·simp only [opM,hc,hf]
  cases ρ a with
  | none=>rfl
  | some t=>cases t <;> first | rfl | (rename_i x;cases x <;> rfl)
 ·simp only [opM,hc,ha rfl,hf,if_true,Bool.true_and]
theorem zj1 {ρ : EnvF} {look : Look} {nx : Nat} {c a f : Operand} {b v : Bool} (hc : ρ c = some (.v (.bool b))) (hf : ρ f = some (.v (.bool true))) (ha : b = false→ρ a = some (.v (.bool v))) : opM tab look nx ρ (.pick c f a) = some (.v (.bool (b || v)),none):=by
 cases b
 ·simp only [opM,hc,ha rfl,hf,Bool.false_or];rfl
 ·simp only [opM,hc,hf,Bool.true_or]
  cases ρ a with
  | none=>rfl
  | some t=>cases t <;> first | rfl | (rename_i x;cases x <;> rfl)
theorem z3 [Dr] {c a : Operand} {b v : Bool} (hc : E.opd c = some (.v (.bool b))) (ha : b = true→E.opd a = some (.v (.bool v))) (k : VX q P tab im ds l ((d,.v (.bool (b && v))) :: E) H K) : VX q P tab im ds (⟨some d,.pick c a (.const (.bool false)),ty,pos,after,none⟩ :: l) E H K:=
 za (zhh hc rfl ha) k
theorem zr [Dr] {c a : Operand} {b v : Bool} (hc : E.opd c = some (.v (.bool b))) (ha : b = false→E.opd a = some (.v (.bool v))) (k : VX q P tab im ds l ((d,.v (.bool (b || v))) :: E) H K) : VX q P tab im ds (⟨some d,.pick c (.const (.bool true)) a,ty,pos,after,none⟩ :: l) E H K:=
 za (zj1 hc rfl ha) k
theorem zg [Dr] {dst : Option Nat} {op : Op} {j g : Nat} {want b : Bool} (hj : ds[j]? = some (some g)) (hb : E.get g = some (.v (.bool b))) (he : b = want) (h1 : VX q P tab im ds (⟨dst,op,ty,pos,after,none⟩ :: l) E H K) : VX q P tab im ds (⟨dst,op,ty,pos,after,some (j,want)⟩ :: l) E H K:=
 zt hj hb (fun _=>h1) (fun h=>by subst he;cases b <;> cases h)
theorem zl [Dr] {dst : Option Nat} {op : Op} {j g : Nat} {want b : Bool} (hj : ds[j]? = some (some g)) (hb : E.get g = some (.v (.bool b))) (he : b = !want) (h0 : VX q P tab im ds l (putC E dst (.v undef)) H K) : VX q P tab im ds (⟨dst,op,ty,pos,after,some (j,want)⟩ :: l) E H K:=
 zt hj hb (fun h=>by subst h;cases b <;> cases he) (fun _=>h0)
theorem re [Dr] {dst : Option Nat} {op : Op} {j g : Nat} {want : Bool} {xs : Array Value} (hj : ds[j]? = some (some g)) (hb : E.get g = some (.v (.tuple xs))) (h0 : VX q P tab im ds l (putC E dst (.v undef)) H K) : VX q P tab im ds (⟨dst,op,ty,pos,after,some (j,want)⟩ :: l) E H K:=by
 intro E2 he
 have hb':=he _ _ hb
 cases q
 ·show vcGuard ds E2 _ _ _
  unfold vcGuard
  simp only [hj,hb']
  exact h0 _ (he.put _ _)
 ·show vcGuard ds E2 _ _ _
  unfold vcGuard
  simp only [hj,hb']
  exact h0 _ (he.put _ _)
theorem z9 [Dr] {t e m : Nat} {x ix : Operand} {i j : TyI} {cs : List T} {n : Nat} {c : Option Nat} {k : IntKind} {z : Int} (hT : tab t = some i) (hk : i.k = .sl e) (hj : tab e = some j) (hx : E.opd x = some (.islc cs n c)) (hi : E.opd ix = some (.v (.int k z))) (hz : z = (m : Int)) (hm : m < n)
  (kk : VX q P tab im ds l ((d,.iptr cs (m * j.sz)) :: E) H K) : VX q P tab im ds (⟨some d,.indexAddr t x ix,ty,pos,after,none⟩ :: l) E H K:=by
 subst hz
 exact za (by simp only [opM,hx,hi,mIndexAddr,hT,hk,hj];rw [if_pos ⟨by omega,by omega⟩];rfl) kk
theorem uu [Dr] {t e m b o z0 : Nat} {x ix : Operand} {i j : TyI} {n : Nat} {c : Option Nat} {k : IntKind} {z : Int} (hT : tab t = some i) (hk : i.k = .sl e) (hj : tab e = some j) (hx : E.opd x = some (.slc b o n z0 c)) (hi : E.opd ix = some (.v (.int k z))) (hs : j.sz = z0) (hz : z = (m : Int)) (hm : m < n)
  (kk : VX q P tab im ds l ((d,.ptr b (o + m * z0)) :: E) H K) : VX q P tab im ds (⟨some d,.indexAddr t x ix,ty,pos,after,none⟩ :: l) E H K:=by
 subst hz
 exact za (by simp only [opM,hx,hi,mIndexAddr,hT,hk,hj];rw [if_pos ⟨hs,by omega,by omega⟩];rfl) kk
theorem ut [Dr] {t e m b z0 : Nat} {x ix : Operand} {i j : TyI} {n : Nat} {c : Option Nat} {k : IntKind} {z : Int} (hT : tab t = some i) (hk : i.k = .sl e) (hj : tab e = some j) (hx : E.opd x = some (.slc b 0 n z0 c)) (hi : E.opd ix = some (.v (.int k z))) (hs : j.sz = z0) (hz : z = (m : Int)) (hm : m < n)
  (kk : VX q P tab im ds l ((d,.ptr b (m * z0)) :: E) H K) : VX q P tab im ds (⟨some d,.indexAddr t x ix,ty,pos,after,none⟩ :: l) E H K:=uu hT hk hj hx hi hs hz hm (by rw [Nat.zero_add];exact kk)
theorem zd [Dr] {t : Nat} {a : Operand} {i : TyI} {cs : List T} {o : Nat} {v : T} (hT : tab t = some i) (ha : E.opd a = some (.iptr cs o)) (hp : partT i cs o = some v) (k : VX q P tab im ds l ((d,v) :: E) H K) : VX q P tab im ds (⟨some d,.load t a,ty,pos,after,none⟩ :: l) E H K:=
 za (by simp only [opM,ha,mLoad,hT,hp]) k
theorem ze [Dr] {t b : Nat} {a : Operand} {i : TyI} {cs : List T} {o : Nat} {v : T} (hT : tab t = some i) (ha : E.opd a = some (.ptr b o)) (hc : lookH H b = some cs) (hp : partT i cs o = some v) (k : VX q P tab im ds l ((d,v) :: E) H K) : VX q P tab im ds (⟨some d,.load t a,ty,pos,after,none⟩ :: l) E H K:=
 za (by simp only [opM,ha,mLoad,hT,hc,hp]) k
theorem zi1 [Dr] {t e n p r : Nat} {x : Operand} {lo hi : Option Operand} {L Hh : Option Int} {i j : TyI} {cs : List T} {c : Option Nat} (hT : tab t = some i) (hk : i.k = .sl e) (hj : tab e = some j) (hx : E.opd x = some (.islc cs n c)) (hl : optI lo E.opd = some L) (hh : optI hi E.opd = some Hh) (hm : (none : Option Operand) = none)
  (hp : L.getD 0 = (p : Int)) (hr : Hh.getD n = (r : Int)) (h1 : p≤r) (h2 : r≤n) (h3 : p = 0∨p < n) (k : VX q P tab im ds l ((d,.islc (cs.drop (p * j.sz)) (r - p) (c.map fun q=>q - p)) :: E) H K) : VX q P tab im ds (⟨some d,.slice t x lo hi none,ty,pos,after,none⟩ :: l) E H K:=by
 refine za (t:=.islc (cs.drop (p * j.sz)) (r - p) (c.map fun q=>q - p)) ?_ k
 simp only [opM,hx,hl,hh,mSlice,hT,hk,hj,show optI none E.opd = some none from rfl]
 rw [hp,hr,if_pos ⟨by omega,by omega,by omega⟩,if_pos (by omega)]
 rw [Int.toNat_natCast,show ((r : Int) - (p : Int)).toNat = r - p from by omega]
theorem cap_sub0 (c : Option Nat) : (c.map fun q=>q - 0) = c:=by cases c <;> rfl
theorem zbq [Dr] {t e n r : Nat} {x : Operand} {hi : Option Operand} {Hh : Option Int} {i j : TyI} {cs : List T} {c : Option Nat} (hT : tab t = some i) (hk : i.k = .sl e) (hj : tab e = some j) (hx : E.opd x = some (.islc cs n c)) (hh : optI hi E.opd = some Hh)
  (hr : Hh.getD n = (r : Int)) (h2 : r≤n) (k : VX q P tab im ds l ((d,.islc cs r c) :: E) H K) : VX q P tab im ds (⟨some d,.slice t x none hi none,ty,pos,after,none⟩ :: l) E H K:=
 zi1 (p:=0) (L:=none) hT hk hj hx rfl hh rfl rfl hr (by omega) h2 (.inl rfl) (by rw [cap_sub0,Nat.zero_mul,List.drop_zero,Nat.sub_zero];exact k)
end
/- weaker arguments -/
mutual
def T.scal : T→Bool
 | .v _=>true
 | .agg cs=>T.scalL cs
 | .tup cs=>T.scalL cs
 | _=>false
def T.scalL : List T→Bool
 | []=>true
 | t :: ts=>T.scal t && T.scalL ts
end
mutual
theorem Rep.scal {M M' : Mp} : ∀ (t : T) (u : Value),t.scal = true→Rep M t u→Rep M' t u
 | .v _,_,_,r=>r
 | .agg cs,_,p,⟨us,h1,h2⟩=>⟨us,h1,RepL.scal cs us (by simpa only [T.scal] using p) h2⟩
 | .tup cs,_,p,⟨us,h1,h2⟩=>⟨us,h1,RepL.scal cs us (by simpa only [T.scal] using p) h2⟩
 | .clo _ _ _,_,p,_=>by simp [T.scal] at p
 | .ptr _ _,_,p,_=>by simp [T.scal] at p
 | .slc _ _ _ _ _,_,p,_=>by simp [T.scal] at p
 | .iptr _ _,_,p,_=>by simp [T.scal] at p
 | .islc _ _ _,_,p,_=>by simp [T.scal] at p
 | .yl _,_,p,_=>by simp [T.scal] at p
 | .mp _ _,_,p,_=>by simp [T.scal] at p
 | .om _,_,p,_=>by simp [T.scal] at p
theorem RepL.scal {M M' : Mp} : ∀ (ts : List T) (us : List Value),T.scalL ts = true→RepL M ts us→RepL M' ts us
 | [],_,_,r=>r
 | t :: ts,_,p,⟨u,r,h1,h2,h3⟩=>by
  simp only [T.scalL,Bool.and_eq_true] at p
  exact ⟨u,r,h1,Rep.scal t u p.1 h2,RepL.scal ts r p.2 h3⟩
end
theorem CallP.look [Dr] {P : Program} {f : FuncId} {args asx : List T} {r : T} {H : Hp} (h : CallP P f asx r) (hr : r.scal = true) (hv : CvL (vwL H []) args asx) : CallT P f args H (fun t H'=>t = r∧H' = H):=by
 refine ⟨h.2.2.1,fun X0 M us hS hrep=>?_⟩
 obtain ⟨k1,k2,k3⟩:=zau (ρ:=[]) (H2:=[]) hS rfl rfl trivial
 refine (h.run X0 (viewM M X0 [] []) us k2.bnd k2.glo (hv.repL k1 us hrep)).mono ?_;rintro e w' ⟨u,rfl,q1,q2,q3⟩;have hE : Evo X0 M ⟨M.β,M.X,w'⟩:=⟨fun _ _ hp=>hp,fun _ _ hx=>hx,fun B hB _=>q3 B hB,q1.shape,q1.os,q1.tape,q1.output,q1.size⟩
 exact ⟨u,r,H,_,rfl,rfl,⟨rfl,rfl⟩,hE,hS.world hE q3,Rep.scal _ _ hr q2⟩
section
variable {P : Program} {tab : Tab} {im : List Nat} {ds : List (Option Nat)} {l : List Oper} {E : Env} {H : Hp} {K : Env→Hp→Prop}
theorem VX.callB [Dr] {d : Nat} {ty : TypeId} {pos : String} {after : Array Edge} {f : Operand} {args : Array Operand} {ats : Array TypeId} {g : FuncId} {fs cs ts asx : List T} {r : T} (hf : E.opd f = some (.clo g fs cs)) (ha : optL E.opd args.toList = some ts)
  (hc : CallP P g asx r) (hr : r.scal = true) (hv : CvL (vwL H []) (fs ++ ts ++ cs) asx) (k : VX false P tab im ds l ((d,r) :: E) H K) : VX false P tab im ds (⟨some d,.call ⟨.value f,args,ats⟩,ty,pos,after,none⟩ :: l) E H K:=
 y7 hf ha ((hc.look hr hv).mono fun t H' ⟨h1,h2⟩=>by subst h1 h2;exact k)
theorem zi3 [Dr] {d : Nat} {ty : TypeId} {pos : String} {after : Array Edge} {t e a b : Nat} {x y : Operand} {i j : TyI} {n m : Int} (hi : imB im (some d) = false) (hT : tab t = some i) (hk : i.k = .sl e) (hj : tab e = some j) (hx : E.opd x = some (.v (.int .i64 n))) (hy : E.opd y = some (.v (.int .i64 m))) (hn : n = (a : Int)) (hm : m = (b : Int)) (h1 : a≤b) (h2 : b≤2 ^ 47) (h3 : j.by_ * b≤2 ^ 48)
  (k : VX false P tab im ds l ((d,.slc H.length 0 a j.sz (some b)) :: E) (H ++ [.c (zeros b j.zero)]) K) : VX false P tab im ds (⟨some d,.makeSlice t x y,ty,pos,after,none⟩ :: l) E H K:=by
 subst hn hm
 exact yc hi (by simp only [opM,hx,hy,mMakeSlice,hT,hk,hj];rw [if_pos ⟨by omega,by omega,by omega,by exact_mod_cast h3⟩];rfl) k
end
end

section
open Go.RowKit
def vwIn (bs : List Nat) : Vw:=⟨fun b' b=>bs[b']? = some b,fun _=>False,fun _ _=>False,fun _ _ _=>False⟩
def vwOut (bs : List Nat) (n : Nat) : Vw:=⟨fun c j=>bs[j]? = some c∨(bs.length≤j∧c + bs.length = n + j),fun _=>False,fun _ _=>False,fun _ _ _=>False⟩
def CvIn (v : Vw) (H : Hp) : List Nat→Hp→Prop
 | [],[]=>True
 | b :: bs,.c cs' :: r=>(∃ cs,lookH H b = some cs∧CvL v cs cs')∧CvIn v H bs r
 | b :: bs,.o p :: r=>(blkH H b = .o p∧p.pi = true)∧CvIn v H bs r
 | _,_=>False
def CvOut (v : Vw) : Hp→Hp→Prop
 | [],l=>l = []
 | .c cs :: r,l=>∃ cs' r',l = .c cs' :: r'∧CvL v cs cs'∧CvOut v r r'
 | .d :: r,l=>∃ r',l = .d :: r'∧CvOut v r r'
 | .o p :: r,l=>∃ r',l = .o p :: r'∧p.pi = true∧CvOut v r r'
def outH : List Nat→Hp→Hp→Hp
 | b :: bs,H,x :: xs=>outH bs (setH H b x) xs
 | _,H,xs=>H ++ xs
def nodB : List Nat→Bool
 | []=>true
 | b :: r=>(r.all fun c=>!(Nat.beq b c)) && nodB r
theorem zhb : ∀ {bs : List Nat},nodB bs = true→∀ (i j b : Nat),bs[i]? = some b→bs[j]? = some b→i = j
 | [],_,i,j,b,h,_=>by simp at h
 | x :: r,hh,i,j,b,h1,h2=>by
  simp only [nodB,Bool.and_eq_true] at hh
  have no : x = b→∀ k,r[k]?≠some b:=fun hx k hk=>by
   subst hx
   have:=List.all_eq_true.1 hh.1 _ (List.mem_of_getElem? hk)
   simp at this
  cases i with
  | zero=>
   cases j with
   | zero=>rfl
   | succ j=>simp at h1 h2;exact absurd h2 (no h1 j)
  | succ i=>
   cases j with
   | zero=>simp at h1 h2;exact absurd h1 (no h2 i)
   | succ j=>simp at h1 h2;rw [zhb hh.2 i j b h1 h2]
theorem CvIn.length {v : Vw} {H : Hp} : ∀ {bs : List Nat} {Hl : Hp},CvIn v H bs Hl→bs.length = Hl.length
 | [],[],_=>rfl
 | _ :: bs,.c _ :: r,⟨_,h⟩=>by simp [CvIn.length h]
 | _ :: bs,.o _ :: r,⟨_,h⟩=>by simp [CvIn.length h]
theorem CvIn.at {v : Vw} {H : Hp} : ∀ {bs : List Nat} {Hl : Hp},CvIn v H bs Hl→∀ i b,bs[i]? = some b→(∃ cs cs',blkH Hl i = .c cs'∧lookH H b = some cs∧CvL v cs cs')∨∃ p,blkH Hl i = .o p∧blkH H b = .o p∧p.pi = true
 | [],[],_,i,b,h=>by simp at h
 | x :: bs,.c cs' :: r,⟨⟨cs,h1,h2⟩,_⟩,0,b,h=>by simp at h;subst h;exact .inl ⟨cs,cs',rfl,h1,h2⟩
 | x :: bs,.o p :: r,⟨h1,_⟩,0,b,h=>by simp at h;subst h;exact .inr ⟨p,rfl,h1.1,h1.2⟩
 | x :: bs,.o p :: r,⟨_,h⟩,i + 1,b,hb=>by simpa [blkH] using CvIn.at h i b (by simpa using hb)
 | x :: bs,.c cs' :: r,⟨_,h⟩,i + 1,b,hb=>by simpa [blkH] using CvIn.at h i b (by simpa using hb)
theorem CvOut.length {v : Vw} : ∀ {H Hc : Hp},CvOut v H Hc→Hc.length = H.length
 | [],_,h=>by obtain rfl:=h;rfl
 | .c _ :: r,_,⟨_,_,h1,_,h2⟩=>by subst h1;simp [CvOut.length h2]
 | .d :: r,_,⟨_,h1,h2⟩=>by subst h1;simp [CvOut.length h2]
 | .o _ :: r,_,⟨_,h1,_,h2⟩=>by subst h1;simp [CvOut.length h2]
theorem CvOut.at {v : Vw} : ∀ {H Hc : Hp},CvOut v H Hc→∀ i,(blkH H i = .d∧blkH Hc i = .d)∨(∃ cs cs',blkH H i = .c cs∧blkH Hc i = .c cs'∧CvL v cs cs')∨∃ p,blkH H i = .o p∧blkH Hc i = .o p∧p.pi = true
 | [],_,h,i=>by obtain rfl:=h;exact .inl ⟨by simp [blkH],by simp [blkH]⟩
 | .c cs :: r,_,⟨cs',r',h1,h2,h3⟩,0=>by subst h1;exact .inr (.inl ⟨cs,cs',rfl,rfl,h2⟩)
 | .o p :: r,_,⟨r',h1,h2,h3⟩,0=>by subst h1;exact .inr (.inr ⟨p,rfl,rfl,h2⟩)
 | .o p :: r,_,⟨r',h1,h2,h3⟩,i + 1=>by subst h1;simpa [blkH] using CvOut.at h3 i
 | .c cs :: r,_,⟨cs',r',h1,h2,h3⟩,i + 1=>by subst h1;simpa [blkH] using CvOut.at h3 i
 | .d :: r,_,⟨r',h1,h2⟩,0=>by subst h1;exact .inl ⟨rfl,rfl⟩
 | .d :: r,_,⟨r',h1,h2⟩,i + 1=>by subst h1;simpa [blkH] using CvOut.at h2 i
theorem CvOut.nd {v : Vw} {H Hc : Hp} (h : CvOut v H Hc) (i : Nat) : blkH H i = .d↔blkH Hc i = .d:=by
 rcases h.at i with ⟨g1,g2⟩ | ⟨cs,cs',g1,g2,g3⟩ | ⟨p,g1,g2,g3⟩ <;> rw [g1,g2] <;> simp
theorem tk : ∀ (H xs : Hp) (c : Nat),blkH (H ++ xs) c = if c < H.length then blkH H c else blkH xs (c - H.length)
 | [],xs,c=>by simp
 | y :: r,xs,0=>by simp [blkH]
 | y :: r,xs,c + 1=>by
  simp only [List.cons_append,blkH,tk r xs c,List.length_cons,Nat.add_lt_add_iff_right,Nat.add_sub_add_right]
theorem pb : ∀ (bs : List Nat) (H xs : Hp),bs.length≤xs.length→(outH bs H xs).length + bs.length = H.length + xs.length
 | [],H,xs,_=>by simp [outH]
 | b :: bs,H,[],h=>by simp at h
 | b :: bs,H,x :: xs,h=>by
  have:=pb bs (setH H b x) xs (by simpa using h)
  simp only [outH,List.length_cons,xc] at this ⊢
  omega
theorem ze0 : ∀ (bs : List Nat) (H xs : Hp),bs.length≤xs.length→(∀ b∈bs,b < H.length)→nodB bs = true→
  (∀ j b,bs[j]? = some b→blkH (outH bs H xs) b = blkH xs j)∧(∀ c,c < H.length→c∉bs→blkH (outH bs H xs) c = blkH H c)∧(∀ c,H.length≤c→blkH (outH bs H xs) c = blkH xs (bs.length + (c - H.length)))
 | [],H,xs,_,_,_=>⟨fun j b h=>by simp at h,fun c h _=>by simp only [outH];rw [tk,if_pos h],fun c h=>by simp only [outH];rw [tk,if_neg (by omega)];simp⟩
 | b :: bs,H,[],h,_,_=>by simp at h
 | b :: bs,H,x :: xs,h,hlt,hnd=>by
  have hb:=hlt b List.mem_cons_self
  have hnd2 : nodB bs = true:=by simp only [nodB,Bool.and_eq_true] at hnd;exact hnd.2
  have hno : b∉bs:=fun hm=>by
   simp only [nodB,Bool.and_eq_true] at hnd
   have:=List.all_eq_true.1 hnd.1 _ hm
   simp at this
  obtain ⟨h1,h2,h3⟩:=ze0 bs (setH H b x) xs (by simpa using h) (fun c hc=>by rw [xc];exact hlt c (List.mem_cons_of_mem _ hc)) hnd2
  rw [xc] at h2 h3
  refine ⟨fun j c hj=>?_,fun c hc hcb=>?_,fun c hc=>?_⟩
  ·cases j with
   | zero=>
    simp at hj;subst hj
    simp only [outH]
    rw [h2 b hb hno,x6 _ _ _ _ hb,if_pos rfl];rfl
   | succ j=>simp only [outH];rw [h1 j c (by simpa using hj)];rfl
  ·simp only [outH]
   rw [h2 c hc (fun hm=>hcb (List.mem_cons_of_mem _ hm)),x6 _ _ _ _ hb,if_neg (fun e=>hcb (by rw [e];exact List.mem_cons_self))]
  ·simp only [outH]
   rw [h3 c hc,List.length_cons,show bs.length + 1 + (c - H.length) = bs.length + (c - H.length) + 1 from by omega];rfl
def FrK (bs : List Nat) (H : Hp) (K : T→Hp→Prop) (t : T) (Hl' : Hp) : Prop:=∃ t' Hc,Cv (vwOut bs H.length) t t'∧CvOut (vwOut bs H.length) Hl' Hc∧K t' (outH bs H Hc)
theorem CallT.frame [Dr] {P : Program} {f : FuncId} {args : List T} {Hl : Hp} {Q : T→Hp→Prop} (h : CallT P f args Hl Q) {H : Hp} {ts : List T} {K : T→Hp→Prop} (bs : List Nat) (hnd : nodB bs = true) (hin : CvIn (vwIn bs) H bs Hl) (ha : CvL (vwIn bs) ts args)
  (hk : ∀ t Hl',Q t Hl'→FrK bs H K t Hl') : CallT P f ts H K:=by
 refine ⟨h.1,fun X0 M us hS hr=>?_⟩
 have hlen:=hin.length
 let β2 : Nat→Option (Option (Nat × Nat)):=fun b'=>match bs[b']? with | some b=>M.β b | none=>none
 let X1 : Nat→Prop:=fun B=>M.X B∧¬ ∃ (i b O : Nat),bs[i]? = some b∧M.β b = some (some (B,O))
 have hβ : ∀ (i b : Nat),bs[i]? = some b→β2 i = M.β b:=fun i b hb=>by show (match bs[i]? with | some b=>M.β b | none=>none) = _;rw [hb]
 have hβn : ∀ (i : Nat),bs[i]? = none→β2 i = none:=fun i hb=>by show (match bs[i]? with | some b=>M.β b | none=>none) = _;rw [hb]
 have hinfo : ∀ (i b : Nat),bs[i]? = some b→b < H.length∧blkH H b≠.d∧blkH Hl i≠.d∧(∃ p,M.β b = some p)∧∀ B O,M.β b = some (some (B,O))→¬ X0 B:=fun i b hb=>by
  rcases hin.at i b hb with ⟨cs,cs',g1,g2,g3⟩ | ⟨p,g1,g2,g3⟩
  ·refine ⟨xn g2,by rw [y9.1 g2];simp,by rw [g1];simp,?_,fun B O h2 hB=>?_⟩
   ·rcases hS.live b cs (y9.1 g2) (xn g2) with ⟨q1,-⟩ | ⟨B,O,a,e,fz,q1,-⟩
    ·exact ⟨_,q1⟩
    ·exact ⟨_,q1⟩
   ·rcases hS.live b cs (y9.1 g2) (xn g2) with ⟨k1,-⟩ | ⟨B',O',a,e,fz,k1,k2,k3,k4,k5,k6⟩
    ·rw [h2] at k1;cases k1
    ·rw [h2] at k1;injection k1 with k1;injection k1 with k1;injection k1 with e1 e2;subst e1;exact k6 hB
  ·have hlt : b < H.length:=xa (by rw [g2];simp)
   obtain ⟨B',o,k1,k2,k3,k4,k5⟩:=hS.liveo b p g2 hlt
   refine ⟨hlt,by rw [g2];simp,by rw [g1];simp,⟨_,k1⟩,fun B O h2 hB=>?_⟩
   rw [h2] at k1;injection k1 with k1;injection k1 with k1;injection k1 with e1 e2;subst e1;exact k5 hB
 have hX01 : ∀ B,X0 B→X1 B:=fun B hB=>⟨(hS.own B).2 (.inl hB),fun ⟨i,b,O,h1,h2⟩=>(hinfo i b h1).2.2.2.2 B O h2 hB⟩
 have hv : VwOk (vwIn bs) M ⟨β2,M.X,M.w⟩:=⟨⟨fun B o h k _=>⟨h,k⟩⟩,fun _ _ h=>h,fun b' b hb=>hβ b' b hb,fun _ h=>h.elim,fun _ _ h=>h.elim,fun _ _ _ h=>h.elim⟩
 have hS2 : SimH Hl X1 ⟨β2,M.X,M.w⟩:=by
  refine ⟨fun i cells hb hd=>?_,fun i p hb hd=>?_,fun i j B O O' h1 h2 h3 h4=>?_,fun i hi=>?_,fun B=>?_,hS.bnd,hS.glo⟩
  ·have hi : i < bs.length:=by rw [hlen];exact hd
   obtain ⟨cs,cs',g1,g2,g3⟩:=(hin.at i bs[i] (List.getElem?_eq_getElem hi)).resolve_right (fun ⟨p,g1,_⟩=>by rw [hb] at g1;cases g1)
   rw [hb] at g1;injection g1 with g1;subst g1
   have e1:=hβ i bs[i] (List.getElem?_eq_getElem hi)
   rcases hS.live _ cs (y9.1 g2) (xn g2) with ⟨k1,k2⟩ | ⟨B,O,a,e,fz,k1,k2,k3,k4,k5,k6⟩
   ·subst k2;cases g3;exact .inl ⟨e1.trans k1,rfl⟩
   ·exact .inr ⟨B,O,a,e,fz,e1.trans k1,k2,k3,g3.repA hv a O k4,k5,fun hx=>hx.2 ⟨i,_,O,List.getElem?_eq_getElem hi,k1⟩⟩
  ·have hi : i < bs.length:=by rw [hlen];exact hd
   obtain ⟨q,g1,g2,g3⟩:=(hin.at i bs[i] (List.getElem?_eq_getElem hi)).resolve_left (fun ⟨cs,cs',g1,_⟩=>by rw [hb] at g1;cases g1)
   rw [hb] at g1;injection g1 with g1;subst g1
   have e1:=hβ i bs[i] (List.getElem?_eq_getElem hi)
   obtain ⟨B,o,k1,k2,k3,k4,k5⟩:=hS.liveo _ p g2 (xa (by rw [g2];simp))
   exact ⟨B,o,e1.trans k1,k2,k3,p.sti g3 hv.st k4,fun hx=>hx.2 ⟨i,_,0,List.getElem?_eq_getElem hi,k1⟩⟩
  ·have hi : i < bs.length:=by rw [hlen];exact xa h1
   have hj : j < bs.length:=by rw [hlen];exact xa h2
   have g2:=(hinfo i bs[i] (List.getElem?_eq_getElem hi)).2.1
   have q2:=(hinfo j bs[j] (List.getElem?_eq_getElem hj)).2.1
   have h3 : β2 i = _:=h3
   have h4 : β2 j = _:=h4
   rw [hβ i _ (List.getElem?_eq_getElem hi)] at h3
   rw [hβ j _ (List.getElem?_eq_getElem hj)] at h4
   have:=hS.inj _ _ B O O' g2 q2 h3 h4
   exact zhb hnd i j bs[i] (List.getElem?_eq_getElem hi) (by rw [this];exact List.getElem?_eq_getElem hj)
  ·exact hβn i (by rw [List.getElem?_eq_none_iff];omega)
  ·show M.X B↔_
   constructor
   ·intro hx
    by_cases hm : ∃ (i b O : Nat),bs[i]? = some b∧M.β b = some (some (B,O))
    ·obtain ⟨i,b,O,h1,h2⟩:=hm
     exact .inr ⟨i,O,(hinfo i b h1).2.2.1,(hβ i b h1).trans h2⟩
    ·exact .inl ⟨hx,hm⟩
   ·rintro (hx | ⟨i,O,h1,h2⟩)
    ·exact hx.1
    ·have hi : i < bs.length:=by rw [hlen];exact xa h1
     have h2 : β2 i = _:=h2
     rw [hβ i _ (List.getElem?_eq_getElem hi)] at h2
     exact (hS.own B).2 (.inr ⟨_,O,(hinfo i bs[i] (List.getElem?_eq_getElem hi)).2.1,h2⟩)
 refine (h.2 X1 ⟨β2,M.X,M.w⟩ us hS2 (ha.repL hv us hr)).mono ?_;rintro e w' ⟨u,t,Hl',M3,rfl,rfl,k1,k2,k3,k4⟩;obtain ⟨t',Hc,c1,c2,c3⟩:=hk t Hl' k1
 have hcl:=c2.length
 have hsome : ∀ (i b : Nat),bs[i]? = some b→b < H.length∧∃ p,M.β b = some p:=fun i b hb=>by
  exact ⟨(hinfo i b hb).1,(hinfo i b hb).2.2.2.1⟩
 have h3β : ∀ (i b : Nat),bs[i]? = some b→M3.β i = M.β b:=fun i b hb=>by
  obtain ⟨-,p,hp⟩:=hsome i b hb
  rw [hp]
  exact k2.at_ i p ((hβ i b hb).trans hp)
 have hkl : bs.length≤Hl'.length:=by
  rcases Nat.eq_zero_or_pos bs.length with h0 | h0
  ·omega
  ·obtain ⟨-,p,hp⟩:=hsome (bs.length - 1) bs[bs.length - 1] (List.getElem?_eq_getElem (by omega))
   have h5:=h3β (bs.length - 1) bs[bs.length - 1] (List.getElem?_eq_getElem (by omega))
   refine Classical.byContradiction fun hn=>?_
   have:=k3.dom (bs.length - 1) (by omega)
   rw [h5,hp] at this;cases this
 obtain ⟨o1,o2,o3⟩:=ze0 bs H Hc (by omega) (fun b hb=>by obtain ⟨i,hi⟩:=List.mem_iff_getElem?.1 hb;exact (hsome i b hi).1) hnd
 have olen:=pb bs H Hc (by omega)
 let β' : Nat→Option (Option (Nat × Nat)):=fun c=>if c < H.length then M.β c else M3.β (bs.length + (c - H.length))
 have b1 : ∀ c,c < H.length→β' c = M.β c:=fun c hc=>if_pos hc
 have b2 : ∀ c,¬ c < H.length→β' c = M3.β (bs.length + (c - H.length)):=fun c hc=>if_neg hc
 have hE : Evo X0 M ⟨β',M3.X,M3.w⟩:=by
  refine ⟨fun c p hp=>?_,k2.nox,fun B hB hx=>k2.keep B hB (hx.imp id (hX01 B)),k2.shape,k2.os,k2.tape,k2.output,k2.size⟩
  have hc : c < H.length:=Classical.byContradiction fun hn=>by rw [hS.dom c hn] at hp;cases hp
  exact (b1 c hc).trans hp
 have hv2 : VwOk (vwOut bs H.length) M3 ⟨β',M3.X,M3.w⟩:=by
  refine ⟨⟨fun B o h k _=>⟨h,k⟩⟩,fun _ _ h=>h,fun c j hc=>?_,fun _ h=>h.elim,fun _ _ h=>h.elim,fun _ _ _ h=>h.elim⟩
  rcases hc with hc | ⟨hc1,hc2⟩
  ·show β' c = _
   rw [b1 c (hsome j c hc).1,h3β j c hc]
  ·show β' c = _
   rw [b2 c (by omega),show bs.length + (c - H.length) = j from by omega]
 have unseen : ∀ c B O,c < H.length→c∉bs→blkH H c≠.d→M.β c = some (some (B,O))→X1 B:=fun c B O hc hcb hl hp=>by
  refine ⟨(hS.own B).2 (.inr ⟨c,O,hl,hp⟩),fun ⟨i,b,O',q1,q2⟩=>?_⟩
  have:=hS.inj c b B O O' hl (hinfo i b q1).2.1 hp q2
  subst this
  exact hcb (List.mem_of_getElem? q1)
 have kind : ∀ c,c < (outH bs H Hc).length→(∃ j,j < Hl'.length∧blkH (outH bs H Hc) c = blkH Hc j∧β' c = M3.β j∧(bs[j]? = some c∨(bs.length≤j∧c + bs.length = H.length + j)))∨(c < H.length∧c∉bs∧blkH (outH bs H Hc) c = blkH H c∧β' c = M.β c):=fun c hc=>by
  by_cases hlt : c < H.length
  ·by_cases hm : c∈bs
   ·obtain ⟨j,hj⟩:=List.mem_iff_getElem?.1 hm
    have hjl:=(List.getElem?_eq_some_iff.1 hj).1
    exact .inl ⟨j,by omega,o1 j c hj,by rw [b1 c hlt,h3β j c hj],.inl hj⟩
   ·exact .inr ⟨hlt,hm,o2 c hlt hm,b1 c hlt⟩
  ·exact .inl ⟨bs.length + (c - H.length),by omega,o3 c (by omega),b2 c hlt,.inr ⟨by omega,by omega⟩⟩
 have jkind : ∀ (c j c' j' : Nat),(bs[j]? = some c∨(bs.length≤j∧c + bs.length = H.length + j))→(bs[j']? = some c'∨(bs.length≤j'∧c' + bs.length = H.length + j'))→j = j'→c = c':=fun c j c' j' h1 h2 e=>by
  subst e
  rcases h1 with h1 | h1 <;> rcases h2 with h2 | h2
  ·rw [h1] at h2;injection h2
  ·have:=(List.getElem?_eq_some_iff.1 h1).1;omega
  ·have:=(List.getElem?_eq_some_iff.1 h2).1;omega
  ·omega
 have hS3 : SimH (outH bs H Hc) X0 ⟨β',M3.X,M3.w⟩:=by
  refine ⟨fun c cells hb hd=>?_,fun c p hb hd=>?_,fun c c' B O O' h1 h2 h3 h4=>?_,fun c hc=>?_,fun B=>?_,k3.bnd,k3.glo⟩
  ·rcases kind c hd with ⟨j,hj,q1,q2,q3⟩ | ⟨hc,hcb,q1,q2⟩
   ·rcases c2.at j with ⟨g1,g2⟩ | ⟨cs,cs',g1,g2,g3⟩ | ⟨p,g1,g2,g3⟩
    ·rw [q1,g2] at hb;cases hb
    rotate_left
    ·rw [q1,g2] at hb;cases hb
    ·rw [q1,g2] at hb;injection hb with hb;subst hb
     rcases k3.live j cs g1 hj with ⟨y1,y2⟩ | ⟨B,O,a,e,fz,y1,y2,y3,y4,y5,y6⟩
     ·subst y2;cases g3;exact .inl ⟨q2.trans y1,rfl⟩
     ·exact .inr ⟨B,O,a,e,fz,q2.trans y1,y2,y3,g3.repA hv2 a O y4,y5,fun hx=>y6 (hX01 B hx)⟩
   ·rw [q1] at hb
    rcases hS.live c cells hb hc with ⟨y1,y2⟩ | ⟨B,O,a,e,fz,y1,y2,y3,y4,y5,y6⟩
    ·exact .inl ⟨q2.trans y1,y2⟩
    ·have hx:=unseen c B O hc hcb (by rw [hb];simp) y1
     exact .inr ⟨B,O,a,e,fz,q2.trans y1,(k2.keep B (wn y2) (.inr hx)).trans y2,y3,RepA.stays hE.stays _ _ _ y4,y5,y6⟩
  ·rcases kind c hd with ⟨j,hj,q1,q2,q3⟩ | ⟨hc,hcb,q1,q2⟩
   ·rcases c2.at j with ⟨g1,g2⟩ | ⟨cs,cs',g1,g2,g3⟩ | ⟨p',g1,g2,g3⟩
    ·rw [q1,g2] at hb;cases hb
    ·rw [q1,g2] at hb;cases hb
    ·rw [q1,g2] at hb;injection hb with hb;subst hb
     obtain ⟨B,o,y1,y2,y3,y4,y5⟩:=k3.liveo j _ g1 hj
     exact ⟨B,o,q2.trans y1,y2,y3,OP.sti _ g3 hv2.st y4,fun hx=>y5 (hX01 B hx)⟩
   ·rw [q1] at hb
    obtain ⟨B,o,y1,y2,y3,y4,y5⟩:=hS.liveo c p hb hc
    have hx:=unseen c B 0 hc hcb (by rw [hb];simp) y1
    exact ⟨B,o,q2.trans y1,(k2.keep B (wn y2) (.inr hx)).trans y2,y3,p.st hE.stays y4,y5⟩
  ·have h3 : β' c = _:=h3
   have h4 : β' c' = _:=h4
   have mix : ∀ c d j,c < H.length→c∉bs→blkH H c≠.d→M.β c = some (some (B,d))→blkH Hl' j≠.d→(∃ O,M3.β j = some (some (B,O)))→j < Hl'.length→False:=fun c d j hc hcb hl hp hj ⟨O,hO⟩ hjl=>by
    have hx:=unseen c B d hc hcb hl hp
    cases hbj : blkH Hl' j with
    | d=>exact hj hbj
    | c cs=>
     rcases k3.live j cs hbj hjl with ⟨y1,-⟩ | ⟨B',O',a,e,fz,y1,y2,y3,y4,y5,y6⟩
     ·rw [hO] at y1;cases y1
     ·rw [hO] at y1;injection y1 with y1;injection y1 with y1;injection y1 with e1 e2;subst e1;exact y6 hx
    | o p=>
     obtain ⟨B',o,y1,y2,y3,y4,y5⟩:=k3.liveo j p hbj hjl
     rw [hO] at y1;injection y1 with y1;injection y1 with y1;injection y1 with e1 e2;subst e1;exact y5 hx
   have ndc : ∀ j,blkH Hc j≠.d→blkH Hl' j≠.d:=fun j hj=>by
    exact fun h=>hj ((c2.nd j).1 h)
   rcases kind c (xa h1) with ⟨j,hj,q1,q2,q3⟩ | ⟨hc,hcb,q1,q2⟩ <;> rcases kind c' (xa h2) with ⟨j',hj',r1,r2,r3⟩ | ⟨hc',hcb',r1,r2⟩
   ·rw [q1] at h1;rw [r1] at h2;rw [q2] at h3;rw [r2] at h4
    exact jkind c j c' j' q3 r3 (k3.inj j j' B O O' (ndc j h1) (ndc j' h2) h3 h4)
   ·rw [q1] at h1;rw [r1] at h2;rw [q2] at h3;rw [r2] at h4
    exact (mix c' O' j hc' hcb' h2 h4 (ndc j h1) ⟨O,h3⟩ hj).elim
   ·rw [q1] at h1;rw [r1] at h2;rw [q2] at h3;rw [r2] at h4
    exact (mix c O j' hc hcb h1 h3 (ndc j' h2) ⟨O',h4⟩ hj').elim
   ·rw [q1] at h1;rw [r1] at h2;rw [q2] at h3;rw [r2] at h4
    exact hS.inj c c' B O O' h1 h2 h3 h4
  ·show β' c = none
   rw [b2 c (by omega)]
   exact k3.dom _ (by omega)
  ·show M3.X B↔_
   rw [k3.own B]
   constructor
   ·rintro (hx | ⟨j,O,h1,h2⟩)
    ·rcases (hS.own B).1 hx.1 with h0 | ⟨c,O,h1,h2⟩
     ·exact .inl h0
     ·have hc:=xa h1
      have hcb : c∉bs:=fun hm=>by
       obtain ⟨i,hi⟩:=List.mem_iff_getElem?.1 hm
       exact hx.2 ⟨i,c,O,hi,h2⟩
      exact .inr ⟨c,O,by rw [o2 c hc hcb];exact h1,(b1 c hc).trans h2⟩
    ·have hj:=xa h1
     have hl : blkH Hc j≠.d:=by
      exact fun h=>h1 ((c2.nd j).2 h)
     by_cases hjk : j < bs.length
     ·have hb:=List.getElem?_eq_getElem hjk
      exact .inr ⟨bs[j],O,by rw [o1 j _ hb];exact hl,by show β' bs[j] = _;rw [b1 _ (hsome j _ hb).1,← h3β j _ hb];exact h2⟩
     ·refine .inr ⟨H.length + (j - bs.length),O,?_,?_⟩
      ·rw [o3 _ (by omega),show bs.length + (H.length + (j - bs.length) - H.length) = j from by omega];exact hl
      ·show β' _ = _
       rw [b2 _ (by omega),show bs.length + (H.length + (j - bs.length) - H.length) = j from by omega];exact h2
   ·rintro (hx | ⟨c,O,h1,h2⟩)
    ·exact .inl (hX01 B hx)
    ·have h2 : β' c = _:=h2
     rcases kind c (xa h1) with ⟨j,hj,q1,q2,q3⟩ | ⟨hc,hcb,q1,q2⟩
     ·rw [q1] at h1;rw [q2] at h2
      refine .inr ⟨j,O,?_,h2⟩
      exact fun h=>h1 ((c2.nd j).1 h)
     ·rw [q1] at h1;rw [q2] at h2
      exact .inl (unseen c B O hc hcb h1 h2)
 exact ⟨u,t',_,⟨β',M3.X,M3.w⟩,rfl,rfl,c3,hE,hS3,c1.rep hv2 u k4⟩
theorem frK {bs : List Nat} {H : Hp} {K : T→Hp→Prop} {t t' : T} {Hl' Hc : Hp} (h1 : Cv (vwOut bs H.length) t t') (h2 : CvOut (vwOut bs H.length) Hl' Hc) (h3 : K t' (outH bs H Hc)) : FrK bs H K t Hl':=⟨t',Hc,h1,h2,h3⟩
theorem zfa {v : Vw} {H : Hp} : CvIn v H [] []:=trivial
theorem zc4 {v : Vw} {H : Hp} {b : Nat} {bs : List Nat} {cs cs' : List T} {r : Hp} (h : lookH H b = some cs) (k : CvL v cs cs') (l : CvIn v H bs r) : CvIn v H (b :: bs) (.c cs' :: r):=⟨⟨cs,h,k⟩,l⟩
theorem CvIn_o {v : Vw} {H : Hp} {b : Nat} {bs : List Nat} {p : OP} {r : Hp} (h : blkH H b = .o p) (k : p.pi = true) (l : CvIn v H bs r) : CvIn v H (b :: bs) (.o p :: r):=⟨⟨h,k⟩,l⟩
theorem CvOut_o {v : Vw} {p : OP} {r r' : Hp} (h : p.pi = true) (k : CvOut v r r') : CvOut v (.o p :: r) (.o p :: r'):=⟨r',rfl,h,k⟩
theorem rg {v : Vw} : CvOut v [] []:=rfl
theorem r8 {v : Vw} {cs cs' : List T} {r r' : Hp} (h : CvL v cs cs') (k : CvOut v r r') : CvOut v (.c cs :: r) (.c cs' :: r'):=⟨cs',r',rfl,h,k⟩
theorem CvOut_d {v : Vw} {r r' : Hp} (k : CvOut v r r') : CvOut v (.d :: r) (.d :: r'):=⟨r',rfl,k⟩
theorem Cv.slcOld {bs : List Nat} {n j c o m z : Nat} {k : Option Nat} (h : bs[j]? = some c) : Cv (vwOut bs n) (.slc j o m z k) (.slc c o m z k):=.slc (.inl h) (.inl rfl)
theorem Cv.slcNew {bs : List Nat} {n j o m z : Nat} {k : Option Nat} (h : bs.length≤j) : Cv (vwOut bs n) (.slc j o m z k) (.slc (n + (j - bs.length)) o m z k):=.slc (.inr ⟨h,by omega⟩) (.inl rfl)
theorem Cv.ptrOld {bs : List Nat} {n j c o : Nat} (h : bs[j]? = some c) : Cv (vwOut bs n) (.ptr j o) (.ptr c o):=.ptr (.inl h)
theorem Cv.ptrNew {bs : List Nat} {n j o : Nat} (h : bs.length≤j) : Cv (vwOut bs n) (.ptr j o) (.ptr (n + (j - bs.length)) o):=.ptr (.inr ⟨h,by omega⟩)
theorem Cv.fslc0 {v : Vw} {b n z : Nat} {c : Option Nat} {cs cs' : List T} (h : v.F b cs) (hl : CvL v cs cs') : Cv v (.slc b 0 n z c) (.islc cs' n none):=.fslc h (fun i t hi=>by rw [Nat.zero_add];exact hi) hl (.inr rfl)
end

section
open Go.RowKit
open Go.ChangeMaps (setBlock)
/- entries of one key each -/
section
open Classical
variable {β : Type} {f : MapEntry→β}
theorem zef : ∀ {l : List MapEntry},(l.map f).Nodup→∀ {i j : Nat} {a b : MapEntry},l[i]? = some a→l[j]? = some b→f a = f b→i = j
 | [],_,i,j,a,b,h,_,_=>by simp at h
 | x :: l,hn,i,j,a,b,h1,h2,h3=>by
  rw [List.map_cons,List.nodup_cons] at hn
  cases i with
  | zero=>
   cases j with
   | zero=>rfl
   | succ j=>
    simp at h1 h2;subst h1
    exact absurd (List.mem_map.2 ⟨b,List.mem_of_getElem? h2,h3.symm⟩) hn.1
  | succ i=>
   cases j with
   | zero=>
    simp at h1 h2;subst h2
    exact absurd (List.mem_map.2 ⟨a,List.mem_of_getElem? h1,h3⟩) hn.1
   | succ j=>simp at h1 h2;rw [zef hn.2 h1 h2 h3]
theorem map_at {l : List MapEntry} (hn : (l.map f).Nodup) {j : Nat} {e : MapEntry} (h : l[j]? = some e) (g : MapEntry→MapEntry) : l.map (fun x=>if f x = f e then g x else x) = l.set j (g e):=by
 refine List.ext_getElem? fun m=>?_
 rw [List.getElem?_map,List.getElem?_set]
 by_cases hm : j = m
 ·subst hm
  have hlt:=(List.getElem?_eq_some_iff.1 h).1
  rw [h,if_pos rfl,if_pos hlt];simp
 ·rw [if_neg hm]
  cases hx : l[m]? with
  | none=>rfl
  | some x=>
   have : f x≠f e:=fun he=>hm (zef hn h hx he.symm)
   simp [this]
theorem zci : ∀ {l : List MapEntry},(l.map f).Nodup→∀ {j : Nat} {e : MapEntry},l[j]? = some e→l.filter (fun x=>decide (f x≠f e)) = l.eraseIdx j
 | [],_,j,e,h=>by simp at h
 | x :: l,hn,0,e,h=>by
  simp at h;subst h
  rw [List.map_cons,List.nodup_cons] at hn
  rw [List.filter_cons_of_neg (by simp),List.eraseIdx_zero,List.tail_cons,List.filter_eq_self]
  intro y hy
  have : f y≠f x:=fun he=>hn.1 (List.mem_map.2 ⟨y,hy,he⟩)
  simpa using this
 | x :: l,hn,j + 1,e,h=>by
  rw [List.map_cons,List.nodup_cons] at hn
  simp at h
  have : f x≠f e:=fun he=>hn.1 (List.mem_map.2 ⟨e,List.mem_of_getElem? h,he.symm⟩)
  rw [List.filter_cons_of_pos (by simpa using this),List.eraseIdx_cons_succ,zci hn.2 h]
end
theorem zcj {α β : Type} (f : α→β) (l : List α) (j : Nat) : (l.eraseIdx j).map f = (l.map f).eraseIdx j:=Go.ChangeMaps.map_eraseIdx f l j
theorem zj0 {es : Array MapEntry} {n : Nat} {ks us : List Value} (h : mapIs es n ks us) {kv uv : Value} (hn : kv∉ks) : mapIs (es.push ⟨kv,uv,n⟩) (n + 1) (ks ++ [kv]) (us ++ [uv]):=by
 obtain ⟨⟨es',h1,rfl,rfl⟩,h2,h3,h4⟩:=h
 refine ⟨⟨es' ++ [⟨kv,uv,n⟩],by rw [Array.toList_push];exact h1.append_right _,by simp,by simp⟩,?_,?_,?_⟩
 ·rw [List.nodup_append]
  exact ⟨h2,by simp,fun a ha b hb=>by rw [List.mem_singleton] at hb;subst hb;exact fun e=>hn (e ▸ ha)⟩
 ·rw [Array.toList_push,List.map_append,List.nodup_append]
  refine ⟨h3,by simp,fun a ha b hb=>?_⟩
  simp at hb;subst hb
  obtain ⟨e,he,rfl⟩:=List.mem_map.1 ha
  have:=h4 e he
  omega
 ·intro e he
  rw [Array.toList_push] at he
  rcases List.mem_append.1 he with he | he
  ·have:=h4 e he;omega
  ·rw [List.mem_singleton] at he;subst he;show n < n + 1;omega
theorem zcb {es : Array MapEntry} {n : Nat} {ks us : List Value} (h : mapIs es n ks us) : (es.toList.map (·.key)).Nodup:=(qm h).nodup_iff.2 h.2.1
theorem map_set {es : Array MapEntry} {n : Nat} {ks us : List Value} (h : mapIs es n ks us) {i j : Nat} {kv uv : Value} {e : MapEntry} (hi : ks[i]? = some kv) (hj : es.toList[j]? = some e) (hk : e.key = kv) :
  mapIs (es.modify j fun e=>{ e with key:=kv,val:=uv }) n ks (us.set i uv):=by
 classical
 have hN:=zcb h
 obtain ⟨⟨es',h1,rfl,rfl⟩,h2,h3,h4⟩:=h
 rw [List.getElem?_map,Option.map_eq_some_iff] at hi
 obtain ⟨e2,hi,hk2⟩:=hi
 let g : MapEntry→MapEntry:=fun x=>if x.key = kv then { x with key:=kv,val:=uv } else x
 have e1 : (es.modify j fun e=>{ e with key:=kv,val:=uv }).toList = es.toList.map g:=by
  rw [Array.toList_modify]
  have:=map_at (f:=(·.key)) hN hj (fun x=>{ x with key:=kv,val:=uv })
  simp only [hk] at this
  rw [this]
  refine List.ext_getElem? fun m=>?_
  rw [List.getElem?_modify,List.getElem?_set]
  by_cases hm : j = m
  ·subst hm
   have hlt:=(List.getElem?_eq_some_iff.1 hj).1
   rw [hj,if_pos rfl,if_pos hlt];simp
  ·rw [if_neg hm];cases es.toList[m]? <;> simp [hm]
 have e2' : es'.map g = es'.set i { e2 with key:=kv,val:=uv }:=by
  have:=map_at (f:=(·.key)) h2 hi (fun x=>{ x with key:=kv,val:=uv })
  simp only [hk2] at this
  exact this
 have hgk : ∀ x,(g x).key = x.key:=fun x=>by
  show (if x.key = kv then _ else x).key = _
  split
  ·rename_i hx;exact hx.symm
  ·rfl
 have hgb : ∀ x,(g x).born = x.born:=fun x=>by
  show (if x.key = kv then _ else x).born = _
  split <;> rfl
 refine ⟨⟨es'.map g,by rw [e1];exact h1.map g,by rw [List.map_map];exact List.map_congr_left fun x _=>hgk x,by rw [e2',List.map_set]⟩,h2,?_,?_⟩
 ·rw [e1,List.map_map,show (MapEntry.born ∘ g) = MapEntry.born from funext hgb];exact h3
 ·intro x hx
  rw [e1] at hx
  obtain ⟨y,hy,rfl⟩:=List.mem_map.1 hx
  rw [hgb];exact h4 y hy
section
variable {P : Program} {tab : Tab} {M : Mp} {H : Hp} {ρ : EnvF} {X0 : Nat→Prop}
theorem zab {w : World} {r : Nat} {es : Array MapEntry} {n : Nat} (h : w.heap[r]? = some (.map es n)) (o : Obj) : (setObj r o).run P w = .ok () { w with heap:=w.heap.setIfInBounds r o }:=by simp [setObj,Sem.run,h]
theorem zha [Dr] (hS : SimH H X0 M) {b : Nat} {p : OP} {u : Value} (hb : blkH H b = .o p) (hr : Rep M (.om b) u) : ∃ B o,u = .map (some B)∧M.β b = some (some (B,0))∧M.w.heap[B]? = some o∧(∀ a e fz,o≠.cells a e fz)∧p.p M o∧¬ X0 B:=by
 obtain ⟨B,O,h1,rfl⟩:=hr
 obtain ⟨B',o,k1,k2,k3,k4,k5⟩:=hS.liveo b p hb (xa (by rw [hb];simp))
 rw [h1] at k1;injection k1 with k1;injection k1 with k1;injection k1 with e1 e2;subst e1 e2
 exact ⟨B,o,rfl,h1,k2,k3,k4,k5⟩
theorem ExtT.mono [Dr] {o : Oper} {Q Q' : T→Hp→Prop} (h : ExtT P o H ρ Q) (k : ∀ t H',Q t H'→Q' t H') : ExtT P o H ρ Q':=
 ⟨h.1,fun X0 M ρ' h1 h2=>by obtain ⟨t,H',M',a,b,c,d⟩:=h.2 X0 M ρ' h1 h2;exact ⟨t,H',M',a,b,c,k _ _ d⟩⟩
theorem zdp [Dr] {d : Option Nat} {t : TypeId} {ty : TypeId} {pos : String} {after : Array Edge} : ExtT P ⟨d,.makeMap t none,ty,pos,after,none⟩ H ρ (fun r H'=>r = .om H.length∧H' = H ++ [.o (mapP [] [])]):=
 ⟨fun c h=>(by cases h),fun X0 M ρ' hS _=>by
  obtain ⟨hE,S⟩:=Sim.newo hS (nx:=H.length) (fun hh=>Nat.lt_irrefl _ hh) (q:=mapP [] []) (o':=.map #[] 0) (w:={ M.w with heap:=M.w.heap.push (.map #[] 0) }) rfl rfl ⟨rfl,fun _=>Nat.le_refl _⟩ rfl (by simp) ⟨#[],0,[],rfl,⟨⟨[],by simp,rfl,rfl⟩,by simp,by simp,by simp⟩,rfl⟩
  exact ⟨.om H.length,_,newM M H.length _,.inl ⟨.map (some M.w.heap.size),rfl,M.w.heap.size,0,if_pos rfl,rfl⟩,hE,SimH.push S,rfl,rfl⟩⟩
theorem zfd (hT : TabOk P tab) {t kt et : Nat} {i j : TyI} (hi : tab t = some i) (hik : i.k = .mp kt et) (hj : tab kt = some j) (hkd : keyKd j.k = true) {B : Nat} {es : Array MapEntry} {n : Nat} {ks us : List Value} {kv uv : Value} {w : World}
  (hB : w.heap[B]? = some (.map es n)) (hm : mapIs es n ks us) (hl : (ks.all fun x=>(likeK j.k kv x).isSome) = true) :
  (kv∉ks→(Instr.mapUpdate t (.map (some B)) kv uv).run P w = .ok () { w with heap:=w.heap.setIfInBounds B (.map (es.push ⟨kv,uv,n⟩) (n + 1)) })∧
  (∀ q : Nat,ks[q]? = some kv→(likeK j.k kv kv).isSome = true→∃ m e,es.toList[m]? = some e∧e.key = kv∧(Instr.mapUpdate t (.map (some B)) kv uv).run P w = .ok () { w with heap:=w.heap.setIfInBounds B (.map (es.modify m fun e=>{ e with key:=kv,val:=uv }) n) }):=by
 obtain ⟨D,hD,hk⟩:=(hT t i hi).kind
 rw [hik] at hk
 cases D <;> simp only [kdOk] at hk
 obtain ⟨rfl,rfl⟩:=hk
 obtain ⟨Dk,hDk,hkk⟩:=(hT _ j hj).kind
 have hck:=fun b w=>qg (P:=P) hkk hkd hDk b kv w
 have hall : ∀ x∈es.toList,∃ b,likeK j.k kv x.key = some b:=fun x hx=>by
  have h1 : x.key∈ks:=(qm hm).mem_iff.1 (List.mem_map.2 ⟨x,hx,rfl⟩)
  exact Option.isSome_iff_exists.1 (List.all_eq_true.1 hl _ h1)
 constructor
 ·intro hnew
  have hf : Instr.findNow Dk kv es.toList 0 = some none:=u3 fun x hx=>by
   obtain ⟨b,hb⟩:=hall x hx
   cases b with
   | true=>exact absurd ((qm hm).mem_iff.1 (List.mem_map.2 ⟨x,hx,rfl⟩)) (by rw [← (zbb hb).1 rfl];exact hnew)
   | false=>exact qn hkk hb
  have hfk:=t6 (P:=P) hDk hf w
  simp only [Instr.mapUpdate,Sem.run_bind,run_underlying hD,Result.andThen_ok,tg hB,hck]
  rw [hfk]
  simp only [Result.andThen_ok]
  rw [zab hB]
 ·intro q hq hs
  have hlen : us.length = ks.length:=by obtain ⟨⟨es',-,rfl,rfl⟩,-⟩:=hm;simp
  obtain ⟨uv0,hu⟩ : ∃ v,us[q]? = some v:=⟨us[q]'(by have:=(List.getElem?_eq_some_iff.1 hq).1;omega),List.getElem?_eq_getElem _⟩
  obtain ⟨m,e,h5,h6,h7⟩:=zhf hm hq hu
  have hf : Instr.findNow Dk kv es.toList 0 = some (some (0 + m,e.val)):=rz (fun x hx=>by
   obtain ⟨b,hb⟩:=hall x hx
   exact ⟨b,qn hkk hb,zbb hb⟩) (zcb hm) h5 h6
  rw [Nat.zero_add] at hf
  have hfk:=t6 (P:=P) hDk hf w
  refine ⟨m,e,h5,h6,?_⟩
  have hst : (Instr.keyThatStays kv kv).run P w = .ok kv w:=by
   have : ∀ q,Instr.sameBits (q + 1) kv kv = true:=fun q=>by
    unfold likeK at hs
    split at hs
    ·simp [Instr.sameBits]
    ·simp [Instr.sameBits,zio]
    ·simp [Instr.sameBits]
    ·cases hs
   unfold Instr.keyThatStays
   rw [if_pos (this 9999)];rfl
  have hme : es[m]? = some e:=by simpa using h5
  simp only [Instr.mapUpdate,Sem.run_bind,run_underlying hD,Result.andThen_ok,tg hB,hck]
  rw [hfk]
  simp only [Result.andThen_ok,hme,Option.map_some,Option.getD_some,h6,Sem.run_bind,hst]
  rw [zab hB]
theorem p8 [Dr] (hT : TabOk P tab) {t kt et : Nat} {i j : TyI} (hi : tab t = some i) (hik : i.k = .mp kt et) (hj : tab kt = some j) (hkd : keyKd j.k = true) {d : Option Nat} {ty : TypeId} {pos : String} {after : Array Edge} {m k x : Operand} {op : Op} (hop : op = .mapUpdate t m k x∨op = .insert t m k x)
  {b : Nat} {ks : List Value} {ts : List T} {kv : Value} {tx : T} (hm : ρ m = some (.om b)) (hb : blkH H b = .o (mapP ks ts)) (hk : ρ k = some (.v kv)) (hx : ρ x = some tx) (hl : (ks.all fun x=>(likeK j.k kv x).isSome) = true) (hn : kv∉ks) :
  ExtT P ⟨d,op,ty,pos,after,none⟩ H ρ (fun r H'=>r = .v undef∧H' = setH H b (.o (mapP (ks ++ [kv]) (ts ++ [tx])))):=
 ⟨fun c h=>(by rcases hop with rfl | rfl <;> cases h),fun X0 M ρ' hS hρ=>by
  obtain ⟨B,o,h1,h2,h3,h4,⟨es,n,us,rfl,h5,h6⟩,h7⟩:=zha hS hb (hρ m _ hm)
  have hkv : ρ' k = kv:=hρ k _ hk
  obtain ⟨r1,-⟩:=zfd (uv:=ρ' x) (w:=M.w) hT hi hik hj hkd h3 h5 hl
  obtain ⟨hE,S⟩:=Sim.writeo (p':=mapP (ks ++ [kv]) (ts ++ [tx])) hS h2 hb h7 h3 h4 rfl (by simp) ⟨_,_,_,rfl,zj0 h5 hn,RepL.append h6 ⟨_,[],rfl,hρ x _ hx,rfl⟩⟩
  refine ⟨_,_,_,.inr ⟨?_,rfl⟩,hE,SimH.set (xa (by rw [hb];simp)) S,rfl,rfl⟩
  have:=r1 hn
  rcases hop with rfl | rfl <;> simp only [execOp,h1,hkv,Sem.run_bind,this,Result.andThen_ok] <;> rfl⟩
theorem zke [Dr] (hT : TabOk P tab) {d : Option Nat} {t ty : TypeId} {pos : String} {after : Array Edge} {m k : Operand} {ok : Bool} {b : Nat} {ks : List Value} {ts : List T} {kv : Value} {r : T} (hm : ρ m = some (.om b)) (hb : blkH H b = .o (mapP ks ts)) (hk : ρ k = some (.v kv)) (hr : mLook2 tab t ks ts kv ok = some r) :
  ExtT P ⟨d,.lookup t m k ok,ty,pos,after,none⟩ H ρ (fun r' H'=>r' = r∧H' = H):=
 ⟨fun c h=>(by cases h),fun X0 M ρ' hS hρ=>by
  obtain ⟨B,o,h1,h2,h3,h4,⟨es,n,us,rfl,h5,h6⟩,h7⟩:=zha hS hb (hρ m _ hm)
  have hkv : ρ' k = kv:=hρ k _ hk
  obtain ⟨u,g1,g2⟩:=zdi (M:=M) hT hr h5 h6 (u:=ρ' m) (.inr ⟨B,h1,h3⟩)
  refine ⟨r,H,M,.inl ⟨u,?_,g2⟩,Evo.refl _ _,hS,rfl,rfl⟩
  simp only [execOp,hkv,Sem.run_bind,g1,Result.andThen_ok,Sem.run_pure]⟩
end
def iterIs (c : Option (Value × T)) (ks : List Value) (ts : List T) (M : Mp) (o : Obj) : Prop:=
 (o = .mapIter none 0 #[] 0∧ks = []∧ts = []∧c = none)∨∃ (r : Nat) (es : Array MapEntry) (n : Nat) (seen : Array Nat) (us : List Value) (es' : List MapEntry),o = .mapIter (some r) n seen n∧¬ M.X r∧M.w.heap[r]? = some (.map es n)∧(es.toList.map (·.born)).Nodup∧(∀ e∈es.toList,e.born < n)∧
   List.Perm es' (leftOf es seen).toList∧es'.map (·.key) = ks∧es'.map (·.val) = us∧RepL M ts us∧(∀ k t,c = some (k,t)→∃ (e : MapEntry) (seen' : Array Nat),e∈es.toList∧seen = seen'.push e.born∧e.key = k∧Rep M t e.val)
theorem iterIs.stays {c : Option (Value × T)} {ks : List Value} {ts : List T} {M M' : Mp} {o : Obj} (h : Stays M M') (hh : iterIs c ks ts M o) : iterIs c ks ts M' o:=by
 rcases hh with hh | ⟨r,es,n,seen,us,es',h1,h2,h3,h4,h5,h6,h7,h8,h9,h10⟩
 ·exact .inl hh
 ·refine .inr ⟨r,es,n,seen,us,es',h1,(h.obj _ _ h2 h3 (fun d=>by simp)).1,(h.obj _ _ h2 h3 (fun d=>by simp)).2,h4,h5,h6,h7,h8,RepL.stays h _ _ h9,fun k t hc=>?_⟩
  obtain ⟨e,s,a1,a2,a3,a4⟩:=h10 k t hc
  exact ⟨e,s,a1,a2,a3,Rep.stays h _ _ a4⟩
def iterPi (c : Option (Value × T)) (ts : List T) : Bool:=T.pureL ts && (match c with | some (_,t)=>t.pure | none=>true)
theorem iterIs.staysI {c : Option (Value × T)} {ks : List Value} {ts : List T} {M M' : Mp} {o : Obj} (p : iterPi c ts = true) (h : StaysI M M') (hh : iterIs c ks ts M o) : iterIs c ks ts M' o:=by
 unfold iterPi at p
 simp only [Bool.and_eq_true] at p
 rcases hh with hh | ⟨r,es,n,seen,us,es',h1,h2,h3,h4,h5,h6,h7,h8,h9,h10⟩
 ·exact .inl hh
 ·refine .inr ⟨r,es,n,seen,us,es',h1,(h.obj _ _ h2 h3 (fun d=>by simp)).1,(h.obj _ _ h2 h3 (fun d=>by simp)).2,h4,h5,h6,h7,h8,RepL.staysI h _ _ p.1 h9,fun k t hc=>?_⟩
  obtain ⟨e,s,a1,a2,a3,a4⟩:=h10 k t hc
  subst hc
  exact ⟨e,s,a1,a2,a3,Rep.staysI h _ _ p.2 a4⟩
def iterP (c : Option (Value × T)) (ks : List Value) (ts : List T) : OP:=⟨iterIs c ks ts,fun h k=>iterIs.stays h k,iterPi c ts,fun p _ _ _ h k=>iterIs.staysI p h k⟩
section
variable {P : Program} {tab : Tab} {M : Mp} {H : Hp} {ρ : EnvF} {X0 : Nat→Prop}
theorem own_ptr [Dr] (hS : SimH H X0 M) {b : Nat} {p : OP} {u : Value} (hb : blkH H b = .o p) (hr : Rep M (.ptr b 0) u) : ∃ B o,u = .pointer (some ⟨B,0,none⟩)∧M.β b = some (some (B,0))∧M.w.heap[B]? = some o∧(∀ a e fz,o≠.cells a e fz)∧p.p M o∧¬ X0 B:=by
 obtain ⟨B,O,h1,rfl⟩:=hr
 obtain ⟨B',o,k1,k2,k3,k4,k5⟩:=hS.liveo b p hb (xa (by rw [hb];simp))
 rw [h1] at k1;injection k1 with k1;injection k1 with k1;injection k1 with e1 e2;subst e1 e2
 exact ⟨B,o,rfl,h1,k2,k3,k4,k5⟩
theorem zfm (es : Array MapEntry) : leftOf es #[] = es:=by
 unfold leftOf
 simp
theorem zh1 [Dr] {d : Option Nat} {t ty : TypeId} {pos : String} {after : Array Edge} {x : Operand} {i : TyI} {kt et : Nat} (hT : TabOk P tab) (hi : tab t = some i) (hik : i.k = .mp kt et) {a : T} {ks : List Value} {ts : List T} (hx : ρ x = some a) (ha : a = .mp ks ts∨(a = .v (.map none)∧ks = []∧ts = [])) :
  ExtT P ⟨d,.range t x,ty,pos,after,none⟩ H ρ (fun r H'=>r = .ptr H.length 0∧H' = H ++ [.o (iterP none ks ts)]):=
 ⟨fun c h=>(by cases h),fun X0 M ρ' hS hρ=>by
  obtain ⟨D,hD,hkD⟩:=(hT t i hi).kind
  rw [hik] at hkD
  cases D <;> simp only [kdOk] at hkD
  have hr:=hρ x _ hx
  have key : ∀ it : Obj,(∀ a e fz,it≠.cells a e fz)→iterIs none ks ts M it→(Instr.range t (ρ' x)).run P M.w = .ok (.pointer (some ⟨M.w.heap.size,0,none⟩)) { M.w with heap:=M.w.heap.push it }→
    ∃ t' H' M',((∃ u,(execOp ρ' ⟨d,.range t x,ty,pos,after,none⟩).run P M.w = .ok (.value u) M'.w∧Rep M' t' u)∨((execOp ρ' ⟨d,.range t x,ty,pos,after,none⟩).run P M.w = .ok .skip M'.w∧t' = .v undef))∧Evo X0 M M'∧SimH H' X0 M'∧t' = .ptr H.length 0∧H' = H ++ [.o (iterP none ks ts)]:=by
   intro it h1 h2 h3
   obtain ⟨hE,S⟩:=Sim.newo hS (nx:=H.length) (fun hh=>Nat.lt_irrefl _ hh) (q:=iterP none ks ts) (o':=it) (w:={ M.w with heap:=M.w.heap.push it }) rfl rfl ⟨rfl,fun _=>Nat.le_refl _⟩ rfl h1 h2
   exact ⟨.ptr H.length 0,_,newM M H.length _,.inl ⟨_,by simp only [execOp,Sem.run_bind,h3,Result.andThen_ok];rfl,M.w.heap.size,0,if_pos rfl,rfl⟩,hE,SimH.push S,rfl,rfl⟩
  rcases ha with rfl | ⟨rfl,rfl,rfl⟩
  ·obtain ⟨r,es,n,us,h1,h2,h3,⟨⟨es',q1,q2,q3⟩,q4,q5,q6⟩,h5⟩:=hr
   refine key (.mapIter (some r) n #[] n) (by simp) (.inr ⟨r,es,n,#[],us,es',rfl,h2,h3,q5,q6,by rw [zfm];exact q1,q2,q3,h5,fun k t hc=>by cases hc⟩) ?_;simp only [Instr.range,Sem.run_bind,run_underlying hD,Result.andThen_ok,h1,tg h3,Sem.run_pure]
   rfl
  ·have h1 : ρ' x = .map none:=hr
   refine key (.mapIter none 0 #[] 0) (by simp) (.inl ⟨rfl,rfl,rfl,rfl⟩) ?_;simp only [Instr.range,Sem.run_bind,run_underlying hD,Result.andThen_ok,h1,Sem.run_pure]
   rfl⟩
theorem zhp {es : Array MapEntry} {seen : Array Nat} (b : Nat) : (leftOf es (seen.push b)).toList = (leftOf es seen).toList.filter (fun x=>decide (x.born≠b)):=by
 unfold leftOf
 rw [Array.toList_filter,Array.toList_filter,List.filter_filter]
 refine List.filter_congr fun x _=>?_
 simp only [Array.contains_push]
 by_cases hb : x.born = b <;> simp [hb]
theorem zkd [Dr] {d : Option Nat} {ty : TypeId} {pos : String} {after : Array Edge} {x : Operand} {b : Nat} {c : Option (Value × T)} {ks : List Value} {ts : List T} (hx : ρ x = some (.ptr b 0)) (hb : blkH H b = .o (iterP c ks ts)) :
  ExtT P ⟨d,.next x false,ty,pos,after,none⟩ H ρ (fun r H'=>(ks = []∧r = .tup [.v (.bool false)]∧H' = H)∨∃ (i : Nat) (k : Value) (t : T),ks[i]? = some k∧ts[i]? = some t∧r = .tup [.v (.bool true),.v k,t]∧H' = setH H b (.o (iterP (some (k,t)) (ks.eraseIdx i) (ts.eraseIdx i)))):=
 ⟨fun c h=>(by cases h),fun X0 M ρ' hS hρ=>by
  classical
  obtain ⟨B,o,h1,h2,h3,h4,hp,h7⟩:=own_ptr hS hb (hρ x _ hx)
  have hex : ∀ {u w},(Instr.next (.pointer (some ⟨B,0,none⟩)) false ty).run P M.w = .ok u w→(execOp ρ' ⟨d,.next x false,ty,pos,after,none⟩).run P M.w = .ok (.value u) w:=fun h=>by
   simp only [execOp,h1,Sem.run_bind,h,Result.andThen_ok];rfl
  have hp : iterIs _ _ _ M o:=hp
  rcases hp with ⟨rfl,rfl,rfl,hc0⟩ | ⟨r,es,n,seen,us,es',rfl,g1,g2,g3,g4,g5,rfl,rfl,g8,g9⟩
  ·refine ⟨.tup [.v (.bool false)],H,M,.inl ⟨.tuple #[.bool false],hex ?_,[.bool false],rfl,.bool false,[],rfl,rfl,rfl⟩,Evo.refl _ _,hS,.inl ⟨rfl,rfl,rfl⟩⟩
   simp [Instr.next,getObj,Sem.run,h3,Result.andThen]
  ·rcases run_next_at (P:=P) M.w ty B r n n seen es n h3 g2 g4 (Nat.le_refl _) with ⟨e0,hr⟩ | ⟨e,he,w1,hw1,hr⟩
   ·have hnil : es' = []:=by
     have : es'.length = (leftOf es seen).toList.length:=List.Perm.length_eq g5
     exact List.eq_nil_of_length_eq_zero (this.trans ((Array.length_toList (xs:=leftOf es seen)).trans e0))
    exact ⟨.tup [.v (.bool false)],H,M,.inl ⟨.tuple #[.bool false],hex hr,[.bool false],rfl,.bool false,[],rfl,rfl,rfl⟩,Evo.refl _ _,hS,.inl ⟨by rw [hnil];rfl,rfl,rfl⟩⟩
   ·obtain ⟨i,hi⟩:=List.mem_iff_getElem?.1 (g5.mem_iff.2 he)
    have hes : e∈es.toList:=by
     unfold leftOf at he
     rw [Array.toList_filter] at he
     exact (List.mem_filter.1 he).1
    obtain ⟨t,ht⟩ : ∃ t,ts[i]? = some t:=by
     have hl:=g8.length
     have:=(List.getElem?_eq_some_iff.1 hi).1
     simp at hl
     exact ⟨ts[i]'(by omega),List.getElem?_eq_getElem _⟩
    obtain ⟨v,hv1,hv2⟩:=g8.get i t ht
    rw [List.getElem?_map,hi] at hv1
    simp at hv1;subst hv1
    have hE1 : Evo X0 M ⟨M.β,M.X,w1⟩:=by
     rcases hw1 with rfl | rfl
     ·exact Evo.refl _ _
     ·exact ⟨fun _ _ h=>h,fun _ _ h=>h,fun _ _ _=>rfl,fun _ _ h=>h,rfl,⟨rfl,fun _=>Nat.le_succ _⟩,rfl,Nat.le_refl _⟩
    have hh1 : w1.heap = M.w.heap:=by rcases hw1 with rfl | rfl <;> rfl
    have hS1 : SimH H X0 ⟨M.β,M.X,w1⟩:=hS.world hE1 (fun B _=>by rw [hh1])
    have hbn : (((leftOf es seen).toList).map (·.born)).Nodup:=by
     unfold leftOf
     rw [Array.toList_filter]
     exact g3.sublist (List.filter_sublist.map _)
    have hbn' : (es'.map (·.born)).Nodup:=(g5.map _).nodup_iff.2 hbn
    have hper : (es'.eraseIdx i).Perm (leftOf es (seen.push e.born)).toList:=by
     have e2 : es'.filter (fun x=>decide (x.born≠e.born)) = es'.eraseIdx i:=by
      rw [← zci (f:=(·.born)) hbn' hi]
      exact List.filter_congr fun x _=>decide_eq_decide.2 Iff.rfl
     rw [zhp,← e2]
     exact g5.filter _
    have her : RepL M (ts.eraseIdx i) ((es'.map (·.val)).eraseIdx i):=qz (by rw [List.length_eraseIdx,List.length_eraseIdx,g8.length]) fun a t ha=>by
     rw [List.getElem?_eraseIdx] at ha ⊢
     split at ha
     ·rename_i hlt;rw [if_pos hlt];exact g8.get a t ha
     ·rename_i hlt;rw [if_neg hlt];exact g8.get _ t ha
    have hp' : iterIs (some (e.key,t)) ((es'.map (·.key)).eraseIdx i) (ts.eraseIdx i) ⟨M.β,M.X,w1⟩ (.mapIter (some r) n (seen.push e.born) n):=by
     refine .inr ⟨r,es,n,seen.push e.born,_,es'.eraseIdx i,rfl,g1,by rw [hh1];exact g2,g3,g4,hper,zcj _ _ _,rfl,?_,fun k t' hc=>?_⟩
     ·rw [zcj];exact RepL.stays hE1.stays _ _ her
     ·injection hc with hc;injection hc with hc1 hc2;subst hc1 hc2
      exact ⟨e,seen,hes,rfl,rfl,Rep.stays hE1.stays _ _ hv2⟩
    obtain ⟨hE2,S⟩:=Sim.writeo (M:=⟨M.β,M.X,w1⟩) (p':=iterP (some (e.key,t)) ((es'.map MapEntry.key).eraseIdx i) (ts.eraseIdx i)) (o':=.mapIter (some r) n (seen.push e.born) n) (w':=setBlock w1 B (.mapIter (some r) n (seen.push e.born) n)) hS1 h2 hb h7 (by rw [hh1];exact h3) h4 rfl (by simp) hp'
    refine ⟨.tup [.v (.bool true),.v e.key,t],_,_,.inl ⟨.tuple #[.bool true,e.key,e.val],hex hr,[.bool true,e.key,e.val],rfl,.bool true,[e.key,e.val],rfl,rfl,e.key,[e.val],rfl,rfl,e.val,[],rfl,?_,rfl⟩,hE1.trans hE2,SimH.set (xa (by rw [hb];simp)) S,.inr ⟨i,e.key,t,?_,ht,rfl,rfl⟩⟩
    ·exact Rep.stays (hE1.trans hE2).stays _ _ hv2
    ·rw [List.getElem?_map,hi];rfl⟩
end
end

section
open Go.RowKit
section
variable {P : Program} {tab : Tab} {im : List Nat} {ds : List (Option Nat)} {l : List Oper} {E : Env} {H : Hp} {K : Env→Hp→Prop}
theorem zar [Dr] {d t ty : Nat} {pos : String} {after : Array Edge} (k : VX false P tab im ds l ((d,.om H.length) :: E) (H ++ [.o (mapP [] [])]) K) : VX false P tab im ds (⟨some d,.makeMap t none,ty,pos,after,none⟩ :: l) E H K:=by
 intro E2 he
 show vcGuard ds E2 _ _ _
 unfold vcGuard
 show ExtT P _ H E2.opd _
 exact zdp.mono fun t H' ⟨h1,h2⟩=>by subst h1 h2;exact k _ (he.put (some d) _)
theorem xv [Dr] (hT : TabOk P tab) {t ty : Nat} {pos : String} {after : Array Edge} {m k x : Operand} {kt et b : Nat} {i j : TyI} {ks : List Value} {ts : List T} {kv : Value} {tx : T} (hi : tab t = some i) (hik : i.k = .mp kt et) (hj : tab kt = some j) (hkd : keyKd j.k = true)
  (hm : E.opd m = some (.om b)) (hb : blkH H b = .o (mapP ks ts)) (hk : E.opd k = some (.v kv)) (hx : E.opd x = some tx) (hl : (ks.all fun x=>(likeK j.k kv x).isSome) = true) (hn : kv∉ks)
  (q : VX false P tab im ds l E (setH H b (.o (mapP (ks ++ [kv]) (ts ++ [tx])))) K) : VX false P tab im ds (⟨none,.insert t m k x,ty,pos,after,none⟩ :: l) E H K:=by
 intro E2 he
 show vcGuard ds E2 _ _ _
 unfold vcGuard
 show ExtT P _ H E2.opd _
 exact (p8 hT hi hik hj hkd (.inr rfl) (he.opd hm) hb (he.opd hk) (he.opd hx) hl hn).mono fun t H' ⟨h1,h2⟩=>by subst h1 h2;exact q _ he
theorem ze4 [Dr] (hT : TabOk P tab) {d t ty : Nat} {pos : String} {after : Array Edge} {m k : Operand} {ok : Bool} {b : Nat} {ks : List Value} {ts : List T} {kv : Value} {r : T} (hm : E.opd m = some (.om b)) (hb : blkH H b = .o (mapP ks ts)) (hk : E.opd k = some (.v kv)) (hr : mLook2 tab t ks ts kv ok = some r)
  (q : VX false P tab im ds l ((d,r) :: E) H K) : VX false P tab im ds (⟨some d,.lookup t m k ok,ty,pos,after,none⟩ :: l) E H K:=by
 intro E2 he
 show vcGuard ds E2 _ _ _
 unfold vcGuard
 have h1:=he.opd hm
 have hn : opM tab (lookH H) H.length E2.opd (.lookup t m k ok) = none:=by
  simp only [opM,h1,he.opd hk,mLookup]
 show vcOp P tab im ⟨some d,.lookup t m k ok,ty,pos,after,none⟩ E2 H _
 unfold vcOp
 simp only [hn]
 exact (zke hT h1 hb (he.opd hk) hr).mono fun t H' ⟨h1,h2⟩=>by subst h1 h2;exact q _ (he.put (some d) _)
theorem VX.range [Dr] (hT : TabOk P tab) {d t ty : Nat} {pos : String} {after : Array Edge} {x : Operand} {i : TyI} {kt et : Nat} {a : T} {ks : List Value} {ts : List T} (hi : tab t = some i) (hik : i.k = .mp kt et) (hx : E.opd x = some a) (ha : a = .mp ks ts∨(a = .v (.map none)∧ks = []∧ts = []))
  (q : VX false P tab im ds l ((d,.ptr H.length 0) :: E) (H ++ [.o (iterP none ks ts)]) K) : VX false P tab im ds (⟨some d,.range t x,ty,pos,after,none⟩ :: l) E H K:=by
 intro E2 he
 show vcGuard ds E2 _ _ _
 unfold vcGuard
 show ExtT P _ H E2.opd _
 exact (zh1 hT hi hik (he.opd hx) ha).mono fun t H' ⟨h1,h2⟩=>by subst h1 h2;exact q _ (he.put (some d) _)
theorem VX.next [Dr] {d ty : Nat} {pos : String} {after : Array Edge} {x : Operand} {b : Nat} {c : Option (Value × T)} {ks : List Value} {ts : List T} (hx : E.opd x = some (.ptr b 0)) (hb : blkH H b = .o (iterP c ks ts))
  (q0 : ks = []→VX false P tab im ds l ((d,.tup [.v (.bool false)]) :: E) H K)
  (q1 : ∀ (i : Nat) (k : Value) (t : T),ks[i]? = some k→ts[i]? = some t→VX false P tab im ds l ((d,.tup [.v (.bool true),.v k,t]) :: E) (setH H b (.o (iterP (some (k,t)) (ks.eraseIdx i) (ts.eraseIdx i)))) K) :
  VX false P tab im ds (⟨some d,.next x false,ty,pos,after,none⟩ :: l) E H K:=by
 intro E2 he
 show vcGuard ds E2 _ _ _
 unfold vcGuard
 show ExtT P _ H E2.opd _
 refine (zkd (he.opd hx) hb).mono fun t H' h=>?_
 rcases h with ⟨h1,h2,h3⟩ | ⟨i,k,t',h1,h2,h3,h4⟩
 ·subst h2 h3;exact q0 h1 _ (he.put (some d) _)
 ·subst h3 h4;exact q1 i k t' h1 h2 _ (he.put (some d) _)
end
/- the bytes of a string -/
def bytL (s : ByteArray) : List T:=s.data.toList.map fun c=>T.v (.int .u8 c.toNat)
section
variable {P : Program} {tab : Tab} {H : Hp} {ρ : EnvF}
theorem zh2 [Dr] (hT : TabOk P tab) {t1 t2 e : Nat} {i j q : TyI} (hi : tab t1 = some i) (hik : i.k = .str) (hj : tab t2 = some j) (hjk : j.k = .sl e) (hq : tab e = some q) (hqk : q.k = .int .u8) (hz : q.sz = 1) {d : Option Nat} {ty : TypeId} {pos : String} {after : Array Edge} {x : Operand} {s : ByteArray} (hx : ρ x = some (.v (.string s))) (hs : s.size≤2 ^ 47) :
  ExtT P ⟨d,.convert t1 t2 x,ty,pos,after,none⟩ H ρ (fun r H'=>r = .slc H.length 0 s.size 1 none∧H' = H ++ [.c (bytL s)]):=
 ⟨fun c h=>(by cases h),fun X0 M ρ' hS hρ=>by
  obtain ⟨D1,h1,k1⟩:=(hT t1 i hi).kind
  obtain ⟨D2,h2,k2⟩:=(hT t2 j hj).kind
  obtain ⟨D3,h3,k3⟩:=(hT e q hq).kind
  rw [hik] at k1;rw [hjk] at k2;rw [hqk] at k3
  cases D1 <;> simp only [kdOk] at k1
  cases D2 <;> simp only [kdOk] at k2
  cases D3 <;> simp only [kdOk] at k3
  subst k2 k3
  have hv : ρ' x = .string s:=hρ x _ hx
  rename_i e
  have hrun:=Lib.run_convert_string_bytes (P:=P) M.w t1 t2 e s h1 h2 h3
  have hheap : (Lib.bytesWorld M.w e s).heap = M.w.heap.push (.cells (Lib.bytesCells M.w e s) e ((Lib.bytesCells M.w e s).size,(Lib.bytesCells M.w e s).size + 1)):=by
   refine Array.ext_getElem? fun b=>?_
   rw [xg]
   by_cases hb : b = M.w.heap.size
   ·subst hb;rw [if_pos rfl];exact Lib.bytesWorld_at_new M.w e s
   ·rw [if_neg hb]
    rcases Nat.lt_or_ge b M.w.heap.size with hlt | hge
    ·exact Lib.bytesWorld_at_old M.w e s b hlt
    ·rw [Array.getElem?_eq_none (by rw [Lib.bytesWorld_size];omega),Array.getElem?_eq_none hge]
  have hcap1 : s.size≤grownCap M.w s.size 0 e:=by show _≤s.size + _ % _;omega
  have hcap2 : grownCap M.w s.size 0 e≤maxLen:=by
   show s.size + _ % (2 ^ 63 - s.size)≤_
   unfold maxLen
   have : ∀ q,q % (2 ^ 63 - s.size) < 2 ^ 63 - s.size:=fun q=>Nat.mod_lt _ (by omega)
   have:=this (M.w.tape M.w.drawn (.appendCap s.size 0 e))
   omega
  have hrep : RepA M (bytL s) (Lib.bytesCells M.w e s) 0:=v5 fun a t ht=>by
   unfold bytL at ht
   rw [List.getElem?_map,Option.map_eq_some_iff] at ht
   obtain ⟨c,h4,rfl⟩:=ht
   refine ⟨.int .u8 c.toNat,?_,rfl⟩
   unfold Lib.bytesCells
   rw [Nat.zero_add,Array.getElem?_append_left (by have:=(List.getElem?_eq_some_iff.1 h4).1;simpa using this),Array.getElem?_map]
   simp at h4
   rw [h4];rfl
  obtain ⟨hE,S,hsh⟩:=hS.new (nx:=H.length) (fun hh=>Nat.lt_irrefl _ hh) hheap rfl ⟨rfl,fun _=>Nat.le_succ _⟩ rfl (fun j hj=>by simp only;omega) hrep
  refine ⟨.slc H.length 0 s.size 1 none,_,newM M H.length (Lib.bytesWorld M.w e s),.inl ⟨_,by simp only [execOp,hv,Sem.run_bind,hrun,Result.andThen_ok];rfl,.inr ⟨M.w.heap.size,0,grownCap M.w s.size 0 e,if_pos rfl,rfl,hcap1,hcap2,fun q hq=>(by cases hq),e,(Lib.bytesCells M.w e s).size,hsh,?_⟩⟩,hE,SimH.push S,rfl,rfl⟩
  unfold Lib.bytesCells
  simp
  have : s.data.size = s.size:=rfl
  omega⟩
end
section
variable {P : Program} {tab : Tab} {im : List Nat} {ds : List (Option Nat)} {l : List Oper} {E : Env} {H : Hp} {K : Env→Hp→Prop}
theorem zbs [Dr] (hT : TabOk P tab) {t1 t2 e : Nat} {i j q : TyI} (hi : tab t1 = some i) (hik : i.k = .str) (hj : tab t2 = some j) (hjk : j.k = .sl e) (hq : tab e = some q) (hqk : q.k = .int .u8) (hz : q.sz = 1) {d ty : Nat} {pos : String} {after : Array Edge} {x : Operand} {s : ByteArray} (hx : E.opd x = some (.v (.string s))) (hs : s.size≤2 ^ 47)
  (k : VX false P tab im ds l ((d,.slc H.length 0 s.size 1 none) :: E) (H ++ [.c (bytL s)]) K) : VX false P tab im ds (⟨some d,.convert t1 t2 x,ty,pos,after,none⟩ :: l) E H K:=by
 intro E2 he
 show vcGuard ds E2 _ _ _
 unfold vcGuard
 have hn : opM tab (lookH H) H.length E2.opd (.convert t1 t2 x) = none:=by
  simp only [opM,he.opd hx,mConv,hi,hj,hik,hjk]
 show vcOp P tab im ⟨some d,.convert t1 t2 x,ty,pos,after,none⟩ E2 H _
 unfold vcOp
 simp only [hn]
 exact (zh2 hT hi hik hj hjk hq hqk hz (he.opd hx) hs).mono fun t H' ⟨h1,h2⟩=>by subst h1 h2;exact k _ (he.put (some d) _)
end
theorem Cv.omOld {bs : List Nat} {n j c : Nat} (h : bs[j]? = some c) : Cv (vwOut bs n) (.om j) (.om c):=.om (.inl h)
theorem Cv.omNew {bs : List Nat} {n j : Nat} (h : bs.length≤j) : Cv (vwOut bs n) (.om j) (.om (n + (j - bs.length))):=.om (.inr ⟨h,by omega⟩)
theorem yp {v : Vw} {H : Hp} {b : Nat} {p : OP} (h : blkH H b = .o p) : CvB v H (some b) (.o p):=h
end

section
open Go.RowKit
theorem z5 {p : Prop} (h : p:=by first | rfl | (simp only [T.pure,T.pureL,zp,sq,Bool.and_self, *];done) | fail) : p:=h
theorem zbo {p : Prop} (h : p:=by first | rfl | (simp only [T.pure,T.pureL,zp,sq,Bool.and_self, *];done) | (simp only [immT,flat,T.pure,T.pureL,zp,sq,Bool.and_self];done) | fail) : p:=h
theorem xj {p : Prop} (h : p:=by repeat' first | exact Cv.slc rfl (.inl rfl) | exact Cv.slc rfl (.inr rfl) | exact Cv.ptr rfl | exact Cv.pure zbo | exact CvL.pure zbo | refine CvL.cons ?_ ?_ | exact CvL.nil | refine Cv.agg ?_ | refine Cv.clo ?_ ?_ | refine Cv.iptr ?_ | exact trivial | exact zfa | refine zc4 rfl ?_ ?_ | exact Cv.om rfl | refine Cv.mp ?_ | refine CvIn_o rfl (by first | assumption | rfl) ?_) : p:=h
theorem xk {p : Prop} (h : p:=by repeat' first | exact Cv.slcOld rfl | exact Cv.slcNew (by decide) | exact Cv.ptrOld rfl | exact Cv.ptrNew (by decide) | exact Cv.pure zbo | exact CvL.pure zbo | apply CvL.cons | exact CvL.nil | apply Cv.agg | apply Cv.clo | apply Cv.iptr | apply Cv.tup | exact rg | apply r8 | apply CvOut_d | exact Cv.omOld rfl | exact Cv.omNew (by decide) | apply Cv.mp | apply CvOut_o | assumption) : p:=h
theorem yh {p : Prop} (h : p:=by first | rfl | exact Nat.le_of_ble_eq_true rfl | omega | (simp only [ye,List.length_append,List.length_cons,List.length_nil,List.length_replicate,Nat.zero_add,t8,zfx];omega) | (simp [ye,t8,zfx];done) | (simp [ye,t8,zfx];omega)) : p:=h
theorem zj {p : Prop} (h : p:=by first | exact wx _ (by first | assumption | exact getE (by omega)) (by decide) (by decide) rfl | exact z6 _ (by first | assumption | exact getE (by omega)) (by decide) rfl | exact zao _ (by first | assumption | exact getE (by omega)) (by decide) (by decide) rfl | exact zdr _ (by first | assumption | exact getE (by omega)) (by decide) rfl) : p:=h
theorem yo {p : Prop} (h : p:=by first | trivial | decide) : p:=h
theorem yn {p : Prop} (h : p:=by first | rfl | (simp only [noO,Bool.and_true,Bool.and_eq_true];first | assumption | (refine ⟨?_,?_⟩ <;> assumption)) | (simp only [noO, *,Bool.and_true,Bool.true_and,Bool.and_self];done)) : p:=h
theorem yj {p : Prop} (h : p:=by kernel_rfl) : p:=h
theorem z8 {p : Prop} (h : p:=by omega) : p:=h
theorem xd {p : Prop} (h : p:=by first | exact Cv.om rfl | exact Cv.slc rfl (.inl rfl) | exact Cv.slc rfl (.inr rfl) | exact Cv.ptr rfl | exact Cv.nilv rfl | exact Cv.nil _ (.inl rfl) | exact Cv.pure zbo | exact CvL.pure zbo) : p:=h
theorem au_z {p : Prop} (h : p:=by exact (Int.toNat_of_nonneg (by omega)).symm) : p:=h
theorem zh : (∀ a b : Bool,((a && b) = true) = (a = true∧b = true))∧(∀ a b : Bool,((a || b) = true) = (a = true∨b = true))∧(∀ a b : Bool,((a && b) = false) = (a = true→b = false))∧(∀ a b : Bool,((a || b) = false) = (a = false∧b = false))∧
  (∀ b : Bool,((!b) = true) = (b = false))∧(∀ b : Bool,((!b) = false) = (b = true))∧(∀ {α : Type} [BEq α] [LawfulBEq α] (a b : α),((a == b) = true) = (a = b))∧(∀ {α : Type} [BEq α] [LawfulBEq α] (a b : α),((a != b) = true) = (¬ a = b))∧
  (∀ {α : Type} [BEq α] [LawfulBEq α] (a b : α),((a == b) = false) = (¬ a = b))∧(∀ {α : Type} [BEq α] [LawfulBEq α] (a b : α),((a != b) = false) = (a = b))∧(∀ {α : Type} (a b : α),(a≠b) = (¬ a = b))∧(∀ (p : Prop) [Decidable p],(decide p = true) = p)∧(∀ (p : Prop) [Decidable p],(decide p = false) = (¬ p))∧
  (∀ a b : Int,(¬ a≤b) = (b < a))∧(∀ a b : Int,(¬ a < b) = (b≤a))∧(∀ {α : Type} [LE α] (a b : α),(a ≥ b) = (b≤a))∧(∀ {α : Type} [LT α] (a b : α),(a > b) = (b < a)):=by
 refine ⟨?_,?_,?_,?_,?_,?_,?_,?_,?_,?_,?_,?_,?_,?_,?_,?_,?_⟩
 ·intro a b;cases a <;> cases b <;> simp
 ·intro a b;cases a <;> cases b <;> simp
 ·intro a b;cases a <;> cases b <;> simp
 ·intro a b;cases a <;> cases b <;> simp
 ·intro b;cases b <;> simp
 ·intro b;cases b <;> simp
 ·intro α _ _ a b;simp
 ·intro α _ _ a b;simp
 ·intro α _ _ a b;simp
 ·intro α _ _ a b;simp
 ·intro α a b;rfl
 ·intro p _;simp
 ·intro p _;simp
 ·intro a b;simp
 ·intro a b;simp
 ·intro α _ a b;rfl
 ·intro α _ a b;rfl
end

section
open Go.RowKit
abbrev Wr:=Nat × Nat × List T
def appW : List Wr→Hp→Hp
 | [],F=>F
 | (b,o,xs) :: W,F=>match lookH F b with
  | some cs=>appW W (setH F b (.c (putL cs o xs)))
  | none=>F
def wOk (Hm : Hp) : List Wr→Hp→Prop
 | [],_=>True
 | (b,o,xs) :: W,F=>blkH Hm b = .d∧match lookH F b with
  | some cs=>o + xs.length≤cs.length∧xs.all cellB = true∧wOk Hm W (setH F b (.c (putL cs o xs)))
  | none=>False
inductive RunS [Dr] (P : Program) (tab : Tab) (im : List Nat) (ops : Array Oper) : List Oper→Env→Hp→Hp→List Stp→List Hp→List (Option Wr)→Env→Hp→Hp→Prop
 | nil (E : Env) (Hm F : Hp) : RunS P tab im ops [] E Hm F [] [] [] E Hm F
 | one {o : Oper} {l : List Oper} {E : Env} {Hm F : Hp} {s : Stp} {x : Hp} {r : List Stp} {hs : List Hp} {ws : List (Option Wr)} {E' : Env} {Hm' F' : Hp} (h : StpOk P tab im ops o E Hm s) (hx : x = newsOf s.nb∨(s.nb≠none∧x = [.d]))
   (k : RunS P tab im ops l (E.put o.dst s.t) (Hm ++ x) (F ++ newsOf s.nb) r hs ws E' Hm' F') : RunS P tab im ops (o :: l) E Hm F (s :: r) (Hm :: hs) (none :: ws) E' Hm' F'
 | sto {o : Oper} {l : List Oper} {E : Env} {Hm F : Hp} {t : Nat} {a x : Operand} {b q : Nat} {tx : T} {i : TyI} {r : List Stp} {hs : List Hp} {ws : List (Option Wr)} {E' : Env} {Hm' F' : Hp} (hg : o.guard = none) (hd : o.dst = none) (ho : o.op = .store t a x) (hT : tab t = some i) (ha : E.opd a = some (.ptr b q)) (hx : E.opd x = some tx)
   (hl : (flat tx).length = i.sz) (k : RunS P tab im ops l E Hm F r hs ws E' Hm' F') : RunS P tab im ops (o :: l) E Hm F (⟨.v undef,none⟩ :: r) (Hm :: hs) (some (b,q,flat tx) :: ws) E' Hm' F'
def StpS [Dr] (P : Program) (tab : Tab) (im : List Nat) (ops : Array Oper) (o : Oper) (E : Env) (H : Hp) (s : Stp) : Option Wr→Prop
 | none=>StpOk P tab im ops o E H s
 | some (b,q,xs)=>s = ⟨.v undef,none⟩∧o.guard = none∧o.dst = none∧∃ t a x tx i,o.op = .store t a x∧tab t = some i∧E.opd a = some (.ptr b q)∧E.opd x = some tx∧xs = flat tx∧xs.length = i.sz
def seen (Hm F : Hp) : Prop:=Hm.length = F.length∧∀ b,blkH Hm b≠.d→blkH Hm b = blkH F b
theorem zjk {Hm F x y : Hp} (h : seen Hm F) (k : seen x y) : seen (Hm ++ x) (F ++ y):=by
 obtain ⟨h1,h2⟩:=h;obtain ⟨k1,k2⟩:=k
 refine ⟨by simp [h1,k1],fun b hb=>?_⟩
 rw [tk,h1] at hb ⊢
 rw [tk]
 split
 ·rename_i hc;rw [if_pos hc] at hb;exact h2 b hb
 ·rename_i hc;rw [if_neg hc] at hb;exact k2 _ hb
theorem seen_x {s : Stp} {x : Hp} (hx : x = newsOf s.nb∨(s.nb≠none∧x = [.d])) : seen x (newsOf s.nb):=by
 rcases hx with rfl | ⟨h,rfl⟩
 ·exact ⟨rfl,fun _ _=>rfl⟩
 ·obtain ⟨cs,hcs⟩:=Option.ne_none_iff_exists'.1 h
  rw [hcs]
  refine ⟨rfl,fun b hb=>absurd ?_ hb⟩
  cases b with
  | zero=>rfl
  | succ b=>rfl
theorem runS_at [Dr] {P : Program} {tab : Tab} {im : List Nat} {ops : Array Oper} {l : List Oper} {E : Env} {Hm F : Hp} {r : List Stp} {hs : List Hp} {ws : List (Option Wr)} {E' : Env} {Hm' F' : Hp} (h : RunS P tab im ops l E Hm F r hs ws E' Hm' F') (hsn : seen Hm F) :
  r.length = l.length∧hs.length = l.length∧ws.length = l.length∧E' = envAt l r E l.length∧F' = hpAt r F l.length∧
   (∀ k o s hk w,l[k]? = some o→r[k]? = some s→hs[k]? = some hk→ws[k]? = some w→StpS P tab im ops o (envAt l r E k) hk s w∧seen hk (hpAt r F k)∧(∀ b,blkH Hm' b = .d→blkH hk b = .d))∧(∀ b,blkH Hm' b = .d→blkH Hm b = .d):=by
 induction h with
 | nil E Hm F=>exact ⟨rfl,rfl,rfl,rfl,rfl,fun k o s hk w h=>by simp at h,fun b hb=>hb⟩
 | @one o l E Hm F s x r hs ws E' Hm' F' h hx k ih=>
  obtain ⟨h1,h2,h3,h4,h5,h6,h7⟩:=ih (zjk hsn (seen_x hx))
  have h8 : ∀ b,blkH Hm' b = .d→blkH Hm b = .d:=fun b hb=>by
   have:=h7 b hb
   rw [tk] at this
   split at this
   ·exact this
   ·rename_i hc
    exact Classical.byContradiction fun hne=>hc (xa hne)
  refine ⟨by simp [h1],by simp [h2],by simp [h3],h4,h5,fun j o' s' hk w ho hs' hh hw=>?_,h8⟩
  cases j with
  | zero=>simp at ho hs' hh hw;subst ho hs' hh hw;exact ⟨h,hsn,h8⟩
  | succ j=>exact h6 j o' s' hk w (by simpa using ho) (by simpa using hs') (by simpa using hh) (by simpa using hw)
 | @sto o l E Hm F t a x b q tx i r hs ws E' Hm' F' hg hd ho hT ha hx hl k ih=>
  obtain ⟨h1,h2,h3,h4,h5,h6,h7⟩:=ih hsn
  refine ⟨by simp [h1],by simp [h2],by simp [h3],?_,?_,fun j o' s' hk w ho' hs' hh hw=>?_,h7⟩
  ·rw [h4];show _ = envAt l r (E.put o.dst _) l.length;rw [hd];rfl
  ·rw [h5];show _ = hpAt r (F ++ newsOf none) l.length;simp [newsOf]
  ·cases j with
   | zero=>simp at ho' hs' hh hw;subst ho' hs' hh hw;exact ⟨⟨rfl,hg,hd,t,a,x,tx,i,ho,hT,ha,hx,rfl,hl⟩,hsn,h7⟩
   | succ j=>
    have:=h6 j o' s' hk w (by simpa using ho') (by simpa using hs') (by simpa using hh) (by simpa using hw)
    refine ⟨?_,?_,this.2.2⟩
    ·have e : envAt (o :: l) (⟨.v undef,none⟩ :: r) E (j + 1) = envAt l r E j:=by show envAt l r (E.put o.dst _) j = _;rw [hd];rfl
     rw [e];exact this.1
    ·have e : hpAt (⟨.v undef,none⟩ :: r) F (j + 1) = hpAt r F j:=by show hpAt r (F ++ newsOf none) j = _;simp [newsOf]
     rw [e];exact this.2.1
theorem s6 : ∀ (W : List Wr) (F : Hp),(appW W F).length = F.length
 | [],_=>rfl
 | (b,o,xs) :: W,F=>by
  unfold appW
  split
  ·rw [s6,xc]
  ·rfl
theorem ud {c : Nat} : ∀ (W : List Wr) (F : Hp),(∀ w∈W,w.1≠c)→blkH (appW W F) c = blkH F c
 | [],_,_=>rfl
 | (b,o,xs) :: W,F,h=>by
  unfold appW
  split
  ·rename_i cs hc
   rw [ud W _ fun w hw=>h w (List.mem_cons_of_mem _ hw),x6 _ _ _ _ (xn hc),if_neg (Ne.symm (h _ List.mem_cons_self))]
  ·rfl
theorem zc1 {Hm : Hp} {b o : Nat} {xs : List T} : ∀ (W V : List Wr) (F : Hp),wOk Hm (W ++ (b,o,xs) :: V) F→blkH Hm b = .d∧∃ cs,lookH (appW W F) b = some cs∧o + xs.length≤cs.length∧xs.all cellB = true∧appW (W ++ [(b,o,xs)]) F = setH (appW W F) b (.c (putL cs o xs))
 | [],V,F,h=>by
  simp only [List.nil_append,wOk] at h
  obtain ⟨h0,h⟩:=h
  split at h
  ·rename_i cs hc
   exact ⟨h0,cs,hc,h.1,h.2.1,by simp only [List.nil_append,appW,hc]⟩
  ·exact h.elim
 | (b',o',xs') :: W,V,F,h=>by
  simp only [List.cons_append,wOk] at h
  obtain ⟨-,h⟩:=h
  split at h
  ·rename_i cs hc
   obtain ⟨h0,cs2,k1,k2,k3,k4⟩:=zc1 W V _ h.2.2
   refine ⟨h0,cs2,?_,k2,k3,?_⟩
   ·simp only [appW,hc];exact k1
   ·simp only [List.cons_append,appW,hc];exact k4
  ·exact h.elim
theorem zd0 {Hm : Hp} : ∀ (W : List Wr) (F : Hp),wOk Hm W F→∀ w∈W,blkH Hm w.1 = .d
 | [],_,_,w,h=>by cases h
 | (b,o,xs) :: W,F,h,w,hw=>by
  simp only [wOk] at h
  obtain ⟨h0,h⟩:=h
  split at h
  ·rcases List.mem_cons.1 hw with rfl | hw
   ·exact h0
   ·exact zd0 W _ h.2.2 w hw
  ·exact h.elim
end

section
open Go.RowKit
theorem Sim.stored [Dr] {P : Program} {tab : Tab} (hT : TabOk P tab) {blk : Nat→Blk} {D X0 : Nat→Prop} {M : Mp} (hS : Sim blk D X0 M) {t b o : Nat} {i : TyI} {cs : List T} {x : T} {ua ux : Value} (hi : tab t = some i) (hc : blk b = .c cs) (ha : Rep M (.ptr b o) ua) (hx : Rep M x ux)
  (h1 : (flat x).length = i.sz) (h2 : o + (flat x).length≤cs.length) (h3 : (flat x).all cellB = true) :
  ∃ M',(Instr.storeAt t ua ux).run P M.w = .ok () M'.w∧Evo X0 M M'∧Sim (updL blk b (.c (putL cs o (flat x)))) D X0 M':=by
 have hok:=hT t i hi
 obtain ⟨B,O,hb,rfl⟩:=ha
 obtain ⟨ar,e,fz,g1,g2,g3,g4,g5⟩:=hS.block hb hc
 have hf:=ql hx
 have hl:=hf.length
 simp only [Array.length_toList] at hl
 have hsz : O + o + 0 + ux.cells.toList.length≤ar.size:=by
  rcases Nat.eq_zero_or_pos cs.length with h0 | h0
  ·simp;omega
  ·have:=g3.size h0;simp;omega
 obtain ⟨a',k1,k2,k3⟩:=xh (P:=P) (o:=O + o) ux.cells.toList 0 ar M.w g1 g2 hsz (v8 hf h3)
 have hr:=written (a':=a') (o:=o) g3 hf (by omega) (fun k=>by simpa using k3 k)
 obtain ⟨E,S⟩:=hS.write hb hc g1 k2 hr
 refine ⟨_,?_,E,S⟩
 have hne : ux.cells.size = i.sz:=by omega
 simp [Instr.storeAt,Instr.sureAddr,storeVar,hok.size_,hne]
 exact k1
section
variable {z : Bool} {P : Program} {tab : Tab} {n m kb lb : Nat} {l : List Oper} {E : Env} {H : Hp} {r : List Stp} {hs : List Hp} {ws : List (Option Wr)} {Hm' : Hp} {X0 : Nat→Prop} {M0 : Mp}
open Classical in
noncomputable def lookG (r : List Stp) (H G : Hp) (L : Nat→Prop) (b : Nat) : Blk:=if b < H.length∨made r H L b then blkH G b else .d
def cntW (ws : List (Option Wr)) (k : Nat) : Nat:=((ws.take k).filterMap id).length
structure JdS [Dr] (n kb : Nat) (pre : List Oper) (r : List Stp) (ws : List (Option Wr)) (E : Env) (H : Hp) (X0 : Nat→Prop) (j : Nat) (L : Nat→Prop) (a : Act) (M : Mp) : Prop where
 sim : Sim (lookG r H (appW ((ws.filterMap id).take j) (hpAt r H r.length)) L) (fun b=>b < H.length∨made r H L b) X0 M
 slot : ∀ k o s d,pre[k]? = some o→r[k]? = some s→L k→o.dst = some d→∃ u,a.tmps[d]? = some u∧Rep M s.t u
 old : ∀ d t,E.get d = some t→(∀ k o,pre[k]? = some o→L k→o.dst≠some d)→∃ u,a.tmps[d]? = some u∧Rep M t u
 sz : a.tmps.size = n
 df : Marks kb a.defers M
 ge : kb≤M.w.heap.size
 cnt : ∀ k w,ws[k]? = some (some w)→(L k↔cntW ws k < j)
 mkd : ∀ w∈(ws.filterMap id).take j,w.1 < H.length∨made r H L w.1
structure RunF [Dr] (P : Program) (tab : Tab) (im : List Nat) (l : List Oper) (m : Nat) (E : Env) (H : Hp) (r : List Stp) (hs : List Hp) (ws : List (Option Wr)) (Hm' : Hp) : Prop where
 rl : r.length = (l.take m).length
 hl : hs.length = (l.take m).length
 wl : ws.length = (l.take m).length
 st : ∀ k o s hk w,(l.take m)[k]? = some o→r[k]? = some s→hs[k]? = some hk→ws[k]? = some w→StpS P tab im l.toArray o (envAt (l.take m) r E k) hk s w∧seen hk (hpAt r H k)∧(∀ b,blkH Hm' b = .d→blkH hk b = .d)
 ok : wOk Hm' (ws.filterMap id) (hpAt r H r.length)
def stB (o : Option Oper) : Bool:=match o with
 | some o=>match o.op with | .store ..=>true | _=>false
 | none=>false
def chainB (l : List Oper) (m : Nat) : Bool:=(List.range m).all fun k=>(List.range k).all fun j=>!(stB l[k]? && stB l[j]?) || ((masks l []).getD k 0).testBit j
theorem zeu (h : chainB l m = true) {k j : Nat} (hk : k < m) (hj : j < k) {ok oj : Oper} (h1 : l[k]? = some ok) (h2 : l[j]? = some oj) {t t' : TypeId} {a x a' x' : Operand} (e1 : ok.op = .store t a x) (e2 : oj.op = .store t' a' x') : ((masks l []).getD k 0).testBit j = true:=by
 unfold chainB at h
 rw [List.all_eq_true] at h
 have h:=h k (List.mem_range.2 hk)
 rw [List.all_eq_true] at h
 have h:=h j (List.mem_range.2 hj)
 have s1 : stB l[k]? = true:=by rw [h1];simp [stB,e1]
 have s2 : stB l[j]? = true:=by rw [h2];simp [stB,e2]
 rw [s1,s2] at h
 simpa using h
theorem JdS.read [Dr] {L : Nat→Prop} {a : Act} {M : Mp} {j0 : Nat} (hO : OrdB l m) (hr : r.length = (l.take m).length) (h : JdS n kb (l.take m) r ws E H X0 j0 L a M) (hc : Closed l L) {k : Nat} {o : Oper} (ho : (l.take m)[k]? = some o) (hk : ¬ L k) (hpre : ∀ e∈o.after,Region.binds .any e = true→L e.on)
  {d : Nat} {t : T} (hd : d∈readsOf l.toArray o) (ht : (envAt (l.take m) r E k).get d = some t) : ∃ u,a.tmps[d]? = some u∧Rep M t u:=by
 have hkl : k < (l.take m).length:=(List.getElem?_eq_some_iff.1 ho).1
 have hol : l[k]? = some o:=by rw [List.getElem?_take] at ho;split at ho;exact ho;cases ho
 have hdis : ∀ (i j : Nat) (oi oj : Oper),(l.take m)[i]? = some oi→(l.take m)[j]? = some oj→i≠j→∀ d,oi.dst = some d→oj.dst≠some d:=fun i j oi oj hi hj hij d hdi=>(hO.pair j oj i oi hj hi hij d hdi).1
 obtain ⟨g1,g2⟩:=t7 (E:=E) (d:=d) hr (Nat.le_of_lt hkl) hdis
 by_cases hw : ∃ j oj,j < k∧(l.take m)[j]? = some oj∧oj.dst = some d
 ·obtain ⟨j,oj,hj,hoj,hdj⟩:=hw
  have hs : r[j]? = some r[j]:=List.getElem?_eq_getElem (by omega)
  rw [g1 j oj _ hj hoj hs hdj] at ht
  injection ht with ht;subst ht
  have hm:=(hO.pair k o j oj ho hoj (by omega) d hdj).2 hd
  rw [if_pos hj] at hm
  exact h.slot j oj _ d hoj hs (wa hO.back hc hol hpre hm) hdj
 ·rw [g2 fun j oj hj hoj hdj=>hw ⟨j,oj,hj,hoj,hdj⟩] at ht
  refine h.old d t ht fun j oj hoj hLj hdj=>?_
  by_cases hjk : j = k
  ·subst hjk;exact hk hLj
  ·have hm:=(hO.pair k o j oj ho hoj hjk d hdj).2 hd
   by_cases hlt : j < k
   ·exact hw ⟨j,oj,hlt,hoj,hdj⟩
   ·rw [if_neg hlt] at hm
    exact hk (vr hO.back hc j hLj k hm)
theorem zij {ws : List (Option Wr)} {k : Nat} {w : Wr} (h : ws[k]? = some (some w)) : (ws.filterMap id)[cntW ws k]? = some w:=by
 unfold cntW
 have hk:=(List.getElem?_eq_some_iff.1 h).1
 have e : ws = ws.take k ++ some w :: ws.drop (k + 1):=by
  rw [← List.getElem?_eq_some_iff.1 h |>.2,← List.drop_eq_getElem_cons hk,List.take_append_drop]
 conv=>lhs;arg 1;rw [e]
 rw [List.filterMap_append,List.getElem?_append_right (Nat.le_refl _),Nat.sub_self]
 simp
theorem s4 {ws : List (Option Wr)} {k k' : Nat} (h : k < k') {w : Wr} (hw : ws[k]? = some (some w)) : cntW ws k < cntW ws k':=by
 unfold cntW
 have hk:=(List.getElem?_eq_some_iff.1 hw).1
 have e : ws.take k' = ws.take k ++ some w :: (ws.take k').drop (k + 1):=by
  have h1 : (ws.take k')[k]? = some (some w):=by rw [List.getElem?_take,if_pos h];exact hw
  have h2:=(List.getElem?_eq_some_iff.1 h1)
  have h3 : ws.take k = (ws.take k').take k:=by rw [List.take_take,Nat.min_eq_left (by omega)]
  rw [h3,← h2.2,← List.drop_eq_getElem_cons h2.1,List.take_append_drop]
 rw [e,List.filterMap_append,List.length_append]
 simp
end
end

section
open Go.RowKit
section
variable {z : Bool} {P : Program} {tab : Tab} {n m kb lb : Nat} {l : List Oper} {E : Env} {H : Hp} {r : List Stp} {hs : List Hp} {ws : List (Option Wr)} {Hm' : Hp} {X0 : Nat→Prop} {M0 : Mp} {im : List Nat}
theorem th {ws : List (Option Wr)} {j : Nat} : ∀ {k : Nat},j < cntW ws k→∃ k' w,k' < k∧ws[k']? = some (some w)∧cntW ws k' = j
 | 0,h=>by simp [cntW] at h
 | k + 1,h=>by
  by_cases hk : j < cntW ws k
  ·obtain ⟨k',w,h1,h2⟩:=th hk
   exact ⟨k',w,by omega,h2⟩
  ·cases hw : ws[k]? with
   | none=>
    have hl:=List.getElem?_eq_none_iff.1 hw
    unfold cntW at h hk
    rw [List.take_of_length_le (by omega)] at h hk
    omega
   | some x=>
    have hkl:=(List.getElem?_eq_some_iff.1 hw).1
    have e : ws.take (k + 1) = ws.take k ++ [x]:=by rw [List.take_add_one,hw];rfl
    unfold cntW at h hk
    rw [e,List.filterMap_append,List.length_append] at h
    cases x with
    | none=>simp at h;omega
    | some w=>
     simp at h
     exact ⟨k,w,Nat.lt_succ_self _,hw,by unfold cntW;omega⟩
theorem tv {L : Nat→Prop} {k b : Nat} (h : made r H L b) : made r H (fun j=>L j∨j = k) b:=by obtain ⟨j,s,h1,h2,h3,h4⟩:=h;exact ⟨j,s,h1,h2,.inl h3,h4⟩
theorem xz {G : Hp} {L : Nat→Prop} {k : Nat} {s : Stp} (hs : r[k]? = some s) (hn : s.nb = none) (b : Nat) : lookG r H G (fun j=>L j∨j = k) b = lookG r H G L b:=by
 unfold lookG
 by_cases h : b < H.length∨made r H L b
 ·rw [if_pos h,if_pos (h.imp id tv)]
 ·rw [if_neg h,if_neg fun hh=>h (hh.imp id (xf hs hn b).1)]
theorem JdS.look [Dr] {L : Nat→Prop} {a : Act} {M : Mp} {j : Nat} (hF : RunF P tab im l m E H r hs ws Hm') (h : JdS n kb (l.take m) r ws E H X0 j L a M) {k : Nat} {hk : Hp} (hkk : hs[k]? = some hk) : LookAt M (lookH hk):=by
 have hkl : k < (l.take m).length:=by rw [← hF.hl];exact (List.getElem?_eq_some_iff.1 hkk).1
 obtain ⟨-,hsn,hdd⟩:=hF.st k _ _ hk _ (List.getElem?_eq_getElem hkl) (List.getElem?_eq_getElem (by rw [hF.rl];exact hkl)) hkk (List.getElem?_eq_getElem (by rw [hF.wl];exact hkl))
 intro b B O cells hb hc
 refine Sim.look h.sim b B O cells hb ?_;have hd:=h.sim.D_of hb
 rw [y9] at hc
 rw [vp]
 unfold lookG
 rw [if_pos hd,ud _ _ fun w hw e=>?_]
 ·have e1:=hsn.2 b (by rw [hc];simp)
  have hlt : b < (hpAt r H k).length:=by rw [← hsn.1];exact xa (by rw [hc];simp)
  have hkeep:=(wi (r:=r) (H:=H) k r.length (by have:=hF.rl;omega) (Nat.le_refl _)).2 b hlt
  rw [hkeep,← e1];exact hc
 ·have h1:=hdd _ (zd0 _ _ hF.ok w (List.mem_of_mem_take hw))
  rw [e,hc] at h1;cases h1
theorem JdS.next [Dr] {L : Nat→Prop} {a : Act} {M M' : Mp} {j j' : Nat} (hO : OrdB l m) (h : JdS n kb (l.take m) r ws E H X0 j L a M) {k : Nat} {o : Oper} {s : Stp} {u : Value} (ho : (l.take m)[k]? = some o) (hs : r[k]? = some s) (hk : ¬ L k) (hd : ∀ d,o.dst = some d→d < n)
  (hE : Evo X0 M M') (hS : Sim (lookG r H (appW ((ws.filterMap id).take j') (hpAt r H r.length)) (fun i=>L i∨i = k)) (fun b=>b < H.length∨made r H (fun i=>L i∨i = k) b) X0 M') (hr : Rep M' s.t u)
  (hcnt : ∀ k' w,ws[k']? = some (some w)→((L k'∨k' = k)↔cntW ws k' < j')) (hmk : ∀ w∈(ws.filterMap id).take j',w.1 < H.length∨made r H (fun i=>L i∨i = k) w.1) : JdS n kb (l.take m) r ws E H X0 j' (fun i=>L i∨i = k) (a.put o.dst u) M':=by
 have keep : ∀ d v,o.dst≠some d→a.tmps[d]? = some v→(a.put o.dst u).tmps[d]? = some v:=fun d v hne hv=>by
  cases hod : o.dst with
  | none=>exact hv
  | some d'=>simp only [Act.put];rw [Array.getElem?_setIfInBounds_ne (fun e=>hne (by rw [hod,e]))];exact hv
 refine ⟨hS,fun j oj sj d hoj hsj hL hdj=>?_,fun d t ht hno=>?_,?_,?_,Nat.le_trans h.ge hE.size,hcnt,hmk⟩
 ·by_cases hjk : j = k
  ·subst hjk
   rw [ho] at hoj;rw [hs] at hsj
   injection hoj with hoj;injection hsj with hsj;subst hoj hsj
   refine ⟨u,?_,hr⟩
   rw [hdj]
   simp [Act.put,h.sz,hd d hdj]
  ·obtain ⟨v,h1,h2⟩:=h.slot j oj sj d hoj hsj (hL.resolve_right hjk) hdj
   exact ⟨v,keep d v (hO.pair k o j oj ho hoj hjk d hdj).1 h1,Rep.stays hE.stays _ _ h2⟩
 ·obtain ⟨v,h1,h2⟩:=h.old d t ht fun j oj hoj hL=>hno j oj hoj (.inl hL)
  exact ⟨v,keep d v (hno k o ho (.inr rfl)) h1,Rep.stays hE.stays _ _ h2⟩
 ·cases o.dst <;> simp [Act.put,h.sz]
 ·cases o.dst <;> exact h.df.evo hE
theorem JdS.step [Dr] (hT : TabOk P tab) (hO : OrdB l m) (hch : chainB l m = true) (hF : RunF P tab im l m E H r hs ws Hm')
  {L : Nat→Prop} {a : Act} {M : Mp} {j : Nat} (h : JdS n kb (l.take m) r ws E H X0 j L a M) (hc : Closed l L) {k : Nat} {o : Oper} (ho : (l.take m)[k]? = some o) (hk : ¬ L k) (hpre : ∀ e∈o.after,Region.binds .any e = true→L e.on) (hd : ∀ d,o.dst = some d→d < n)
  {r0 : Option Nat} {Q : Exit→Act→World→Prop} {K : Act→World→Prop} (hK : ∀ a' M' j',Evo X0 M M'→JdS n kb (l.take m) r ws E H X0 j' (fun i=>L i∨i = k) a' M'→K a' M'.w) : wpOpIn (FW r0) 0 P l.toArray Q k K a M.w:=by
 have hr:=hF.rl
 have hkl : k < (l.take m).length:=(List.getElem?_eq_some_iff.1 ho).1
 have hol : l[k]? = some o:=by rw [List.getElem?_take] at ho;split at ho;exact ho;cases ho
 have hkm : k < m:=by rw [List.length_take] at hkl;omega
 have hs' : r[k]? = some r[k]:=List.getElem?_eq_getElem (by omega)
 obtain ⟨hk',hh'⟩ : ∃ x,hs[k]? = some x:=⟨_,List.getElem?_eq_getElem (by rw [hF.hl];omega)⟩
 obtain ⟨w,hw'⟩ : ∃ x,ws[k]? = some x:=⟨_,List.getElem?_eq_getElem (by rw [hF.wl];omega)⟩
 obtain ⟨hstp,hsn,-⟩:=hF.st k o _ _ _ ho hs' hh' hw'
 generalize r[k] = s at hs' hstp
 have hlook:=h.look hF hh'
 have hrd:=fun (d : Nat) (t : T)=>h.read hO hr hc ho hk hpre (d:=d) (t:=t)
 have hop : ∀ x∈o.op.operands.toList,∀ t,(envAt (l.take m) r E k).opd x = some t→Rep M t (a.eval x):=by
  intro x hx t ht
  cases x with
  | tmp d=>
   obtain ⟨u,h1,h2⟩:=hrd d t (by simp only [readsOf,Oper.looksAt,List.mem_append,List.mem_filterMap];exact .inl ⟨.tmp d,hx,rfl⟩) ht
   have : a.eval (.tmp d) = u:=by show a.tmps.getD d undef = u;simp [h1]
   rw [this];exact h2
  | const v=>simp only [Env.opd] at ht;injection ht with ht;subst ht;exact qy v
  | func f=>simp only [Env.opd] at ht;injection ht with ht;subst ht;exact ⟨[],[],rfl,rfl,rfl⟩
  | global g=>simp only [Env.opd] at ht;injection ht with ht;subst ht;exact rfl
 unfold wpOpIn
 simp only [List.getElem?_toArray,hol]
 cases w with
 | some w=>
  obtain ⟨b,q,xs⟩:=w
  obtain ⟨rfl,hg,hdn,t,x,y,tx,i,hoc,hti,hx,hy,rfl,hxl⟩:=hstp
  have hw : Region.wanted o (yielded l.toArray a.tmps) = true:=by simp [Region.wanted,hg]
  rw [hw,if_pos rfl]
  have hix:=zij hw'
  have hij : cntW ws k = j:=by
   have h1 : ¬ cntW ws k < j:=fun hh=>hk ((h.cnt k _ hw').2 hh)
   refine Nat.le_antisymm (Nat.le_of_not_lt fun hh=>?_) (by omega)
   obtain ⟨k',w',q1,q2,q3⟩:=th hh
   have hk'l : k' < (l.take m).length:=by rw [← hF.wl];exact (List.getElem?_eq_some_iff.1 q2).1
   have ho' : (l.take m)[k']? = some (l.take m)[k']:=List.getElem?_eq_getElem hk'l
   obtain ⟨hst',-,-⟩:=hF.st k' _ _ _ _ ho' (List.getElem?_eq_getElem (by omega)) (List.getElem?_eq_getElem (by rw [hF.hl];omega)) q2
   obtain ⟨b',q',xs'⟩:=w'
   obtain ⟨-,-,-,t',x',y',tx',i',hoc',-⟩:=hst'
   have hol' : l[k']? = some (l.take m)[k']:=by have:=ho';rw [List.getElem?_take] at this;split at this;exact this;cases this
   have hL:=wa hO.back hc hol hpre (zeu hch hkm q1 hol hol' hoc hoc')
   have:=(h.cnt k' _ q2).1 hL
   omega
  rw [hij] at hix
  have hsp : ws.filterMap id = (ws.filterMap id).take j ++ (b,q,flat tx) :: (ws.filterMap id).drop (j + 1):=by
   have h1:=(List.getElem?_eq_some_iff.1 hix)
   rw [← h1.2,← List.drop_eq_getElem_cons h1.1,List.take_append_drop]
  have hok:=hF.ok
  rw [hsp] at hok
  obtain ⟨-,cs,k1,k2,k3,k4⟩:=zc1 _ _ _ hok
  have htk : (ws.filterMap id).take (j + 1) = (ws.filterMap id).take j ++ [(b,q,flat tx)]:=by rw [List.take_add_one,hix];rfl
  have hrx:=hop x (by rw [hoc];simp [Op.operands]) _ hx
  have hry:=hop y (by rw [hoc];simp [Op.operands]) _ hy
  have hbb : b < H.length∨made r H L b:=by obtain ⟨B,O,hb,-⟩:=hrx;exact h.sim.D_of hb
  have hbk : lookG r H (appW ((ws.filterMap id).take j) (hpAt r H r.length)) L b = .c cs:=by unfold lookG;rw [if_pos hbb];exact y9.1 k1
  obtain ⟨M',e1,e2,e3⟩:=Sim.stored (P:=P) hT h.sim hti hbk hrx hry hxl k2 k3
  have hnd : ∀ c,o.op≠.defer c:=by rw [hoc];simp
  refine xx hnd ?_;obtain ⟨dst,op,ty,pos,after,guard⟩:=o
  simp only at hoc hdn
  subst hoc hdn
  have hrr : (execOp a.eval ⟨none,.store t x y,ty,pos,after,guard⟩).run P M.w = .ok .skip M'.w:=by simp [execOp,e1]
  rw [hrr]
  refine hK _ _ (j + 1) e2 (h.next hO ho hs' hk hd e2 (e3.congr (fun c=>?_) (fun c=>by rw [xf hs' rfl])) (u:=undef) rfl (fun k2' w2 hw2=>?_) (fun w2 hw2=>?_))
  ·rw [xz hs' rfl,htk,k4]
   unfold lookG updL
   by_cases hcb : c = b
   ·subst hcb;rw [if_pos hbb,if_pos rfl,x6 _ _ _ _ (xn k1),if_pos rfl]
   ·rw [if_neg hcb]
    dsimp only
    by_cases hcd : c < H.length∨made r H L c
    ·rw [if_pos hcd,if_pos hcd,x6 _ _ _ _ (xn k1),if_neg hcb]
    ·rw [if_neg hcd,if_neg hcd]
  ·rw [h.cnt k2' w2 hw2]
   constructor
   ·rintro (q1 | rfl) <;> omega
   ·intro hh
    by_cases h2 : cntW ws k2' < j
    ·exact .inl h2
    ·refine .inr ?_;rcases Nat.lt_trichotomy k2' k with q1 | q1 | q1
     ·have:=s4 q1 hw2;omega
     ·exact q1
     ·have:=s4 q1 hw';omega
  ·rw [htk] at hw2
   rcases List.mem_append.1 hw2 with q1 | q1
   ·exact (h.mkd w2 q1).imp id tv
   ·rw [List.mem_singleton] at q1;subst q1;exact hbb.imp id tv
 | none=>
  have hcn : ∀ k' w,ws[k']? = some (some w)→((L k'∨k' = k)↔cntW ws k' < j):=fun k' w hwk=>by
   rw [← h.cnt k' w hwk]
   exact ⟨fun hh=>hh.resolve_right (fun e=>by subst e;rw [hw'] at hwk;injection hwk with hwk;cases hwk),Or.inl⟩
  have hmk : ∀ w∈(ws.filterMap id).take j,w.1 < H.length∨made r H (fun i=>L i∨i = k) w.1:=fun w hw=>(h.mkd w hw).imp id tv
  have hgd : ∀ g want d b,o.guard = some (g,want)→(l.toArray[g]?).bind (·.dst) = some d→(envAt (l.take m) r E k).get d = some (.v (.bool b))→yielded l.toArray a.tmps g = some b:=by
   intro g want d b hg hgd hb
   have hgd' : (l[g]?.bind fun x=>x.dst) = some d:=by simpa using hgd
   obtain ⟨u,h1,h2⟩:=hrd d _ (by simp [readsOf,Oper.looksAt,hg];exact .inr hgd') hb
   obtain rfl:=h2
   simp [yielded,hgd',h1]
  rcases hstp with ⟨h1,h2,g,want,d,x,hg,hgdst,hb,hne⟩ | ⟨hg,hst⟩
  ·have hw : Region.wanted o (yielded l.toArray a.tmps) = false:=by
    have hgd' : (l[g]?.bind fun x=>x.dst) = some d:=by simpa using hgdst
    obtain ⟨u,q1,q2⟩:=hrd d _ (by simp [readsOf,Oper.looksAt,hg];exact .inr hgd') hb
    obtain rfl:=q2
    have hy : yielded l.toArray a.tmps g = match u with | .bool b=>some b | _=>none:=by simp only [yielded,List.getElem?_toArray,hgd',Option.bind_some,q1];cases u <;> rfl
    simp only [Region.wanted,hg,hy]
    cases u <;> first | rfl | skip
    rename_i b
    cases b <;> cases want <;> first | rfl | exact absurd rfl hne
   rw [hw]
   refine ⟨fun _ _=>trivial,hK _ M j (Evo.refl _ _) (h.next hO ho hs' hk hd (Evo.refl _ _) (h.sim.congr (fun b=>xz hs' h2 b) fun b=>by rw [xf hs' h2]) (by rw [h1];rfl) hcn hmk)⟩
  ·have hw : Region.wanted o (yielded l.toArray a.tmps) = true:=by
    rcases hg with hg | ⟨g,want,d,hg,hgdst,hb⟩
    ·simp [Region.wanted,hg]
    ·have hy:=hgd g want d want hg hgdst hb
     simp [Region.wanted,hg,hy]
   rw [hw,if_pos rfl]
   have hnd : ∀ c,o.op≠.defer c:=by
    rcases hst with ⟨t,nb,hm,-⟩ | ⟨f,args,ats,g,fs,cs,ts,hoc,-⟩
    ·exact zaf hm
    ·rw [hoc];simp
   refine xx hnd ?_;rcases hst with ⟨t,nb,hm,hst⟩ | ⟨f,args,ats,g,fs,cs,ts,hoc,hf,hts,hcall,hnb⟩
   ·have hmk':=zag (M:=M) (ρ':=a.eval) hT hlook hop hm
    rcases hst with ⟨hst,hnb⟩ | ⟨⟨e,cs⟩,rfl,hst,hnb⟩
    case inr=>
     obtain ⟨u,w',q1,q2,q3,q4⟩:=pn h.sim hmk' (pf hm)
     rw [q1]
     exact hK _ _ j q2 (h.next hO ho hs' hk hd q2 ((h.sim.world q2 q3).congr (fun b=>xz hs' hnb b) fun b=>by rw [xf hs' hnb]) (by rw [hst];exact q4) hcn hmk)
    subst hst
    cases nb with
    | none=>
     obtain ⟨u,h1,h2⟩:=hmk'
     rw [h1]
     exact hK _ M j (Evo.refl _ _) (h.next hO ho hs' hk hd (Evo.refl _ _) (h.sim.congr (fun b=>xz hs' hnb b) fun b=>by rw [xf hs' hnb]) h2 hcn hmk)
    | some p=>
     obtain ⟨e,cs⟩:=p
     simp only [Option.map_some] at hnb
     rw [hsn.1] at hmk'
     obtain ⟨u,ar,h1,h2,h3⟩:=hmk'
     rw [h1]
     have hid : ¬ (hpAt r H k).length < H.length:=by have:=(wb (r:=r) (H:=H) (k:=k) (by omega)).1;omega
     have hnd' : ¬ made r H L (hpAt r H k).length:=by
      rintro ⟨j',s',q1,q2,q3,q4⟩;exact hk (zhc q1 q2 hs' (by rw [hnb];simp) q4 ▸ q3)
     have hnd : ¬ ((hpAt r H k).length < H.length∨made r H L (hpAt r H k).length):=fun hh=>hh.elim hid hnd'
     obtain ⟨Ev,S,hsh⟩:=h.sim.new (nx:=(hpAt r H k).length) hnd (w:={ M.w with heap:=M.w.heap.push (.cells ar e) }) rfl rfl ⟨rfl,fun _=>Nat.le_refl _⟩ rfl (fun j _ hj=>by simp at hj) h2
     have hmade : ∀ b,made r H (fun j=>L j∨j = k) b↔made r H L b∨b = (hpAt r H k).length:=fun b=>by
      constructor
      ·rintro ⟨j,s',q1,q2,q3 | q3,q4⟩
       ·exact .inl ⟨j,s',q1,q2,q3,q4⟩
       ·subst q3;exact .inr q4.symm
      ·rintro (⟨j,s',q1,q2,q3,q4⟩ | q)
       ·exact ⟨j,s',q1,q2,.inl q3,q4⟩
       ·exact ⟨k,s,hs',by rw [hnb];simp,.inr rfl,q.symm⟩
     refine hK _ (newM M _ _) j Ev (h.next hO ho hs' hk hd Ev (S.congr (fun b=>?_) (fun b=>?_)) (h3 _ (if_pos rfl) hsh) hcn hmk)
     ·unfold lookG
      by_cases hb : b = (hpAt r H k).length
      ·subst hb
       rw [if_pos (.inr ((hmade _).2 (.inr rfl))),if_pos rfl,ud _ _ fun w hw e=>?_]
       ·exact (qc hs' hnb).2
       ·have:=h.mkd w hw
        rw [e] at this
        exact hnd this
      ·rw [if_neg hb]
       by_cases hbD : b < H.length∨made r H L b
       ·rw [if_pos hbD,if_pos (hbD.imp id fun hh=>(hmade b).2 (.inl hh))]
       ·rw [if_neg hbD,if_neg fun hh=>hbD (hh.imp id fun q=>((hmade b).1 q).resolve_right hb)]
     ·rw [hmade,or_assoc]
   ·obtain ⟨dst,op,ty,pos,after,guard⟩:=o
    simp only at hoc hop hd
    subst hoc
    obtain ⟨us,vs,e1,r1,r2⟩:=hop f (by simp [Op.operands,Call.operands]) _ hf
    have r3:=w3 (M:=M) (ρ':=a.eval) _ _ (fun x hx t ht=>hop x (by simp [Op.operands,Call.operands];exact .inr (by simpa using hx)) t ht) hts
    have hrr : (execOp a.eval ⟨dst,.call ⟨.value f,args,ats⟩,ty,pos,after,guard⟩).run P M.w = .ok (.enter g (us ++ args.toList.map a.eval ++ vs).toArray) M.w:=by
     simp only [execOp,resolve,Sem.run_bind,e1,Deferred.ofValue,Sem.run_pure,Result.andThen_ok,invoke]
     rw [wp _ _ _ hcall.2.2.1,← ve]
     simp
    rw [hrr]
    refine ⟨fun hh=>(by cases hh),callsIn_wide.2 ((hcall.run X0 M _ h.sim.bnd h.sim.glo (RepL.append (RepL.append r1 r3) r2)).mono ?_)⟩
    rintro e w' ⟨u,rfl,k1,k2,k3⟩;exact hK _ _ j k1 (h.next hO ho hs' hk hd k1 ((h.sim.world k1 k3).congr (fun b=>xz hs' hnb b) fun b=>by rw [xf hs' hnb]) k2 hcn hmk)
theorem JdS.fin [Dr] {L : Nat→Prop} {a : Act} {M : Mp} {j : Nat} (hO : OrdB l m) (hF : RunF P tab im l m E H r hs ws Hm') (h : JdS n kb (l.take m) r ws E H X0 j L a M) (hL : ∀ k,k < (l.take m).length→L k) : St n kb (envAt (l.take m) r E (l.take m).length) (appW (ws.filterMap id) (hpAt r H (l.take m).length)) X0 a M:=by
 have hr:=hF.rl
 have hdis : ∀ (i j : Nat) (oi oj : Oper),(l.take m)[i]? = some oi→(l.take m)[j]? = some oj→i≠j→∀ d,oi.dst = some d→oj.dst≠some d:=fun i j oi oj hi hj hij d hdi=>(hO.pair j oj i oi hj hi hij d hdi).1
 have hmd : ∀ b,made r H L b↔¬ b < H.length∧b < (hpAt r H r.length).length:=fun b=>by
  constructor
  ·rintro ⟨k,s,q1,q2,-,q4⟩;have hk:=(List.getElem?_eq_some_iff.1 q1).1
   obtain ⟨cs,hcs⟩:=Option.ne_none_iff_exists'.1 q2
   have h1:=(qc (H:=H) q1 hcs).1
   have h2:=(wi (r:=r) (H:=H) (k + 1) r.length hk (Nat.le_refl _)).1
   have h3:=(wb (r:=r) (H:=H) (k:=k) (by omega)).1
   omega
  ·rintro ⟨h1,h2⟩;obtain ⟨j,s,q1,q2,q3,q4⟩:=za5 (Nat.le_refl _) h2 h1
   exact ⟨j,s,q2,q3,hL j (by omega),q4⟩
 have htk : (ws.filterMap id).take j = ws.filterMap id:=by
  refine List.take_of_length_le (Nat.le_of_not_lt fun hh=>?_)
  have e : (ws.filterMap id).length = cntW ws ws.length:=by unfold cntW;rw [List.take_length]
  rw [e] at hh
  obtain ⟨k',w,q1,q2,q3⟩:=th hh
  have:=(h.cnt k' w q2).1 (hL k' (by rw [← hF.wl];exact q1))
  omega
 refine ⟨fun d t ht=>?_,h.sz,h.df,h.ge,h.sim.congr (fun b=>?_) (fun b=>?_)⟩
 ·obtain ⟨g1,g2⟩:=t7 (E:=E) (d:=d) hr (Nat.le_refl _) hdis
  by_cases hw : ∃ j oj,j < (l.take m).length∧(l.take m)[j]? = some oj∧oj.dst = some d
  ·obtain ⟨j,oj,hj,hoj,hdj⟩:=hw
   have hs : r[j]? = some r[j]:=List.getElem?_eq_getElem (by omega)
   rw [g1 j oj _ hj hoj hs hdj] at ht
   injection ht with ht;subst ht
   exact h.slot j oj _ d hoj hs (hL j hj) hdj
  ·rw [g2 fun j oj hj hoj hdj=>hw ⟨j,oj,hj,hoj,hdj⟩] at ht
   exact h.old d t ht fun j oj hoj _ hdj=>hw ⟨j,oj,(List.getElem?_eq_some_iff.1 hoj).1,hoj,hdj⟩
 ·rw [← hr,htk]
  unfold lookG
  by_cases hb : b < H.length∨made r H L b
  ·rw [if_pos hb]
  ·rw [if_neg hb]
   refine Classical.byContradiction fun hne=>hb ?_;have hlt:=xa hne
   rw [s6] at hlt
   by_cases hbH : b < H.length
   ·exact .inl hbH
   ·exact .inr ((hmd b).2 ⟨hbH,hlt⟩)
 ·rw [← hr,s6,hmd]
  have:=(wb (r:=r) (H:=H) (k:=r.length) (Nat.le_refl _)).1
  omega
end
end

section
open Go.RowKit
section
variable {z : Bool} {P : Program} {tab : Tab} {n m kb lb : Nat} {l : List Oper} {E : Env} {H : Hp} {r : List Stp} {hs : List Hp} {ws : List (Option Wr)} {Hm' : Hp} {X0 : Nat→Prop} {M0 : Mp} {im : List Nat}
theorem zie [Dr] (hT : TabOk P tab) (hO : OrdB l m) (hch : chainB l m = true) (hd : dstB n l = true) (hF : RunF P tab im l m E H r hs ws Hm')
  {r0 : Option Nat} {Q : Exit→Act→World→Prop} (hQ : ∀ a M,Evo X0 M0 M→St n kb (envAt (l.take m) r E (l.take m).length) (appW (ws.filterMap id) (hpAt r H (l.take m).length)) X0 a M→wpListIn (FW r0) 0 P l.toArray Q (l.drop m) a M.w) :
  ∀ (fuel : Nat) (listed : Array Bool) (a : Act) (M : Mp) (j : Nat),leftB l listed≤fuel→listed.size = l.length→Closed l (lsd listed)→(∀ k,m≤k→¬ lsd listed k)→Evo X0 M0 M→JdS n kb (l.take m) r ws E H X0 j (lsd listed) a M→wpAnyIn (FW r0) 0 P .any l.toArray Q fuel listed a M.w:=by
 have hml : (l.take m).length = m:=by rw [List.length_take];have:=hO.le;omega
 intro fuel
 have fin : ∀ (fuel : Nat) (listed : Array Bool) (a : Act) (M : Mp) (j : Nat),leftB l listed≤fuel→listed.size = l.length→(∀ k,m≤k→¬ lsd listed k)→(∀ k,k < m→lsd listed k)→Evo X0 M0 M→JdS n kb (l.take m) r ws E H X0 j (lsd listed) a M→wpAnyIn (FW r0) 0 P .any l.toArray Q fuel listed a M.w:=by
  intro fuel listed a M j hf hsz hno hall hE hJ
  refine qk hO fuel listed m a M.w ?_ hsz (Nat.le_refl _) hO.le (fun k=>⟨fun h=>?_,hall k⟩) (hQ a M hE (hJ.fin hO hF fun k hk=>hall k (by omega)))
  ·have h1 : leftB l listed = l.length - m:=by
    unfold leftB
    have e : List.range l.length = List.range m ++ (List.range (l.length - m)).map (m + ·):=by
     rw [← List.range_add,show m + (l.length - m) = l.length from by have:=hO.le;omega]
    rw [e,List.countP_append]
    have e1 : (List.range m).countP (fun k=>!listed.getD k false) = 0:=by
     rw [List.countP_eq_zero]
     intro k hk
     have:=hall k (List.mem_range.1 hk)
     unfold lsd at this
     simpa using this
    have e2 : ((List.range (l.length - m)).map (m + ·)).countP (fun k=>!listed.getD k false) = l.length - m:=by
     rw [List.countP_eq_length.2]
     ·simp
     ·intro k hk
      rw [List.mem_map] at hk
      obtain ⟨q,-,rfl⟩:=hk
      have:=hno (m + q) (by omega)
      unfold lsd at this
      simpa using this
    omega
   omega
  ·exact Nat.lt_of_not_le fun hk=>hno k hk h
 induction fuel with
 | zero=>
  intro listed a M j hf hsz hc hno hE hJ
  by_cases hall : ∀ k,k < m→lsd listed k
  ·exact fin 0 listed a M j hf hsz hno hall hE hJ
  ·exfalso
   have h0 : leftB l listed = 0:=by omega
   unfold leftB at h0
   rw [List.countP_eq_zero] at h0
   apply hall
   intro k hk
   have:=h0 k (List.mem_range.2 (by have:=hO.le;omega))
   unfold lsd
   simpa using this
 | succ fuel ih=>
  intro listed a M j hf hsz hc hno hE hJ
  by_cases hall : ∀ k,k < m→lsd listed k
  ·exact fin _ listed a M j hf hsz hno hall hE hJ
  ·have hnext : ∃ i o,i < m∧l[i]? = some o∧¬ lsd listed i∧∀ e∈o.after,Region.binds .any e = true→lsd listed e.on:=by
    have hex : ∃ k,k < m∧¬ lsd listed k:=by
     apply Classical.byContradiction
     intro h
     exact hall fun k hk=>Classical.byContradiction fun hn=>h ⟨k,hk,hn⟩
    obtain ⟨i,⟨h1,h2⟩,hmin⟩:=ww hex
    have hile : i < l.length:=by have:=hO.le;omega
    have ho : l[i]? = some l[i]:=List.getElem?_eq_getElem hile
    refine ⟨i,_,h1,ho,h2,fun e he hb=>?_⟩
    have hlt:=uq l 0 i _ hO.back ho e he hb
    exact Classical.byContradiction fun hn=>by have:=hmin e.on ⟨by omega,hn⟩;omega
   refine ⟨fun hr0=>?_,fun i hi=>?_⟩
   ·obtain ⟨i,o,h1,h2,h3,h4⟩:=hnext
    have:=so hsz h2 h3 h4
    rw [hr0] at this;cases this
   ·obtain ⟨o,ho,hn,hp⟩:=wz hsz hi
    have hil:=(List.getElem?_eq_some_iff.1 ho).1
    have him : i < m:=by
     refine Nat.lt_of_not_le fun hmi=>?_
     apply hall
     intro k hk
     exact wa hO.back hc ho hp (hO.full i hmi hil k (by omega))
    have hop : (l.take m)[i]? = some o:=by rw [List.getElem?_take,if_pos him];exact ho
    have hdo : ∀ d,o.dst = some d→d < n:=fun d hdd=>by
     unfold dstB at hd
     rw [List.all_eq_true] at hd
     have:=hd o (List.mem_of_getElem? ho)
     rw [hdd] at this;simpa using this
    refine JdS.step hT hO hch hF hJ hc hop hn hp hdo fun a' M' j' hE' hJ'=>?_
    have hiff : ∀ k,lsd (listed.setIfInBounds i true) k↔lsd listed k∨k = i:=t5 (by omega)
    have hfun : lsd (listed.setIfInBounds i true) = fun k=>lsd listed k∨k = i:=funext fun k=>propext (hiff k)
    refine ih _ a' M' j' ?_ (by simpa using hsz) (fun k ok hok hk e he hb=>?_) (fun k hk h=>?_) (hE.trans hE') (by rw [hfun];exact hJ')
    ·have:=sx hsz hil hn;omega
    ·rw [hiff] at hk ⊢
     rcases hk with hk | rfl
     ·exact .inl (hc k ok hok hk e he hb)
     ·rw [ho] at hok;injection hok with hok;subst hok;exact .inl (hp e he hb)
    ·rcases (hiff k).1 h with h | h
     ·exact hno k hk h
     ·omega
theorem VC.drawS [Dr] {id : Nat} {QT : Exit → Env → Hp → Prop} (hT : TabOk P tab) (im : List Nat) (m : Nat) (hm : P.follows .mixedOrders = true) (hB : drawB n m l = true) (hch : chainB l m = true) {Hm : Hp} (hsn : seen Hm H)
    (h : ∃ r hs ws E' Hm' F', RunS P tab im l.toArray (l.take m) E Hm H r hs ws E' Hm' F' ∧ wOk Hm' (ws.filterMap (·)) F' ∧ vcSeq P tab im (l.map (·.dst)) (l.drop m) E' (appW (ws.filterMap (·)) F') (QT .normal)) : VC z P n lb (.region id l.toArray true) QT E H := by
  intro X0 M a r0 kb hz hs
  obtain ⟨hO, hd⟩ := zeb hB
  obtain ⟨r, hs', ws, E', Hm', F', hrun, hok, hk⟩ := h
  obtain ⟨h1, h2, h3, h4, h5, h6, -⟩ := runS_at hrun hsn
  have hF : RunF P tab im l m E H r hs' ws Hm' := ⟨h1, h2, h3, h6, by rw [h1, ← h5]; exact hok⟩
  refine wpIn_region_any hm ?_
  let M1 : Mp := ⟨M.β, M.X, { M.w with drawn := M.w.drawn + 1 }⟩
  have hE1 : Evo X0 M M1 := ⟨fun _ _ h => h, fun _ _ h => h, fun _ _ _ => rfl, fun _ _ h => h, rfl, ⟨rfl, fun _ => Nat.le_succ _⟩, rfl, Nat.le_refl _⟩
  have hs1 : St n kb E H X0 a M1 := ⟨fun d t ht => by obtain ⟨u, q1, q2⟩ := hs.tm d t ht; exact ⟨u, q1, Rep.stays hE1.stays _ _ q2⟩, hs.sz, hs.df.evo hE1, hs.ge, hs.sim.world hE1 fun _ _ => rfl⟩
  have hno : ∀ k, ¬ lsd (Array.replicate l.toArray.size false) k := fun k hk => by
    unfold lsd at hk
    by_cases hlt : k < l.length
    · simp [hlt] at hk
    · simp [hlt] at hk
  have hmd : ∀ b, ¬ made r H (lsd (Array.replicate l.toArray.size false)) b := fun b ⟨k, s, _, _, hk, _⟩ => hno k hk
  have := zie (r0 := r0) (X0 := X0) (M0 := M) (Q := Lift n kb lb X0 M QT) hT hO hch hd hF (fun a' M' hE' hs' => by
    rw [← h4, ← h5] at hs'
    refine ug (im := im) hT _ ?_ hs' (fun E2 H2 a2 M2 k1 k2 k3 => ⟨E2, H2, M2, k1, rfl, (hE'.trans k2).toK lb, k3⟩) hk
    unfold dstB at hd ⊢
    rw [List.all_eq_true] at hd ⊢
    exact fun o ho => hd o (List.mem_of_mem_drop ho)) l.toArray.size (Array.replicate l.toArray.size false) a M1 0 (Nat.le_trans List.countP_le_length (by simp)) (by simp) (fun k o _ hk => absurd hk (hno k)) (fun k _ => hno k) hE1
    ⟨hs1.sim.congr (fun b => by
        unfold lookG
        rw [List.take_zero]
        by_cases hb : b < H.length
        · rw [if_pos (.inl hb)]; exact (wb (Nat.le_refl _)).2 b hb
        · rw [if_neg fun hh => hh.elim hb (hmd b)]
          exact Classical.byContradiction fun hne => hb (xa fun e => hne (by rw [e]))) (fun b => ⟨fun h => h.elim (fun h => h) fun h => absurd h (hmd b), .inl⟩),
     fun k o s d _ _ hk => absurd hk (hno k), fun d t ht _ => hs1.tm d t ht, hs1.sz, hs1.df, hs1.ge, fun k w _ => ⟨fun hk => absurd hk (hno k), fun hh => by omega⟩, fun w hw => by rw [List.take_zero] at hw; cases hw⟩
  exact this
end
def VS [Dr] (P : Program) (tab : Tab) (im : List Nat) (ops : Array Oper) (l : List Oper) (E : Env) (Hm F : Hp) (W : List Wr) (K : Env→Hp→Prop) : Prop:=
 ∀ E2,Sub E E2→∃ r hs ws E' Hm' F',RunS P tab im ops l E2 Hm F r hs ws E' Hm' F'∧wOk Hm' (W ++ ws.filterMap (·)) F'∧∃ E1,Sub E1 E'∧K E1 (appW (W ++ ws.filterMap (·)) F')
section
variable {z : Bool} {P : Program} {tab : Tab} {n lb : Nat} {im : List Nat} {ops : Array Oper} {l : List Oper} {E : Env} {Hm F : Hp} {W : List Wr} {K : Env→Hp→Prop}
theorem qi [Dr] (hw : wOk Hm W F) (h : K E (appW W F)) : VS P tab im ops [] E Hm F W K:=fun E2 he=>
 ⟨[],[],[],E2,Hm,F,.nil _ _ _,by simpa using hw,E,he,by simpa using h⟩
theorem zas [Dr] {d : Nat} {op : Op} {ty : TypeId} {pos : String} {after : Array Edge} {t : T} {e : Nat} {cs : List T} (h : opM tab (lookH Hm) Hm.length E.opd op = some (t,some (e,cs))) (k : VS P tab im ops l ((d,t) :: E) (Hm ++ [.d]) (F ++ [.c cs]) W K) : VS P tab im ops (⟨some d,op,ty,pos,after,none⟩ :: l) E Hm F W K:=fun E2 he=>by
 obtain ⟨r,hs,ws,E',Hm',F',h1,h2,h3⟩:=k _ (he.put d t)
 exact ⟨⟨t,some cs⟩ :: r,Hm :: hs,none :: ws,E',Hm',F',.one (s:=⟨t,some cs⟩) (.inr ⟨.inl rfl,.inl ⟨t,some (e,cs),sv (fun x s hx=>he.opd hx) h,.inl ⟨rfl,rfl⟩⟩⟩) (.inr ⟨by simp,rfl⟩) h1,by simpa using h2,by simpa using h3⟩
theorem rf [Dr] {t : Nat} {a x : Operand} {ty : TypeId} {pos : String} {after : Array Edge} {b q : Nat} {tx : T} {i : TyI} (hT : tab t = some i) (ha : E.opd a = some (.ptr b q)) (hx : E.opd x = some tx) (hl : (flat tx).length = i.sz) (k : VS P tab im ops l E Hm F (W ++ [(b,q,flat tx)]) K) : VS P tab im ops (⟨none,.store t a x,ty,pos,after,none⟩ :: l) E Hm F W K:=fun E2 he=>by
 obtain ⟨r,hs,ws,E',Hm',F',h1,h2,h3⟩:=k _ he
 refine ⟨⟨.v undef,none⟩ :: r,Hm :: hs,some (b,q,flat tx) :: ws,E',Hm',F',.sto rfl rfl rfl hT (he.opd ha) (he.opd hx) hl h1,?_,?_⟩
 ·simpa using h2
 ·simpa using h3
theorem zgr [Dr] {P : Program} {tab : Tab} {im : List Nat} {ops : Array Oper} {l : List Oper} {E : Env} {H : Hp} {r : List Stp} {E' : Env} {H' : Hp} (h : Run P tab im ops l E H r E' H') : ∃ x,H' = H ++ x:=by
 induction h with
 | nil E H=>exact ⟨[],by simp⟩
 | cons h k ih=>obtain ⟨x,hx⟩:=ih;exact ⟨_,by rw [hx,List.append_assoc]⟩
theorem zjm [Dr] {l1 l2 : List Oper} {E1 : Env} {H1 : Hp} {r1 : List Stp} (h : Run P tab im ops l1 E Hm r1 E1 H1) : ∀ {F : Hp} {r : List Stp} {hs : List Hp} {ws : List (Option Wr)} {E' : Env} {Hm' F' : Hp},RunS P tab im ops l2 E1 H1 (F ++ H1.drop Hm.length) r hs ws E' Hm' F'→
  ∃ r' hs' ws',RunS P tab im ops (l1 ++ l2) E Hm F r' hs' ws' E' Hm' F'∧ws'.filterMap (·) = ws.filterMap (·):=by
 induction h with
 | nil E H=>intro F r hs ws E' Hm' F' k;rw [List.drop_length,List.append_nil] at k;exact ⟨r,hs,ws,k,rfl⟩
 | @cons o l E H s r1 E1 H1 h k ih=>
  intro F r hs ws E' Hm' F' k2
  obtain ⟨x,hx⟩:=zgr k
  have e : F ++ H1.drop H.length = (F ++ newsOf s.nb) ++ H1.drop (H ++ newsOf s.nb).length:=by
   subst hx
   rw [List.append_assoc,List.append_assoc,List.drop_left,← List.append_assoc H,List.drop_left]
  rw [e] at k2
  obtain ⟨r',hs',ws',g1,g2⟩:=ih k2
  exact ⟨_,_,_,.one h (.inl rfl) g1,by simpa using g2⟩
theorem u5 [Dr] {l1 l2 : List Oper} (hl : l = l1 ++ l2) (h : VX true P tab im (ops.toList.map (·.dst)) l1 E Hm fun E1 H1=>VS P tab im ops l2 E1 H1 (F ++ H1.drop Hm.length) W K) : VS P tab im ops l E Hm F W K:=fun E2 he=>by
 subst hl
 obtain ⟨r1,E1,H1,hr,E3,he3,hv⟩:=vo (ops:=ops) _ _ _ (h E2 he)
 obtain ⟨r,hs,ws,E',Hm',F',k1,k2,k3⟩:=hv _ he3
 obtain ⟨r',hs',ws',g1,g2⟩:=zjm hr k1
 exact ⟨r',hs',ws',E',Hm',F',g1,by rw [g2];exact k2,by rw [g2];exact k3⟩
end
section
variable {z : Bool} {P : Program} {tab : Tab} {n lb : Nat} {E : Env} {H : Hp} {QT : Exit→Env→Hp→Prop}
theorem ze8 [Dr] {id : Nat} {l l2 : List Oper} (hT : TabOk P tab) (im : List Nat) (l1 : List Oper) (Hm : Hp) (hl : l = l1 ++ l2) (hm : P.follows .mixedOrders = true) (hB : drawB n l1.length l = true) (hch : chainB l l1.length = true) (hsn : seen Hm H) (h : VS P tab im l.toArray l1 E Hm H [] fun E H=>VX false P tab im (l.map (·.dst)) l2 E H (QT .normal)) : VC z P n lb (.region id l.toArray true) QT E H:=by
 have e1 : l.take l1.length = l1:=by rw [hl,List.take_left]
 have e2 : l.drop l1.length = l2:=by rw [hl,List.drop_left]
 obtain ⟨r,hs,ws,E',Hm',F',h1,h2,E1,h3,h4⟩:=h E (Sub.refl E)
 refine zc3 (VC.drawS hT im l1.length hm hB hch hsn ⟨r,hs,ws,E',Hm',F',by rw [e1];exact h1,by simpa using h2,?_⟩)
 rw [e2]
 have:=h4 E' h3
 simpa using this
theorem sb [Dr] {id : Nat} {l l2 : List Oper} {c : Code} (hT : TabOk P tab) (im : List Nat) (l1 : List Oper) (Hm : Hp) (hl : l = l1 ++ l2) (hm : P.follows .mixedOrders = true) (hB : drawB n l1.length l = true) (hch : chainB l l1.length = true) (hsn : seen Hm H) (h : VS P tab im l.toArray l1 E Hm H [] fun E H=>VX false P tab im (l.map (·.dst)) l2 E H fun E H=>VC z P n lb c QT E H) : VC z P n lb (.seq (.region id l.toArray true) c) QT E H:=zn (ze8 hT im l1 Hm hl hm hB hch hsn h)
theorem vb (H : Hp) : seen H H:=⟨rfl,fun _ _=>rfl⟩
theorem sk {Hm H : Hp} {b : Nat} (h : seen Hm H) (hb : b < Hm.length) : seen (setH Hm b .d) H:=by
 refine ⟨by rw [xc];exact h.1,fun c hc=>?_⟩
 rw [x6 _ _ _ _ hb] at hc ⊢
 split at hc
 ·exact absurd rfl hc
 ·rename_i hcb;rw [if_neg hcb];exact h.2 c hc
end
end

section
open Go.RowKit
def seenL (Hm F : Hp) : Prop:=Hm.length≤F.length∧∀ b,blkH Hm b≠.d→blkH Hm b = blkH F b
def WrOp [Dr] (P : Program) (tab : Tab) (o : Oper) (E : Env) (F F1 : Hp) (t : T) : Prop:=
 (∃ f args ats g us vs ts,o.op = .call ⟨.value f,args,ats⟩∧E.opd f = some (.clo g us vs)∧optL E.opd args.toList = some ts∧CallT P g (us ++ ts ++ vs) F (fun u H'=>u = t∧H' = F1))∨
 (∃ x y t1 t2 ta tb,o.op = .call ⟨.builtin .append,#[x,y],#[t1,t2]⟩∧E.opd x = some ta∧E.opd y = some tb∧mAppend tab F t1 t2 ta tb = some (t,F1))∨
 (∃ p : Nat × List T,opM tab (lookH F) F.length E.opd o.op = some (t,some p)∧F1 = F ++ [.c p.2])∨
 (∃ t0 a x ta tx,o.op = .store t0 a x∧E.opd a = some ta∧E.opd x = some tx∧mStore tab F t0 ta tx = some F1∧t = .v undef)
def LkOp [Dr] (P : Program) (o : Oper) (E : Env) (Hm : Hp) (t : T) : Prop:=
 ∃ f args ats g us vs ts,o.op = .call ⟨.value f,args,ats⟩∧E.opd f = some (.clo g us vs)∧optL E.opd args.toList = some ts∧∀ G,seenL Hm G→CallT P g (us ++ ts ++ vs) G (fun u H'=>u = t∧H' = G)
inductive RunC [Dr] (P : Program) (tab : Tab) (im : List Nat) (ops : Array Oper) (Hm : Hp) : List Oper→Env→Hp→List Stp→List Hp→List Bool→Env→Hp→Prop
 | nil (E : Env) (F : Hp) : RunC P tab im ops Hm [] E F [] [] [] E F
 | one {o : Oper} {l : List Oper} {E : Env} {F : Hp} {s : Stp} {r : List Stp} {fs : List Hp} {ws : List Bool} {E' : Env} {F' : Hp} (h : StpOk P tab im ops o E Hm s) (hn : s.nb = none)
   (k : RunC P tab im ops Hm l (E.put o.dst s.t) F r fs ws E' F') : RunC P tab im ops Hm (o :: l) E F (s :: r) fs (false :: ws) E' F'
 | look {o : Oper} {l : List Oper} {E : Env} {F : Hp} {t : T} {r : List Stp} {fs : List Hp} {ws : List Bool} {E' : Env} {F' : Hp} (hg : o.guard = none) (ho : LkOp P o E Hm t)
   (k : RunC P tab im ops Hm l (E.put o.dst t) F r fs ws E' F') : RunC P tab im ops Hm (o :: l) E F (⟨t,none⟩ :: r) fs (false :: ws) E' F'
 | call {o : Oper} {l : List Oper} {E : Env} {F F1 : Hp} {t : T} {r : List Stp} {fs : List Hp} {ws : List Bool} {E' : Env} {F' : Hp} (hg : o.guard = none) (ho : WrOp P tab o E F F1 t)
   (hs : seenL Hm F1) (k : RunC P tab im ops Hm l (E.put o.dst t) F1 r fs ws E' F') : RunC P tab im ops Hm (o :: l) E F (⟨t,none⟩ :: r) (F1 :: fs) (true :: ws) E' F'
def cntB (ws : List Bool) (k : Nat) : Nat:=(ws.take k).countP (fun x=>x)
def StpC [Dr] (P : Program) (tab : Tab) (im : List Nat) (ops : Array Oper) (Hm : Hp) (o : Oper) (E : Env) (F F1 : Hp) (s : Stp) : Bool→Prop
 | false=>StpOk P tab im ops o E Hm s∨(o.guard = none∧LkOp P o E Hm s.t)
 | true=>o.guard = none∧WrOp P tab o E F F1 s.t
theorem runC_at [Dr] {P : Program} {tab : Tab} {im : List Nat} {ops : Array Oper} {Hm : Hp} {l : List Oper} {E : Env} {F : Hp} {r : List Stp} {fs : List Hp} {ws : List Bool} {E' : Env} {F' : Hp} (h : RunC P tab im ops Hm l E F r fs ws E' F') (hsn : seenL Hm F) :
  r.length = l.length∧ws.length = l.length∧fs.length = cntB ws ws.length∧E' = envAt l r E l.length∧(∀ (j : Nat) (G : Hp),(F :: fs)[j]? = some G→seenL Hm G)∧(F :: fs)[fs.length]? = some F'∧(∀ s∈r,s.nb = none)∧
   ∀ (k : Nat) (o : Oper) (s : Stp) (w : Bool),l[k]? = some o→r[k]? = some s→ws[k]? = some w→∃ G G1 : Hp,(F :: fs)[cntB ws k]? = some G∧(w = true→(F :: fs)[cntB ws k + 1]? = some G1)∧StpC P tab im ops Hm o (envAt l r E k) G G1 s w:=by
 induction h with
 | nil E F=>exact ⟨rfl,rfl,rfl,rfl,fun j G hj=>by cases j with | zero=>simp at hj;subst hj;exact hsn | succ j=>simp at hj,rfl,by simp,fun k o s w h=>by simp at h⟩
 | @one o l E F s r fs ws E' F' h hn k ih=>
  obtain ⟨h1,h2,h3,h4,h5,h6,h7,h8⟩:=ih hsn
  have hc : ∀ k,cntB (false :: ws) (k + 1) = cntB ws k:=fun k=>by simp [cntB]
  refine ⟨by simp [h1],by simp [h2],by rw [List.length_cons,hc];exact h3,h4,h5,h6,fun s' hs'=>?_,fun j o' s' w ho hs' hw=>?_⟩
  ·rcases List.mem_cons.1 hs' with rfl | hs'
   ·exact hn
   ·exact h7 s' hs'
  ·cases j with
   | zero=>simp at ho hs' hw;subst ho hs' hw;exact ⟨F,F,by simp [cntB],fun hh=>(by cases hh),.inl h⟩
   | succ j=>
    obtain ⟨G,G1,g1,g2,g3⟩:=h8 j o' s' w (by simpa using ho) (by simpa using hs') (by simpa using hw)
    exact ⟨G,G1,by rw [hc];exact g1,by rw [hc];exact g2,g3⟩
 | @look o l E F t r fs ws E' F' hg ho k ih=>
  obtain ⟨h1,h2,h3,h4,h5,h6,h7,h8⟩:=ih hsn
  have hc : ∀ k,cntB (false :: ws) (k + 1) = cntB ws k:=fun k=>by simp [cntB]
  refine ⟨by simp [h1],by simp [h2],by rw [List.length_cons,hc];exact h3,h4,h5,h6,fun s' hs'=>?_,fun j o' s' w ho hs' hw=>?_⟩
  ·rcases List.mem_cons.1 hs' with rfl | hs'
   ·rfl
   ·exact h7 s' hs'
  ·cases j with
   | zero=>simp at ho hs' hw;subst ho hs' hw;exact ⟨F,F,by simp [cntB],fun hh=>(by cases hh),.inr ⟨hg,ho⟩⟩
   | succ j=>
    obtain ⟨G,G1,g1,g2,g3⟩:=h8 j o' s' w (by simpa using ho) (by simpa using hs') (by simpa using hw)
    exact ⟨G,G1,by rw [hc];exact g1,by rw [hc];exact g2,g3⟩
 | @call o l E F F1 t r fs ws E' F' hg ho hs k ih=>
  obtain ⟨h1,h2,h3,h4,h5,h6,h7,h8⟩:=ih hs
  have hc : ∀ k,cntB (true :: ws) (k + 1) = cntB ws k + 1:=fun k=>by simp [cntB]
  refine ⟨by simp [h1],by simp [h2],by rw [List.length_cons,List.length_cons,hc];omega,h4,fun j G hj=>?_,by simpa using h6,fun s' hs'=>?_,fun j o' s' w ho' hs' hw=>?_⟩
  ·cases j with
   | zero=>simp at hj;subst hj;exact hsn
   | succ j=>exact h5 j G (by simpa using hj)
  ·rcases List.mem_cons.1 hs' with rfl | hs'
   ·rfl
   ·exact h7 s' hs'
  ·cases j with
   | zero=>simp at ho' hs' hw;subst ho' hs' hw;exact ⟨F,F1,by simp [cntB],fun _=>by simp [cntB],hg,ho⟩
   | succ j=>
    obtain ⟨G,G1,g1,g2,g3⟩:=h8 j o' s' w (by simpa using ho') (by simpa using hs') (by simpa using hw)
    refine ⟨G,G1,by rw [hc];simpa using g1,fun hh=>by rw [hc];simpa using g2 hh,?_⟩
    exact g3
section
variable {z : Bool} {P : Program} {tab : Tab} {n m kb lb : Nat} {l : List Oper} {E : Env} {Hm : Hp} {Fs : List Hp} {r : List Stp} {ws : List Bool} {X0 : Nat→Prop} {M0 : Mp} {im : List Nat}
structure JdC [Dr] (n kb : Nat) (pre : List Oper) (r : List Stp) (Fs : List Hp) (ws : List Bool) (E : Env) (X0 : Nat→Prop) (j : Nat) (L : Nat→Prop) (a : Act) (M : Mp) : Prop where
 sim : ∃ G,Fs[j]? = some G∧SimH G X0 M
 slot : ∀ k o s d,pre[k]? = some o→r[k]? = some s→L k→o.dst = some d→∃ u,a.tmps[d]? = some u∧Rep M s.t u
 old : ∀ d t,E.get d = some t→(∀ k o,pre[k]? = some o→L k→o.dst≠some d)→∃ u,a.tmps[d]? = some u∧Rep M t u
 sz : a.tmps.size = n
 df : Marks kb a.defers M
 ge : kb≤M.w.heap.size
 cnt : ∀ k,ws[k]? = some true→(L k↔cntB ws k < j)
structure RunCF [Dr] (P : Program) (tab : Tab) (im : List Nat) (l : List Oper) (m : Nat) (E : Env) (Hm : Hp) (r : List Stp) (Fs : List Hp) (ws : List Bool) : Prop where
 rl : r.length = (l.take m).length
 wl : ws.length = (l.take m).length
 nb : ∀ s∈r,s.nb = none
 sn : ∀ (j : Nat) (G : Hp),Fs[j]? = some G→seenL Hm G
 st : ∀ (k : Nat) (o : Oper) (s : Stp) (w : Bool),(l.take m)[k]? = some o→r[k]? = some s→ws[k]? = some w→∃ G G1 : Hp,Fs[cntB ws k]? = some G∧(w = true→Fs[cntB ws k + 1]? = some G1)∧StpC P tab im l.toArray Hm o (envAt (l.take m) r E k) G G1 s w
 /-- calls keep the text's order -/
 ch : ∀ k j,k < m→j < k→ws[k]? = some true→ws[j]? = some true→((masks l []).getD k 0).testBit j = true
theorem zbl {ws : List Bool} {j : Nat} : ∀ {k : Nat},j < cntB ws k→∃ k',k' < k∧ws[k']? = some true∧cntB ws k' = j
 | 0,h=>by simp [cntB] at h
 | k + 1,h=>by
  by_cases hk : j < cntB ws k
  ·obtain ⟨k',h1,h2⟩:=zbl hk
   exact ⟨k',by omega,h2⟩
  ·cases hw : ws[k]? with
   | none=>
    have hl:=List.getElem?_eq_none_iff.1 hw
    unfold cntB at h hk
    rw [List.take_of_length_le (by omega)] at h hk
    omega
   | some x=>
    have e : ws.take (k + 1) = ws.take k ++ [x]:=by rw [List.take_add_one,hw];rfl
    unfold cntB at h hk
    rw [e,List.countP_append] at h
    cases x with
    | false=>simp at h;omega
    | true=>
     simp at h
     exact ⟨k,Nat.lt_succ_self _,hw,by unfold cntB;omega⟩
theorem zct {ws : List Bool} {k k' : Nat} (h : k < k') (hw : ws[k]? = some true) : cntB ws k < cntB ws k':=by
 have e1 : cntB ws (k + 1) = cntB ws k + 1:=by
  unfold cntB
  rw [List.take_add_one,hw,List.countP_append];simp
 have e2 : cntB ws (k + 1)≤cntB ws k':=by
  unfold cntB
  exact (List.take_sublist_take_left (by omega)).countP_le
 omega
theorem JdC.read [Dr] {L : Nat→Prop} {a : Act} {M : Mp} {j0 : Nat} (hO : OrdB l m) (hr : r.length = (l.take m).length) (h : JdC n kb (l.take m) r Fs ws E X0 j0 L a M) (hc : Closed l L) {k : Nat} {o : Oper} (ho : (l.take m)[k]? = some o) (hk : ¬ L k) (hpre : ∀ e∈o.after,Region.binds .any e = true→L e.on)
  {d : Nat} {t : T} (hd : d∈readsOf l.toArray o) (ht : (envAt (l.take m) r E k).get d = some t) : ∃ u,a.tmps[d]? = some u∧Rep M t u:=by
 have hkl : k < (l.take m).length:=(List.getElem?_eq_some_iff.1 ho).1
 have hol : l[k]? = some o:=by rw [List.getElem?_take] at ho;split at ho;exact ho;cases ho
 have hdis : ∀ (i j : Nat) (oi oj : Oper),(l.take m)[i]? = some oi→(l.take m)[j]? = some oj→i≠j→∀ d,oi.dst = some d→oj.dst≠some d:=fun i j oi oj hi hj hij d hdi=>(hO.pair j oj i oi hj hi hij d hdi).1
 obtain ⟨g1,g2⟩:=t7 (E:=E) (d:=d) hr (Nat.le_of_lt hkl) hdis
 by_cases hw : ∃ j oj,j < k∧(l.take m)[j]? = some oj∧oj.dst = some d
 ·obtain ⟨j,oj,hj,hoj,hdj⟩:=hw
  have hs : r[j]? = some r[j]:=List.getElem?_eq_getElem (by omega)
  rw [g1 j oj _ hj hoj hs hdj] at ht
  injection ht with ht;subst ht
  have hm:=(hO.pair k o j oj ho hoj (by omega) d hdj).2 hd
  rw [if_pos hj] at hm
  exact h.slot j oj _ d hoj hs (wa hO.back hc hol hpre hm) hdj
 ·rw [g2 fun j oj hj hoj hdj=>hw ⟨j,oj,hj,hoj,hdj⟩] at ht
  refine h.old d t ht fun j oj hoj hLj hdj=>?_
  by_cases hjk : j = k
  ·subst hjk;exact hk hLj
  ·have hm:=(hO.pair k o j oj ho hoj hjk d hdj).2 hd
   by_cases hlt : j < k
   ·exact hw ⟨j,oj,hlt,hoj,hdj⟩
   ·rw [if_neg hlt] at hm
    exact hk (vr hO.back hc j hLj k hm)
theorem JdC.next [Dr] {L : Nat→Prop} {a : Act} {M M' : Mp} {j j' : Nat} (hO : OrdB l m) (h : JdC n kb (l.take m) r Fs ws E X0 j L a M) {k : Nat} {o : Oper} {s : Stp} {u : Value} (ho : (l.take m)[k]? = some o) (hs : r[k]? = some s) (hk : ¬ L k) (hd : ∀ d,o.dst = some d→d < n)
  (hE : Evo X0 M M') (hS : ∃ G,Fs[j']? = some G∧SimH G X0 M') (hr : Rep M' s.t u)
  (hcnt : ∀ k',ws[k']? = some true→((L k'∨k' = k)↔cntB ws k' < j')) : JdC n kb (l.take m) r Fs ws E X0 j' (fun i=>L i∨i = k) (a.put o.dst u) M':=by
 have keep : ∀ d v,o.dst≠some d→a.tmps[d]? = some v→(a.put o.dst u).tmps[d]? = some v:=fun d v hne hv=>by
  cases hod : o.dst with
  | none=>exact hv
  | some d'=>simp only [Act.put];rw [Array.getElem?_setIfInBounds_ne (fun e=>hne (by rw [hod,e]))];exact hv
 refine ⟨hS,fun j oj sj d hoj hsj hL hdj=>?_,fun d t ht hno=>?_,?_,?_,Nat.le_trans h.ge hE.size,hcnt⟩
 ·by_cases hjk : j = k
  ·subst hjk
   rw [ho] at hoj;rw [hs] at hsj
   injection hoj with hoj;injection hsj with hsj;subst hoj hsj
   refine ⟨u,?_,hr⟩
   rw [hdj]
   simp [Act.put,h.sz,hd d hdj]
  ·obtain ⟨v,h1,h2⟩:=h.slot j oj sj d hoj hsj (hL.resolve_right hjk) hdj
   exact ⟨v,keep d v (hO.pair k o j oj ho hoj hjk d hdj).1 h1,Rep.stays hE.stays _ _ h2⟩
 ·obtain ⟨v,h1,h2⟩:=h.old d t ht fun j oj hoj hL=>hno j oj hoj (.inl hL)
  exact ⟨v,keep d v (hno k o ho (.inr rfl)) h1,Rep.stays hE.stays _ _ h2⟩
 ·cases o.dst <;> simp [Act.put,h.sz]
 ·cases o.dst <;> exact h.df.evo hE
theorem JdC.step [Dr] (hT : TabOk P tab) (hO : OrdB l m) (hF : RunCF P tab im l m E Hm r Fs ws)
  {L : Nat→Prop} {a : Act} {M : Mp} {j : Nat} (h : JdC n kb (l.take m) r Fs ws E X0 j L a M) (hc : Closed l L) {k : Nat} {o : Oper} (ho : (l.take m)[k]? = some o) (hk : ¬ L k) (hpre : ∀ e∈o.after,Region.binds .any e = true→L e.on) (hd : ∀ d,o.dst = some d→d < n)
  {r0 : Option Nat} {Q : Exit→Act→World→Prop} {K : Act→World→Prop} (hK : ∀ a' M' j',Evo X0 M M'→JdC n kb (l.take m) r Fs ws E X0 j' (fun i=>L i∨i = k) a' M'→K a' M'.w) : wpOpIn (FW r0) 0 P l.toArray Q k K a M.w:=by
 have hr:=hF.rl
 have hkl : k < (l.take m).length:=(List.getElem?_eq_some_iff.1 ho).1
 have hol : l[k]? = some o:=by rw [List.getElem?_take] at ho;split at ho;exact ho;cases ho
 have hkm : k < m:=by rw [List.length_take] at hkl;omega
 obtain ⟨s,hs'⟩ : ∃ x,r[k]? = some x:=⟨_,List.getElem?_eq_getElem (by omega)⟩
 obtain ⟨w,hw'⟩ : ∃ x,ws[k]? = some x:=⟨_,List.getElem?_eq_getElem (by rw [hF.wl];omega)⟩
 obtain ⟨G,G1,hG,hG1,hstp⟩:=hF.st k o s w ho hs' hw'
 have hnb:=hF.nb s (List.mem_of_getElem? hs')
 have hrd:=fun (d : Nat) (t : T)=>h.read hO hr hc ho hk hpre (d:=d) (t:=t)
 have hop : ∀ x∈o.op.operands.toList,∀ t,(envAt (l.take m) r E k).opd x = some t→Rep M t (a.eval x):=by
  intro x hx t ht
  cases x with
  | tmp d=>
   obtain ⟨u,h1,h2⟩:=hrd d t (by simp only [readsOf,Oper.looksAt,List.mem_append,List.mem_filterMap];exact .inl ⟨.tmp d,hx,rfl⟩) ht
   have : a.eval (.tmp d) = u:=by show a.tmps.getD d undef = u;simp [h1]
   rw [this];exact h2
  | const v=>simp only [Env.opd] at ht;injection ht with ht;subst ht;exact qy v
  | func f=>simp only [Env.opd] at ht;injection ht with ht;subst ht;exact ⟨[],[],rfl,rfl,rfl⟩
  | global g=>simp only [Env.opd] at ht;injection ht with ht;subst ht;exact rfl
 unfold wpOpIn
 simp only [List.getElem?_toArray,hol]
 cases w with
 | true=>
  obtain ⟨hg,hwr⟩:=hstp
  have hw : Region.wanted o (yielded l.toArray a.tmps) = true:=by simp [Region.wanted,hg]
  rw [hw,if_pos rfl]
  have hij : cntB ws k = j:=by
   have h1 : ¬ cntB ws k < j:=fun hh=>hk ((h.cnt k hw').2 hh)
   refine Nat.le_antisymm (Nat.le_of_not_lt fun hh=>?_) (by omega)
   obtain ⟨k',q1,q2,q3⟩:=zbl hh
   have hL:=wa hO.back hc hol hpre (hF.ch k k' hkm q1 hw' q2)
   have:=(h.cnt k' q2).1 hL
   omega
  obtain ⟨G',hG',hS⟩:=h.sim
  rw [hij] at hG
  rw [hG] at hG';injection hG' with hG';subst hG'
  have hg1:=hG1 rfl
  rw [hij] at hg1
  have hcn2 : ∀ k',ws[k']? = some true→((L k'∨k' = k)↔cntB ws k' < j + 1):=fun k2' hw2=>by
   rw [h.cnt k2' hw2]
   constructor
   ·rintro (q1 | rfl) <;> omega
   ·intro hh
    by_cases h2 : cntB ws k2' < j
    ·exact .inl h2
    ·refine .inr ?_;rcases Nat.lt_trichotomy k2' k with q1 | q1 | q1
     ·have:=zct q1 hw2;omega
     ·exact q1
     ·have:=zct q1 hw';omega
  rcases hwr with ⟨f,args,ats,g,us',vs',ts,hoc,hf,hts,hgo,hcall⟩ | ⟨x,y,t1,t2,ta,tb,hoc,hx,hy,happ⟩ | ⟨p,hm,rfl⟩ | ⟨t0,x,y,ta,tx,hoc,hx,hy,hst,hun⟩
  ·have hnd : ∀ c,o.op≠.defer c:=by rw [hoc];simp
   refine xx hnd ?_;obtain ⟨dst,op,ty,pos,after,guard⟩:=o
   simp only at hoc hop hd
   subst hoc
   obtain ⟨us,vs,e1,r1,r2⟩:=hop f (by simp [Op.operands,Call.operands]) _ hf
   have r3:=w3 (M:=M) (ρ':=a.eval) _ _ (fun x hx t ht=>hop x (by simp [Op.operands,Call.operands];exact .inr (by simpa using hx)) t ht) hts
   have hrr : (execOp a.eval ⟨dst,.call ⟨.value f,args,ats⟩,ty,pos,after,guard⟩).run P M.w = .ok (.enter g (us ++ args.toList.map a.eval ++ vs).toArray) M.w:=by
    simp only [execOp,resolve,Sem.run_bind,e1,Deferred.ofValue,Sem.run_pure,Result.andThen_ok,invoke]
    rw [wp _ _ _ hgo,← ve]
    simp
   rw [hrr]
   refine ⟨fun hh=>(by cases hh),callsIn_wide.2 ((hcall X0 M _ hS (RepL.append (RepL.append r1 r3) r2)).mono ?_)⟩
   rintro e w' ⟨u,t,H',M',rfl,rfl,⟨rfl,rfl⟩,k2,k3,k4⟩;exact hK _ M' (j + 1) k2 (h.next hO ho hs' hk hd k2 ⟨_,hg1,k3⟩ k4 hcn2)
  ·have hnd : ∀ c,o.op≠.defer c:=by rw [hoc];simp
   refine xx hnd ?_;obtain ⟨dst,op,ty,pos,after,guard⟩:=o
   simp only at hoc hop hd
   subst hoc
   have r1:=hop x (by simp [Op.operands,Call.operands]) _ hx
   have r2:=hop y (by simp [Op.operands,Call.operands]) _ hy
   obtain ⟨u,M',k1,k2,k3,k4⟩:=zak (ty:=ty) hT hS r1 r2 happ
   have hrr : (execOp a.eval ⟨dst,.call ⟨.builtin .append,#[x,y],#[t1,t2]⟩,ty,pos,after,guard⟩).run P M.w = .ok (.value u) M'.w:=by simp [execOp,resolve,invoke,builtin,k1]
   rw [hrr]
   exact hK _ M' (j + 1) k2 (h.next hO ho hs' hk hd k2 ⟨_,hg1,k3⟩ k4 hcn2)
  ·have hnd : ∀ c,o.op≠.defer c:=zaf hm
   refine xx hnd ?_;have hmk:=zag (M:=M) (ρ':=a.eval) hT hS.look hop hm
   obtain ⟨e,cs⟩:=p
   obtain ⟨u,a',h1,h2,h3⟩:=hmk
   rw [h1]
   obtain ⟨Ev,S,hsh⟩:=hS.new (nx:=G.length) (fun hh=>Nat.lt_irrefl _ hh) (w:={ M.w with heap:=M.w.heap.push (.cells a' e) }) rfl rfl ⟨rfl,fun _=>Nat.le_refl _⟩ rfl (fun j _ hj=>by simp at hj) h2
   exact hK _ (newM M G.length _) (j + 1) Ev (h.next hO ho hs' hk hd Ev ⟨_,hg1,SimH.push S⟩ (h3 _ (if_pos rfl) hsh) hcn2)
  ·have hnd : ∀ c,o.op≠.defer c:=by rw [hoc];simp
   refine xx hnd ?_;obtain ⟨dst,op,ty,pos,after,guard⟩:=o
   simp only at hoc hop hd
   subst hoc
   have r1:=hop x (by simp [Op.operands]) _ hx
   have r2:=hop y (by simp [Op.operands]) _ hy
   obtain ⟨M',k1,k2,k3⟩:=zcc hT hS r1 r2 hst
   have hrr : (execOp a.eval ⟨dst,.store t0 x y,ty,pos,after,guard⟩).run P M.w = .ok .skip M'.w:=by simp [execOp,k1]
   rw [hrr]
   exact hK _ M' (j + 1) k2 (h.next hO ho hs' hk hd k2 ⟨_,hg1,k3⟩ (u:=undef) (by rw [hun];rfl) hcn2)
 | false=>
  have hcn : ∀ k',ws[k']? = some true→((L k'∨k' = k)↔cntB ws k' < j):=fun k' hwk=>by
   rw [← h.cnt k' hwk]
   exact ⟨fun hh=>hh.resolve_right (fun e=>by subst e;rw [hw'] at hwk;injection hwk with hwk;cases hwk),Or.inl⟩
  obtain ⟨G',hG',hS⟩:=h.sim
  have hsn:=hF.sn j G' hG'
  have hlook : LookAt M (lookH Hm):=by
   intro b B O cells hb hcc
   refine Sim.look hS b B O cells hb ?_;rw [y9] at hcc
   rw [vp,← hsn.2 b (by rw [hcc];simp)];exact hcc
  have hgd : ∀ g want d b,o.guard = some (g,want)→(l.toArray[g]?).bind (·.dst) = some d→(envAt (l.take m) r E k).get d = some (.v (.bool b))→yielded l.toArray a.tmps g = some b:=by
   intro g want d b hg hgd hb
   have hgd' : (l[g]?.bind fun x=>x.dst) = some d:=by simpa using hgd
   obtain ⟨u,h1,h2⟩:=hrd d _ (by simp [readsOf,Oper.looksAt,hg];exact .inr hgd') hb
   obtain rfl:=h2
   simp [yielded,hgd',h1]
  rcases hstp with (⟨h1,h2,g,want,d,x,hg,hgdst,hb,hne⟩ | ⟨hg,hst⟩) | ⟨hg,f,args,ats,g,us',vs',ts,hoc,hf,hts,hcall⟩
  ·have hw : Region.wanted o (yielded l.toArray a.tmps) = false:=by
    have hgd' : (l[g]?.bind fun x=>x.dst) = some d:=by simpa using hgdst
    obtain ⟨u,q1,q2⟩:=hrd d _ (by simp [readsOf,Oper.looksAt,hg];exact .inr hgd') hb
    obtain rfl:=q2
    have hy : yielded l.toArray a.tmps g = match u with | .bool b=>some b | _=>none:=by simp only [yielded,List.getElem?_toArray,hgd',Option.bind_some,q1];cases u <;> rfl
    simp only [Region.wanted,hg,hy]
    cases u <;> first | rfl | skip
    rename_i b
    cases b <;> cases want <;> first | rfl | exact absurd rfl hne
   rw [hw]
   exact ⟨fun _ _=>trivial,hK _ M j (Evo.refl _ _) (h.next hO ho hs' hk hd (Evo.refl _ _) ⟨G',hG',hS⟩ (by rw [h1];rfl) hcn)⟩
  ·have hw : Region.wanted o (yielded l.toArray a.tmps) = true:=by
    rcases hg with hg | ⟨g,want,d,hg,hgdst,hb⟩
    ·simp [Region.wanted,hg]
    ·have hy:=hgd g want d want hg hgdst hb
     simp [Region.wanted,hg,hy]
   rw [hw,if_pos rfl]
   have hnd : ∀ c,o.op≠.defer c:=by
    rcases hst with ⟨t,nb,hm,-⟩ | ⟨f,args,ats,g,fs,cs,ts,hoc,-⟩
    ·exact zaf hm
    ·rw [hoc];simp
   refine xx hnd ?_;rcases hst with ⟨t,nb,hm,hst⟩ | ⟨f,args,ats,g,fs,cs,ts,hoc,hf,hts,hcall,-⟩
   ·have hmk':=zag (M:=M) (ρ':=a.eval) hT hlook hop hm
    rcases hst with ⟨hst,hnb'⟩ | ⟨⟨e,cs⟩,rfl,hst,-⟩
    case inr=>
     obtain ⟨u,w',q1,q2,q3,q4⟩:=pn hS hmk' (pf hm)
     rw [q1]
     exact hK _ _ j q2 (h.next hO ho hs' hk hd q2 ⟨G',hG',hS.world q2 q3⟩ (by rw [hst];exact q4) hcn)
    subst hst
    cases nb with
    | none=>
     obtain ⟨u,h1,h2⟩:=hmk'
     rw [h1]
     exact hK _ M j (Evo.refl _ _) (h.next hO ho hs' hk hd (Evo.refl _ _) ⟨G',hG',hS⟩ h2 hcn)
    | some p=>rw [hnb'] at hnb;cases hnb
   ·obtain ⟨dst,op,ty,pos,after,guard⟩:=o
    simp only at hoc hop hd
    subst hoc
    obtain ⟨us,vs,e1,r1,r2⟩:=hop f (by simp [Op.operands,Call.operands]) _ hf
    have r3:=w3 (M:=M) (ρ':=a.eval) _ _ (fun x hx t ht=>hop x (by simp [Op.operands,Call.operands];exact .inr (by simpa using hx)) t ht) hts
    have hrr : (execOp a.eval ⟨dst,.call ⟨.value f,args,ats⟩,ty,pos,after,guard⟩).run P M.w = .ok (.enter g (us ++ args.toList.map a.eval ++ vs).toArray) M.w:=by
     simp only [execOp,resolve,Sem.run_bind,e1,Deferred.ofValue,Sem.run_pure,Result.andThen_ok,invoke]
     rw [wp _ _ _ hcall.2.2.1,← ve]
     simp
    rw [hrr]
    refine ⟨fun hh=>(by cases hh),callsIn_wide.2 ((hcall.run X0 M _ hS.bnd hS.glo (RepL.append (RepL.append r1 r3) r2)).mono ?_)⟩
    rintro e w' ⟨u,rfl,k1,k2,k3⟩;exact hK _ _ j k1 (h.next hO ho hs' hk hd k1 ⟨G',hG',hS.world k1 k3⟩ k2 hcn)
  ·have hw : Region.wanted o (yielded l.toArray a.tmps) = true:=by simp [Region.wanted,hg]
   rw [hw,if_pos rfl]
   have hnd : ∀ c,o.op≠.defer c:=by rw [hoc];simp
   refine xx hnd ?_;obtain ⟨dst,op,ty,pos,after,guard⟩:=o
   simp only at hoc hop hd
   subst hoc
   obtain ⟨us,vs,e1,r1,r2⟩:=hop f (by simp [Op.operands,Call.operands]) _ hf
   have r3:=w3 (M:=M) (ρ':=a.eval) _ _ (fun x hx t ht=>hop x (by simp [Op.operands,Call.operands];exact .inr (by simpa using hx)) t ht) hts
   have hcl:=hcall G' hsn
   have hrr : (execOp a.eval ⟨dst,.call ⟨.value f,args,ats⟩,ty,pos,after,guard⟩).run P M.w = .ok (.enter g (us ++ args.toList.map a.eval ++ vs).toArray) M.w:=by
    simp only [execOp,resolve,Sem.run_bind,e1,Deferred.ofValue,Sem.run_pure,Result.andThen_ok,invoke]
    rw [wp _ _ _ hcl.1,← ve]
    simp
   rw [hrr]
   refine ⟨fun hh=>(by cases hh),callsIn_wide.2 ((hcl.2 X0 M _ hS (RepL.append (RepL.append r1 r3) r2)).mono ?_)⟩
   rintro e w' ⟨u,t,H',M',rfl,rfl,⟨rfl,rfl⟩,k2,k3,k4⟩;exact hK _ M' j k2 (h.next hO ho hs' hk hd k2 ⟨_,hG',k3⟩ k4 hcn)
end
end

section
open Go.RowKit
section
variable {z : Bool} {P : Program} {tab : Tab} {n m kb lb : Nat} {l : List Oper} {E : Env} {H Hm : Hp} {Fs : List Hp} {r : List Stp} {ws : List Bool} {X0 : Nat→Prop} {M0 : Mp} {im : List Nat}
theorem JdC.fin [Dr] {L : Nat→Prop} {a : Act} {M : Mp} {j : Nat} {F' : Hp} (hO : OrdB l m) (hF : RunCF P tab im l m E Hm r Fs ws) (hlast : Fs[cntB ws ws.length]? = some F') (hlen : Fs.length = cntB ws ws.length + 1) (h : JdC n kb (l.take m) r Fs ws E X0 j L a M) (hL : ∀ k,k < (l.take m).length→L k) : St n kb (envAt (l.take m) r E (l.take m).length) F' X0 a M:=by
 have hr:=hF.rl
 have hdis : ∀ (i j : Nat) (oi oj : Oper),(l.take m)[i]? = some oi→(l.take m)[j]? = some oj→i≠j→∀ d,oi.dst = some d→oj.dst≠some d:=fun i j oi oj hi hj hij d hdi=>(hO.pair j oj i oi hj hi hij d hdi).1
 obtain ⟨G,hG,hS⟩:=h.sim
 have hjl:=(List.getElem?_eq_some_iff.1 hG).1
 have hje : j = cntB ws ws.length:=by
  refine Nat.le_antisymm (by omega) (Nat.le_of_not_lt fun hh=>?_)
  obtain ⟨k',q1,q2,q3⟩:=zbl hh
  have:=(h.cnt k' q2).1 (hL k' (by rw [← hF.wl];exact q1))
  omega
 rw [hje,hlast] at hG
 injection hG with hG;subst hG
 refine ⟨fun d t ht=>?_,h.sz,h.df,h.ge,hS⟩
 obtain ⟨g1,g2⟩:=t7 (E:=E) (d:=d) hr (Nat.le_refl _) hdis
 by_cases hw : ∃ j oj,j < (l.take m).length∧(l.take m)[j]? = some oj∧oj.dst = some d
 ·obtain ⟨j,oj,hj,hoj,hdj⟩:=hw
  have hs : r[j]? = some r[j]:=List.getElem?_eq_getElem (by omega)
  rw [g1 j oj _ hj hoj hs hdj] at ht
  injection ht with ht;subst ht
  exact h.slot j oj _ d hoj hs (hL j hj) hdj
 ·rw [g2 fun j oj hj hoj hdj=>hw ⟨j,oj,hj,hoj,hdj⟩] at ht
  exact h.old d t ht fun j oj hoj _ hdj=>hw ⟨j,oj,(List.getElem?_eq_some_iff.1 hoj).1,hoj,hdj⟩
theorem zif [Dr] (hT : TabOk P tab) (hO : OrdB l m) (hd : dstB n l = true) (hF : RunCF P tab im l m E Hm r Fs ws) {F' : Hp} (hlast : Fs[cntB ws ws.length]? = some F') (hlen : Fs.length = cntB ws ws.length + 1)
  {r0 : Option Nat} {Q : Exit→Act→World→Prop} (hQ : ∀ a M,Evo X0 M0 M→St n kb (envAt (l.take m) r E (l.take m).length) F' X0 a M→wpListIn (FW r0) 0 P l.toArray Q (l.drop m) a M.w) :
  ∀ (fuel : Nat) (listed : Array Bool) (a : Act) (M : Mp) (j : Nat),leftB l listed≤fuel→listed.size = l.length→Closed l (lsd listed)→(∀ k,m≤k→¬ lsd listed k)→Evo X0 M0 M→JdC n kb (l.take m) r Fs ws E X0 j (lsd listed) a M→wpAnyIn (FW r0) 0 P .any l.toArray Q fuel listed a M.w:=by
 have hml : (l.take m).length = m:=by rw [List.length_take];have:=hO.le;omega
 intro fuel
 have fin : ∀ (fuel : Nat) (listed : Array Bool) (a : Act) (M : Mp) (j : Nat),leftB l listed≤fuel→listed.size = l.length→(∀ k,m≤k→¬ lsd listed k)→(∀ k,k < m→lsd listed k)→Evo X0 M0 M→JdC n kb (l.take m) r Fs ws E X0 j (lsd listed) a M→wpAnyIn (FW r0) 0 P .any l.toArray Q fuel listed a M.w:=by
  intro fuel listed a M j hf hsz hno hall hE hJ
  refine qk hO fuel listed m a M.w ?_ hsz (Nat.le_refl _) hO.le (fun k=>⟨fun h=>?_,hall k⟩) (hQ a M hE (hJ.fin hO hF hlast hlen fun k hk=>hall k (by omega)))
  ·have h1 : leftB l listed = l.length - m:=by
    unfold leftB
    have e : List.range l.length = List.range m ++ (List.range (l.length - m)).map (m + ·):=by
     rw [← List.range_add,show m + (l.length - m) = l.length from by have:=hO.le;omega]
    rw [e,List.countP_append]
    have e1 : (List.range m).countP (fun k=>!listed.getD k false) = 0:=by
     rw [List.countP_eq_zero]
     intro k hk
     have:=hall k (List.mem_range.1 hk)
     unfold lsd at this
     simpa using this
    have e2 : ((List.range (l.length - m)).map (m + ·)).countP (fun k=>!listed.getD k false) = l.length - m:=by
     rw [List.countP_eq_length.2]
     ·simp
     ·intro k hk
      rw [List.mem_map] at hk
      obtain ⟨q,-,rfl⟩:=hk
      have:=hno (m + q) (by omega)
      unfold lsd at this
      simpa using this
    omega
   omega
  ·exact Nat.lt_of_not_le fun hk=>hno k hk h
 induction fuel with
 | zero=>
  intro listed a M j hf hsz hc hno hE hJ
  by_cases hall : ∀ k,k < m→lsd listed k
  ·exact fin 0 listed a M j hf hsz hno hall hE hJ
  ·exfalso
   have h0 : leftB l listed = 0:=by omega
   unfold leftB at h0
   rw [List.countP_eq_zero] at h0
   apply hall
   intro k hk
   have:=h0 k (List.mem_range.2 (by have:=hO.le;omega))
   unfold lsd
   simpa using this
 | succ fuel ih=>
  intro listed a M j hf hsz hc hno hE hJ
  by_cases hall : ∀ k,k < m→lsd listed k
  ·exact fin _ listed a M j hf hsz hno hall hE hJ
  ·have hnext : ∃ i o,i < m∧l[i]? = some o∧¬ lsd listed i∧∀ e∈o.after,Region.binds .any e = true→lsd listed e.on:=by
    have hex : ∃ k,k < m∧¬ lsd listed k:=by
     apply Classical.byContradiction
     intro h
     exact hall fun k hk=>Classical.byContradiction fun hn=>h ⟨k,hk,hn⟩
    obtain ⟨i,⟨h1,h2⟩,hmin⟩:=ww hex
    have hile : i < l.length:=by have:=hO.le;omega
    have ho : l[i]? = some l[i]:=List.getElem?_eq_getElem hile
    refine ⟨i,_,h1,ho,h2,fun e he hb=>?_⟩
    have hlt:=uq l 0 i _ hO.back ho e he hb
    exact Classical.byContradiction fun hn=>by have:=hmin e.on ⟨by omega,hn⟩;omega
   refine ⟨fun hr0=>?_,fun i hi=>?_⟩
   ·obtain ⟨i,o,h1,h2,h3,h4⟩:=hnext
    have:=so hsz h2 h3 h4
    rw [hr0] at this;cases this
   ·obtain ⟨o,ho,hn,hp⟩:=wz hsz hi
    have hil:=(List.getElem?_eq_some_iff.1 ho).1
    have him : i < m:=by
     refine Nat.lt_of_not_le fun hmi=>?_
     apply hall
     intro k hk
     exact wa hO.back hc ho hp (hO.full i hmi hil k (by omega))
    have hop : (l.take m)[i]? = some o:=by rw [List.getElem?_take,if_pos him];exact ho
    have hdo : ∀ d,o.dst = some d→d < n:=fun d hdd=>by
     unfold dstB at hd
     rw [List.all_eq_true] at hd
     have:=hd o (List.mem_of_getElem? ho)
     rw [hdd] at this;simpa using this
    refine JdC.step hT hO hF hJ hc hop hn hp hdo fun a' M' j' hE' hJ'=>?_
    have hiff : ∀ k,lsd (listed.setIfInBounds i true) k↔lsd listed k∨k = i:=t5 (by omega)
    have hfun : lsd (listed.setIfInBounds i true) = fun k=>lsd listed k∨k = i:=funext fun k=>propext (hiff k)
    refine ih _ a' M' j' ?_ (by simpa using hsz) (fun k ok hok hk e he hb=>?_) (fun k hk h=>?_) (hE.trans hE') (by rw [hfun];exact hJ')
    ·have:=sx hsz hil hn;omega
    ·rw [hiff] at hk ⊢
     rcases hk with hk | rfl
     ·exact .inl (hc k ok hok hk e he hb)
     ·rw [ho] at hok;injection hok with hok;subst hok;exact .inl (hp e he hb)
    ·rcases (hiff k).1 h with h | h
     ·exact hno k hk h
     ·omega
def cchB (l : List Oper) (m : Nat) (ws : List Bool) : Bool:=(List.range m).all fun k=>(List.range k).all fun j=>!(ws.getD k false && ws.getD j false) || ((masks l []).getD k 0).testBit j
theorem cch_at {ws : List Bool} (h : cchB l m ws = true) {k j : Nat} (hk : k < m) (hj : j < k) (h1 : ws[k]? = some true) (h2 : ws[j]? = some true) : ((masks l []).getD k 0).testBit j = true:=by
 unfold cchB at h
 rw [List.all_eq_true] at h
 have h:=h k (List.mem_range.2 hk)
 rw [List.all_eq_true] at h
 have h:=h j (List.mem_range.2 hj)
 simpa [List.getD_eq_getElem?_getD,h1,h2] using h
theorem VC.drawC [Dr] {id : Nat} {QT : Exit→Env→Hp→Prop} (hT : TabOk P tab) (im : List Nat) (m : Nat) (hm : P.follows .mixedOrders = true) (hB : drawB n m l = true) (wd : List Bool) (hch : cchB l m wd = true) (hsn : seenL Hm H)
  (h : ∃ r fs E' F',RunC P tab im l.toArray Hm (l.take m) E H r fs wd E' F'∧vcSeq P tab im (l.map (·.dst)) (l.drop m) E' F' (QT .normal)) : VC z P n lb (.region id l.toArray true) QT E H:=by
 intro X0 M a r0 kb hz hs
 obtain ⟨hO,hd⟩:=zeb hB
 obtain ⟨r,fs,E',F',hrun,hk⟩:=h
 obtain ⟨h1,h2,h3,h4,h5,h6,h7,h8⟩:=runC_at hrun hsn
 have hF : RunCF P tab im l m E Hm r (H :: fs) wd:=⟨h1,h2,h7,h5,h8,fun k j hk hj q1 q2=>cch_at hch hk hj q1 q2⟩
 refine wpIn_region_any hm ?_;let M1 : Mp:=⟨M.β,M.X,{ M.w with drawn:=M.w.drawn + 1 }⟩
 have hE1 : Evo X0 M M1:=⟨fun _ _ h=>h,fun _ _ h=>h,fun _ _ _=>rfl,fun _ _ h=>h,rfl,⟨rfl,fun _=>Nat.le_succ _⟩,rfl,Nat.le_refl _⟩
 have hs1 : St n kb E H X0 a M1:=⟨fun d t ht=>by obtain ⟨u,q1,q2⟩:=hs.tm d t ht;exact ⟨u,q1,Rep.stays hE1.stays _ _ q2⟩,hs.sz,hs.df.evo hE1,hs.ge,hs.sim.world hE1 fun _ _=>rfl⟩
 have hno : ∀ k,¬ lsd (Array.replicate l.toArray.size false) k:=fun k hk=>by
  unfold lsd at hk
  by_cases hlt : k < l.length
  ·simp [hlt] at hk
  ·simp [hlt] at hk
 have:=zif (r0:=r0) (X0:=X0) (M0:=M) (Q:=Lift n kb lb X0 M QT) hT hO hd hF (by rw [← h3];exact h6) (by rw [← h3];rfl) (fun a' M' hE' hs'=>by
  rw [← h4] at hs'
  refine ug (im:=im) hT _ ?_ hs' (fun E2 H2 a2 M2 k1 k2 k3=>⟨E2,H2,M2,k1,rfl,(hE'.trans k2).toK lb,k3⟩) hk
  unfold dstB at hd ⊢
  rw [List.all_eq_true] at hd ⊢
  exact fun o ho=>hd o (List.mem_of_mem_drop ho)) l.toArray.size (Array.replicate l.toArray.size false) a M1 0 (Nat.le_trans List.countP_le_length (by simp)) (by simp) (fun k o _ hk=>absurd hk (hno k)) (fun k _=>hno k) hE1
  ⟨⟨H,rfl,hs1.sim⟩,fun k o s d _ _ hk=>absurd hk (hno k),fun d t ht _=>hs1.tm d t ht,hs1.sz,hs1.df,hs1.ge,fun k _=>⟨fun hk=>absurd hk (hno k),fun hh=>by omega⟩⟩
 exact this
end
def VD [Dr] (P : Program) (tab : Tab) (im : List Nat) (ops : Array Oper) (Hm : Hp) (l : List Oper) (wd : List Bool) (E : Env) (F : Hp) (K : Env→Hp→Prop) : Prop:=
 ∀ E2,Sub E E2→∃ r fs E' F',RunC P tab im ops Hm l E2 F r fs wd E' F'∧∃ E1,Sub E1 E'∧K E1 F'
section
variable {z : Bool} {P : Program} {tab : Tab} {n lb : Nat} {im : List Nat} {ops : Array Oper} {l : List Oper} {E : Env} {Hm F : Hp} {K : Env→Hp→Prop} {wd : List Bool}
theorem qj [Dr] (h : K E F) : VD P tab im ops Hm [] [] E F K:=fun E2 he=>⟨[],[],E2,F,.nil _ _,E,he,h⟩
theorem yx [Dr] {d : Nat} {op : Op} {ty : TypeId} {pos : String} {after : Array Edge} {t : T} (h : opM tab (lookH Hm) Hm.length E.opd op = some (t,none)) (k : VD P tab im ops Hm l wd ((d,t) :: E) F K) : VD P tab im ops Hm (⟨some d,op,ty,pos,after,none⟩ :: l) (false :: wd) E F K:=fun E2 he=>by
 obtain ⟨r,fs,E',F',h1,h2⟩:=k _ (he.put d t)
 exact ⟨⟨t,none⟩ :: r,fs,E',F',.one (s:=⟨t,none⟩) (.inr ⟨.inl rfl,.inl ⟨t,none,sv (fun x s hx=>he.opd hx) h,.inl ⟨rfl,rfl⟩⟩⟩) rfl h1,h2⟩
theorem VD.call [Dr] {d : Nat} {ty : TypeId} {pos : String} {after : Array Edge} {f : Operand} {args : Array Operand} {ats : Array TypeId} {g : FuncId} {us vs ts : List T} {t : T} {F1 : Hp} (hf : E.opd f = some (.clo g us vs)) (ha : optL E.opd args.toList = some ts)
  (hc : CallT P g (us ++ ts ++ vs) F (fun u H'=>u = t∧H' = F1)) (hs : seenL Hm F1) (k : VD P tab im ops Hm l wd ((d,t) :: E) F1 K) : VD P tab im ops Hm (⟨some d,.call ⟨.value f,args,ats⟩,ty,pos,after,none⟩ :: l) (true :: wd) E F K:=fun E2 he=>by
 obtain ⟨r,fs,E',F',h1,h2⟩:=k _ (he.put d t)
 exact ⟨⟨t,none⟩ :: r,F1 :: fs,E',F',.call (t:=t) rfl (.inl ⟨f,args,ats,g,us,vs,ts,rfl,he.opd hf,x9 (fun x s hx=>he.opd hx) _ _ ha,hc⟩) hs h1,h2⟩
theorem zi6 [Dr] {d : Nat} {ty : TypeId} {pos : String} {after : Array Edge} {x y : Operand} {t1 t2 : TypeId} {ta tb t : T} {F1 : Hp} (hx : E.opd x = some ta) (hy : E.opd y = some tb) (ha : mAppend tab F t1 t2 ta tb = some (t,F1)) (hs : seenL Hm F1) (k : VD P tab im ops Hm l wd ((d,t) :: E) F1 K) :
  VD P tab im ops Hm (⟨some d,.call ⟨.builtin .append,#[x,y],#[t1,t2]⟩,ty,pos,after,none⟩ :: l) (true :: wd) E F K:=fun E2 he=>by
 obtain ⟨r,fs,E',F',h1,h2⟩:=k _ (he.put d t)
 exact ⟨⟨t,none⟩ :: r,F1 :: fs,E',F',.call (t:=t) rfl (.inr (.inl ⟨x,y,t1,t2,ta,tb,rfl,he.opd hx,he.opd hy,ha⟩)) hs h1,h2⟩
theorem zi5 [Dr] {d : Nat} {op : Op} {ty : TypeId} {pos : String} {after : Array Edge} {t : T} {p : Nat × List T} {F1 : Hp} (h : opM tab (lookH F) F.length E.opd op = some (t,some p)) (he1 : F ++ [.c p.2] = F1) (hs : seenL Hm F1) (k : VD P tab im ops Hm l wd ((d,t) :: E) F1 K) : VD P tab im ops Hm (⟨some d,op,ty,pos,after,none⟩ :: l) (true :: wd) E F K:=fun E2 he=>by
 obtain ⟨r,fs,E',F',h1,h2⟩:=k _ (he.put d t)
 exact ⟨⟨t,none⟩ :: r,F1 :: fs,E',F',.call (t:=t) rfl (.inr (.inr (.inl ⟨p,sv (fun x s hx=>he.opd hx) h,he1.symm⟩))) hs h1,h2⟩
theorem VD.sto [Dr] {t0 : TypeId} {a x : Operand} {ty : TypeId} {pos : String} {after : Array Edge} {b o : Nat} {i : TyI} {cs : List T} {tx : T} {F1 : Hp} (hT : tab t0 = some i) (ha : E.opd a = some (.ptr b o)) (hx : E.opd x = some tx) (hc : lookH F b = some cs)
  (h1 : (flat tx).length = i.sz) (h2 : o + i.sz≤cs.length) (h3 : (flat tx).all cellB = true) (he1 : setH F b (.c (putL cs o (flat tx))) = F1) (hs : seenL Hm F1) (k : VD P tab im ops Hm l wd E F1 K) :
  VD P tab im ops Hm (⟨none,.store t0 a x,ty,pos,after,none⟩ :: l) (true :: wd) E F K:=fun E2 he=>by
 obtain ⟨r,fs,E',F',g1,g2⟩:=k _ he
 refine ⟨⟨.v undef,none⟩ :: r,F1 :: fs,E',F',.call (t:=.v undef) rfl (.inr (.inr (.inr ⟨t0,a,x,_,tx,rfl,he.opd ha,he.opd hx,?_,rfl⟩))) hs g1,g2⟩
 simp only [mStore,hT,hc]
 rw [if_pos ⟨h1,h2,h3⟩,he1]
theorem VD.look [Dr] {d : Nat} {ty : TypeId} {pos : String} {after : Array Edge} {f : Operand} {args : Array Operand} {ats : Array TypeId} {g : FuncId} {us vs ts : List T} {t : T} (hf : E.opd f = some (.clo g us vs)) (ha : optL E.opd args.toList = some ts)
  (hc : ∀ G,seenL Hm G→CallT P g (us ++ ts ++ vs) G (fun u H'=>u = t∧H' = G)) (k : VD P tab im ops Hm l wd ((d,t) :: E) F K) : VD P tab im ops Hm (⟨some d,.call ⟨.value f,args,ats⟩,ty,pos,after,none⟩ :: l) (false :: wd) E F K:=fun E2 he=>by
 obtain ⟨r,fs,E',F',h1,h2⟩:=k _ (he.put d t)
 exact ⟨⟨t,none⟩ :: r,fs,E',F',.look (t:=t) rfl ⟨f,args,ats,g,us,vs,ts,rfl,he.opd hf,x9 (fun x s hx=>he.opd hx) _ _ ha,hc⟩ h1,h2⟩
theorem zbu [Dr] {d : Nat} {op : Op} {ty : TypeId} {pos : String} {after : Array Edge} {t : T} {p : Nat × List T} (h : opM tab (lookH Hm) Hm.length E.opd op = some (t,some p)) (k : VD P tab im ops Hm l wd ((d,immT t p.2) :: E) F K) : VD P tab im ops Hm (⟨some d,op,ty,pos,after,none⟩ :: l) (false :: wd) E F K:=fun E2 he=>by
 obtain ⟨r,fs,E',F',h1,h2⟩:=k _ (he.put d _)
 exact ⟨⟨immT t p.2,none⟩ :: r,fs,E',F',.one (s:=⟨immT t p.2,none⟩) (.inr ⟨.inl rfl,.inl ⟨t,some p,sv (fun x s hx=>he.opd hx) h,.inr ⟨p,rfl,rfl,rfl⟩⟩⟩) rfl h1,h2⟩
theorem ze7 [Dr] {d : Nat} {ty : TypeId} {pos : String} {after : Array Edge} {f : Operand} {args : Array Operand} {ats : Array TypeId} {g : FuncId} {us vs ts : List T} {t : T} (hf : E.opd f = some (.clo g us vs)) (ha : optL E.opd args.toList = some ts)
  (hc : CallP P g (us ++ ts ++ vs) t) (k : VD P tab im ops Hm l wd ((d,t) :: E) F K) : VD P tab im ops Hm (⟨some d,.call ⟨.value f,args,ats⟩,ty,pos,after,none⟩ :: l) (false :: wd) E F K:=fun E2 he=>by
 obtain ⟨r,fs,E',F',h1,h2⟩:=k _ (he.put d t)
 exact ⟨⟨t,none⟩ :: r,fs,E',F',.one (s:=⟨t,none⟩) (.inr ⟨.inl rfl,.inr ⟨f,args,ats,g,us,vs,ts,rfl,he.opd hf,x9 (fun x s hx=>he.opd hx) _ _ ha,hc,rfl⟩⟩) rfl h1,h2⟩
end
section
variable {z : Bool} {P : Program} {tab : Tab} {n lb : Nat} {E : Env} {H : Hp} {QT : Exit→Env→Hp→Prop}
theorem ze9 [Dr] {id : Nat} {l l2 : List Oper} (hT : TabOk P tab) (im : List Nat) (l1 : List Oper) (Hm : Hp) (wd : List Bool) (hl : l = l1 ++ l2) (hm : P.follows .mixedOrders = true) (hB : drawB n l1.length l = true) (hch : cchB l l1.length wd = true) (hsn : seenL Hm H) (h : VD P tab im l.toArray Hm l1 wd E H fun E H=>VX false P tab im (l.map (·.dst)) l2 E H (QT .normal)) : VC z P n lb (.region id l.toArray true) QT E H:=by
 have e1 : l.take l1.length = l1:=by rw [hl,List.take_left]
 have e2 : l.drop l1.length = l2:=by rw [hl,List.drop_left]
 obtain ⟨r,fs,E',F',h1,E1,h3,h4⟩:=h E (Sub.refl E)
 refine zc3 (VC.drawC hT im l1.length hm hB wd hch hsn ⟨r,fs,E',F',by rw [e1];exact h1,?_⟩)
 rw [e2]
 exact h4 E' h3
theorem sc [Dr] {id : Nat} {l l2 : List Oper} {c : Code} (hT : TabOk P tab) (im : List Nat) (l1 : List Oper) (Hm : Hp) (wd : List Bool) (hl : l = l1 ++ l2) (hm : P.follows .mixedOrders = true) (hB : drawB n l1.length l = true) (hch : cchB l l1.length wd = true) (hsn : seenL Hm H) (h : VD P tab im l.toArray Hm l1 wd E H fun E H=>VX false P tab im (l.map (·.dst)) l2 E H fun E H=>VC z P n lb c QT E H) : VC z P n lb (.seq (.region id l.toArray true) c) QT E H:=zn (ze9 hT im l1 Hm wd hl hm hB hch hsn h)
end
theorem x5 {F : Hp} : seenL [] F:=⟨Nat.zero_le _,fun b hb=>absurd (by simp [blkH]) hb⟩
theorem xe {x : Blk} {a b : Hp} (h : seenL a b) : seenL (x :: a) (x :: b):=⟨by have:=h.1;simp;omega,fun c hc=>by cases c with | zero=>rfl | succ c=>exact h.2 c hc⟩
theorem x8 {x : Blk} {a b : Hp} (h : seenL a b) : seenL (.d :: a) (x :: b):=⟨by have:=h.1;simp;omega,fun c hc=>by cases c with | zero=>exact absurd rfl hc | succ c=>exact h.2 c hc⟩
end

section
open Go.ChangeShapes Go.WideShapes Go.ChangeAt Go.RowKit Go.WideElems
inductive Sh where
 | int (k : IntKind)
 | bool
 | str
 | st (l : List Sh)
 | sl (e : Sh)
mutual
def Sh.fits (P : Program) : Sh→TypeId→Bool
 | .int k,t=>match P.underlying t with | some (.int k')=>decide (k' = k) | _=>false
 | .bool,t=>match P.underlying t with | some .bool=>true | _=>false
 | .str,t=>match P.underlying t with | some .string=>true | _=>false
 | .st l,t=>match P.underlying t with | some (.struct fs)=>Sh.fitsL P l fs.toList 0 (P.cellsOf t) | _=>false
 | .sl e,t=>match P.underlying t with | some (.slice u)=>Sh.fits P e u && decide (0 < P.cellsOf u) && decide (P.cellsOf t = 1) | _=>false
def Sh.fitsL (P : Program) : List Sh→List Field→Nat→Nat→Bool
 | [],[],o,n=>o == n
 | s :: l,f :: fs,o,n=>f.offset == o && Sh.fits P s f.type && Sh.fitsL P l fs (o + P.cellsOf f.type) n
 | _,_,_,_=>false
end
def nth (p : List T→Prop) : Nat→List T→Prop
 | 0,xs=>xs = []
 | n + 1,xs=>∃ a b,xs = a ++ b∧p a∧nth p n b
mutual
def Sh.wt : Sh→List T→Prop
 | .int k,ts=>∃ n,ts = [.v (.int k n)]∧(Lit.int k n).wf = true
 | .bool,ts=>∃ b,ts = [.v (.bool b)]
 | .str,ts=>∃ s : ByteArray,ts = [.v (.string s)]∧s.size≤maxLen
 | .st l,ts=>Sh.wtL l ts
 | .sl e,ts=>∃ xs n,ts = [.islc xs n none]∧n≤maxLen∧nth (Sh.wt e) n xs
def Sh.wtL : List Sh→List T→Prop
 | [],ts=>ts = []
 | s :: l,ts=>∃ a b,ts = a ++ b∧Sh.wt s a∧Sh.wtL l b
end
def inW (β : Nat→Option (Option (Nat × Nat))) (W : World) : Mp:=⟨β,fun _=>False,W⟩
theorem RepA.app {M : Mp} : ∀ {ts ss : List T} {a : Array Value} {j : Nat},RepA M ts a j→RepA M ss a (j + ts.length)→RepA M (ts ++ ss) a j
 | [],ss,a,j,_,h=>h
 | t :: ts,ss,a,j,⟨u,h1,h2,h3⟩,h=>⟨u,h1,h2,RepA.app h3 (by rw [show j + 1 + ts.length = j + (t :: ts).length from by rw [List.length_cons];omega];exact h)⟩
theorem zfw {W : World} {B o : Nat} {v : Value} (h : W.cell? ⟨B,o,none⟩ = some v) : ∃ a e f,W.heap[B]? = some (.cells a e f):=by
 unfold World.cell? at h
 split at h
 ·rename_i c e f hh
  exact ⟨c,e,f,hh⟩
 ·cases h
theorem cell_inW {W : World} {B o : Nat} {a : Array Value} {e : TypeId} {f : Nat × Nat} (h : W.heap[B]? = some (.cells a e f)) : W.cell? ⟨B,o,none⟩ = a[o]?:=by
 unfold World.cell?
 rw [h]
 rfl
theorem add_n (B o i : Nat) : (Addr.add ⟨B,o,none⟩ i) = ⟨B,o + i,none⟩:=by
 unfold Addr.add
 split
 ·subst_vars;rfl
 ·rfl
section
variable {H : Type} {enc : TypeId × Value→H} {P : Program} {W : World} {sp : Nat→Bool} {held : Bool} {β : Nat→Option (Option (Nat × Nat))}
mutual
theorem za1 : ∀ (s : Sh) {t : TypeId} {fuel : Nat} {cs : List Value} {x : DataW H × List MemPlace},s.fits P t = true→DataW.trod enc P W 0 sp held fuel t cs = some x→cs.length = P.cellsOf t→∃ ts,RepL (inW β W) ts cs∧s.wt ts
 | .int k,t,fuel,cs,x,hs,h,hl=>by
  unfold Sh.fits at hs
  split at hs
  ·rename_i k' hu
   obtain rfl : k' = k:=of_decide_eq_true hs
   obtain ⟨n,rfl,_,hw⟩:=DataW.trod_int hu h
   exact ⟨[.v (.int k' n)],⟨_,_,rfl,rfl,rfl⟩,n,rfl,hw⟩
  ·cases hs
 | .bool,t,fuel,cs,x,hs,h,hl=>by
  unfold Sh.fits at hs
  split at hs
  ·rename_i hu
   cases fuel with
   | zero=>simp [DataW.trod] at h
   | succ n=>
    unfold DataW.trod at h
    rw [hu] at h
    split at h <;> simp_all
    exact ⟨[.v (.bool _)],⟨_,_,rfl,rfl,rfl⟩,_,rfl⟩
  ·cases hs
 | .str,t,fuel,cs,x,hs,h,hl=>by
  unfold Sh.fits at hs
  split at hs
  ·rename_i hu
   obtain ⟨s,rfl,_,hw⟩:=DataW.trod_string hu h
   exact ⟨[.v (.string s)],⟨_,_,rfl,rfl,rfl⟩,s,rfl,hw⟩
  ·cases hs
 | .st l,t,fuel,cs,x,hs,h,hl=>by
  unfold Sh.fits at hs
  split at hs
  ·rename_i fs hu
   obtain ⟨xs,n,-,-,hc,hx,hf⟩:=DataW.trod_struct hu h
   have:=zec l (fs:=fs.toList) (o:=0) (n:=P.cellsOf t) (cs:=cs) (m:=n) hs hc (fun f hm=>by
    obtain ⟨i,hi⟩:=List.getElem?_of_mem hm
    have hi2 : fs[i]? = some f:=by simpa using hi
    have h1:=hf i f hi2
    have hlt : i < xs.length:=by rw [hx];exact (Array.getElem?_eq_some_iff.1 hi2).1
    exact ⟨xs[i],by rw [h1,List.getElem?_eq_getElem hlt]⟩)
   rw [List.drop_zero] at this
   exact this
  ·cases hs
 | .sl e,t,fuel,cs,x,hs,h,hl=>by
  unfold Sh.fits at hs
  split at hs
  ·rename_i u hu
   simp only [Bool.and_eq_true,decide_eq_true_eq] at hs
   obtain ⟨hs,-⟩:=hs
   rcases DataW.trod_slice hu h with ⟨rfl,-⟩ | ⟨a,len,cap,elems,rest,m,-,rfl,-,-,hle,hcap,hlen,hel,-,-⟩
   ·exact ⟨[.islc [] 0 none],⟨_,_,rfl,⟨none,0,rfl,Nat.le_refl _,Nat.zero_le _,fun q hq=>(by cases hq),.inl ⟨rfl,rfl⟩⟩,rfl⟩,[],0,rfl,Nat.zero_le _,rfl⟩
   ·by_cases hn : len = 0
    ·subst hn
     exact ⟨[.islc [] 0 none],⟨_,_,rfl,⟨some a,cap,rfl,Nat.zero_le _,hcap,fun q hq=>(by cases hq),.inl ⟨rfl,rfl⟩⟩,rfl⟩,[],0,rfl,Nat.zero_le _,rfl⟩
    ·have h0:=hel 0 (by omega)
     have hsome : ∀ i,i < len→∃ cs' y,W.cells? 0 (a.add (i * P.cellsOf u)) (P.cellsOf u) = some cs'∧DataW.trod enc P W 0 sp held m u cs' = some y:=fun i hi=>by
      have hq:=hel i hi
      rw [List.getElem?_eq_getElem (by omega),Option.bind_eq_some_iff] at hq
      obtain ⟨cs',h1,h2⟩:=hq
      exact ⟨cs',_,h1,h2⟩
     obtain ⟨ab,ao,asx⟩:=a
     obtain ⟨cs0,y0,c1,-⟩:=hsome 0 (by omega)
     obtain ⟨-,c2,c3⟩:=World.cells?_some c1
     have c4:=c3 0 hs.2
     rw [List.getElem?_eq_getElem (by omega)] at c4
     have hspot : asx = none:=by simpa [Addr.add] using World.cell?_spot c4
     subst hspot
     rw [add_n,add_n] at c4
     obtain ⟨arr,e1,f1,hB⟩:=zfw c4
     have build : ∀ n i,i + n≤len→∃ xs,nth e.wt n xs∧RepA (inW β W) xs arr (ao + i * P.cellsOf u):=by
      intro n
      induction n with
      | zero=>exact fun i _=>⟨[],rfl,trivial⟩
      | succ n ih=>
       intro i hi
       obtain ⟨xs,k1,k2⟩:=ih (i + 1) (by omega)
       obtain ⟨cs',y,g1,g2⟩:=hsome i (by omega)
       obtain ⟨-,g3,g4⟩:=World.cells?_some g1
       obtain ⟨ts,r1,r2⟩:=za1 e hs.1 g2 g3
       have hlen' : ts.length = P.cellsOf u:=by rw [← r1.length,g3]
       refine ⟨ts ++ xs,⟨ts,xs,rfl,r2,k1⟩,RepA.app (v5 fun j tj hj=>?_) (by rw [hlen',Nat.add_assoc,← Nat.succ_mul];exact k2)⟩
       obtain ⟨uj,q1,q2⟩:=r1.get j tj hj
       have hjl : j < P.cellsOf u:=by rw [← g3];exact (List.getElem?_eq_some_iff.1 q1).1
       refine ⟨uj,?_,q2⟩
       rw [← q1,← g4 j hjl,add_n,add_n,cell_inW hB]
     obtain ⟨xs,k1,k2⟩:=build len 0 (by omega)
     rw [Nat.zero_mul,Nat.add_zero] at k2
     refine ⟨[.islc xs len none],⟨_,_,rfl,⟨_,cap,rfl,hle,hcap,fun q hq=>(by cases hq),.inr ⟨ab,ao,arr,rfl,⟨fun hx=>hx,e1,f1,hB⟩,k2⟩⟩,rfl⟩,xs,len,rfl,by omega,k1⟩
  ·cases hs
theorem zec : ∀ (l : List Sh) {fs : List Field} {o n m : Nat} {cs : List Value},Sh.fitsL P l fs o n = true→cs.length = n→(∀ f∈fs,∃ x,DataW.trod enc P W 0 sp held m f.type ((cs.drop f.offset).take (P.cellsOf f.type)) = some x)→∃ ts,RepL (inW β W) ts (cs.drop o)∧Sh.wtL l ts
 | [],[],o,n,m,cs,hs,hl,h=>by
  have e : o = n:=by unfold Sh.fitsL at hs;simpa using hs
  exact ⟨[],by show cs.drop o = [];rw [List.drop_eq_nil_iff];omega,rfl⟩
 | [],f :: fs,o,n,m,cs,hs,hl,h=>by unfold Sh.fitsL at hs;cases hs
 | s :: l,[],o,n,m,cs,hs,hl,h=>by unfold Sh.fitsL at hs;cases hs
 | s :: l,f :: fs,o,n,m,cs,hs,hl,h=>by
  unfold Sh.fitsL at hs
  simp only [Bool.and_eq_true,beq_iff_eq] at hs
  obtain ⟨⟨h1,h2⟩,h3⟩:=hs
  have hle:=zel l h3
  obtain ⟨x,hx⟩:=h f (by simp)
  obtain ⟨a,a1,a2⟩:=za1 s h2 hx (by rw [List.length_take,List.length_drop];omega)
  obtain ⟨b,b1,b2⟩:=zec l h3 hl (fun g hg=>h g (by simp [hg]))
  refine ⟨a ++ b,?_,a,b,rfl,a2,b2⟩
  have e : cs.drop o = (cs.drop f.offset).take (P.cellsOf f.type) ++ cs.drop (o + P.cellsOf f.type):=by
   rw [h1,← List.drop_drop,List.take_append_drop]
  rw [e]
  exact RepL.append a1 b1
theorem zel : ∀ (l : List Sh) {fs : List Field} {o n : Nat},Sh.fitsL P l fs o n = true→o≤n
 | [],[],o,n,hs=>by unfold Sh.fitsL at hs;simp at hs;omega
 | [],f :: fs,o,n,hs=>by unfold Sh.fitsL at hs;cases hs
 | s :: l,[],o,n,hs=>by unfold Sh.fitsL at hs;cases hs
 | s :: l,f :: fs,o,n,hs=>by
  unfold Sh.fitsL at hs
  simp only [Bool.and_eq_true,beq_iff_eq] at hs
  have:=zel l hs.2
  omega
end
def Sh.tree : Sh→List T→T
 | .st _,ts=>.agg ts
 | _,ts=>ts.headD (.tup [])
theorem open_arg {b0 : Nat} (s : Sh) {t : TypeId} {v : Value} {d : DataW H} {p : List MemPlace} (hs : s.fits P t = true) (hv : Value.okWide P W .any b0 t v) (h : DataW.Trod enc P W 0 sp held t v d p) :
  ∃ ts,Rep (inW β W) (s.tree ts) v∧s.wt ts:=by
 obtain ⟨fuel,hf⟩:=h
 cases s with
 | int k=>
  have hs':=hs
  unfold Sh.fits at hs
  split at hs
  ·rename_i k' hu
   obtain ⟨n,rfl⟩:=okWide_int hu hv
   obtain ⟨n',e,_,hw⟩:=DataW.trod_int hu hf
   simp [Value.cells] at e
   obtain ⟨rfl⟩:=e
   obtain rfl : k' = k:=of_decide_eq_true hs
   exact ⟨[.v (.int k' n)],rfl,n,rfl,hw⟩
  ·cases hs
 | bool=>
  unfold Sh.fits at hs
  split at hs
  ·rename_i hu
   obtain ⟨n,rfl⟩:=okWide_bool hu hv
   exact ⟨[.v (.bool n)],rfl,n,rfl⟩
  ·cases hs
 | str=>
  unfold Sh.fits at hs
  split at hs
  ·rename_i hu
   obtain ⟨n,rfl⟩:=okWide_string hu hv
   obtain ⟨n',e,_,hw⟩:=DataW.trod_string hu hf
   simp [Value.cells] at e
   subst e
   exact ⟨[.v (.string n)],rfl,n,rfl,hw⟩
  ·cases hs
 | st l=>
  have hs':=hs
  unfold Sh.fits at hs
  split at hs
  ·rename_i fs hu
   obtain ⟨cs,rfl,hsz⟩:=okWide_struct hu hv
   obtain ⟨ts,r1,r2⟩:=za1 (β:=β) (.st l) hs' hf (by rw [← hsz];rfl)
   exact ⟨ts,⟨cs.toList,rfl,r1⟩,r2⟩
  ·cases hs
 | sl e=>
  have hs':=hs
  unfold Sh.fits at hs
  split at hs
  ·rename_i u hu
   obtain ⟨a,len,cap,rfl⟩:=okWide_slice hu hv
   have hl1 : P.cellsOf t = 1:=by
    simp only [Bool.and_eq_true,decide_eq_true_eq] at hs
    exact hs.2
   obtain ⟨ts,r1,r2⟩:=za1 (β:=β) (.sl e) hs' hf (by rw [hl1];rfl)
   obtain ⟨xs,n,rfl,h1,h2⟩:=r2
   obtain ⟨w,r,e1,e2,e3⟩:=r1
   have e1' : [Value.slice a len cap] = w :: r:=e1
   injection e1' with e4 e5
   subst e4
   exact ⟨[.islc xs n none],e2,xs,n,rfl,h1,h2⟩
  ·cases hs
theorem law_run [Dr] {f : FuncId} {args : List T} {vs : List Value} (h : CallP P f args (.v (.bool true))) (hr : RepL (inW (fun _=>none) W) args vs) (hG : Glo (inW (fun _=>none) W):=by exact fun g a h=>(by cases h)) :
  Calls P f vs.toArray W (fun e W'=>e = .returned (.bool true)∧Below W.heap.size W W'):=
 (h.run (fun _=>False) (inW (fun _=>none) W) vs (fun B hB=>hB.elim) hG hr).mono fun e W' ⟨u,h1,h2,h3,h4⟩=>by
  have h3' : u = .bool true:=h3
  subst h3'
  exact ⟨h1,⟨h2.os,h2.tape.1,h2.output,h2.size,h4⟩⟩
end
end

section
def spaceA : Array Value:=(Lib.asciiSpaceTab.map fun z=>Value.int .u8 z).toArray
def glT : Nat→Option (Array Value):=fun g=>if g = 0 then some spaceA else none
end

section
open Go.RowKit
instance looseI : Dr:=⟨False,glT⟩
end

section
open Go.RowKit
def cY : Cd UInt8:=⟨1,fun b=>[U8 (b.toNat : Int)],fun _=>rfl,fun _=>rfl,fun _=>rfl,by decide⟩
theorem vw : cY.sz = 1:=rfl
abbrev strT (l : List UInt8) : T:=.v (.string ⟨l.toArray⟩)
def cStr : Cd (List UInt8):=⟨1,fun l=>[strT l],fun _=>rfl,fun _=>rfl,fun _=>rfl,by decide⟩
theorem uo : cStr.sz = 1:=rfl
theorem vd {p : Prop} (h : p:=by first | rfl | exact Nat.le_of_ble_eq_true rfl | omega | (simp only [ye,List.length_append,List.length_cons,List.length_nil,List.length_replicate,Nat.zero_add,t8,zfx,vw,uo];omega) | (simp [ye,t8,zfx,vw,uo];done) | (simp [ye,t8,zfx,vw,uo];omega)) : p:=h
theorem zbm : ∀ l : List UInt8,bytesT (encL cY l) = some l
 | []=>rfl
 | b :: l=>by
  show (match bytesT (encL cY l) with | some l'=>some (UInt8.ofNat ((b.toNat : Int)).toNat :: l') | none=>none) = _
  rw [zbm l]
  simp
theorem bytL_Y (s : ByteArray) : bytL s = encL cY s.data.toList:=by
 unfold bytL
 generalize s.data.toList = l
 induction l with
 | nil=>rfl
 | cons a l ih=>rw [List.map_cons,ih];rfl
theorem wrapU {n : Int} (h : 0≤n∧n < 256) : IntKind.u8.wrap n = n:=by
 have : IntKind.u8.wrap n = n % 256:=by simp [IntKind.wrap,IntKind.bits,IntKind.signed]
 rw [this];omega
theorem byt_eta (s : ByteArray) : (⟨s.data.toList.toArray⟩ : ByteArray) = s:=by cases s;simp
theorem tt {α : Type} (c : Cd α) {tab : Tab} {look : Look} {t e sz n : Nat} {i : TyI} {l : List α} {q : Option Nat} (hn : n = l.length) (hT : tab t = some i) (hk : i.k = .sl e) (hz : sz = c.sz) : srcCells tab look t sz (.islc (encL c l) n q) = some (encL c l,n):=by
 subst hz hn
 unfold srcCells
 rw [hT]
 simp only [hk]
 rw [if_pos (by rw [ye];exact Nat.le_refl _),List.take_of_length_le (by rw [ye];exact Nat.le_refl _)]
section
variable {q : Bool} {P : Program} {tab : Tab} {im : List Nat} {ds : List (Option Nat)} {l : List Oper} {E : Env} {H Hm F : Hp} {K : Env→Hp→Prop} {d : Nat} {ty : TypeId} {pos : String} {after : Array Edge} {ops : Array Oper} {wd : List Bool}
theorem zdx [Dr] {x y : Operand} {t1 t2 : TypeId} {ta tb t : T} {F1 : Hp} (hx : E.opd x = some ta) (hy : E.opd y = some tb) (ha : mAppend tab H t1 t2 ta tb = some (t,F1))
  (k : VX false P tab im ds l ((d,t) :: E) F1 K) : VX false P tab im ds (⟨some d,.call ⟨.builtin .append,#[x,y],#[t1,t2]⟩,ty,pos,after,none⟩ :: l) E H K:=by
 intro E2 he
 show vcGuard ds E2 _ _ _
 unfold vcGuard vcOp
 simp only [he.opd hx,he.opd hy,ha]
 exact k _ (he.put (some d) _)
theorem wy [Dr] {x y : Operand} {t1 t2 : TypeId} {a b : Int} (hx : E.opd x = some (I64 a)) (hy : E.opd y = some (I64 b)) (k : VX q P tab im ds l ((d,I64 (max a b)) :: E) H K) : VX q P tab im ds (⟨some d,.call ⟨.builtin .max,#[x,y],#[t1,t2]⟩,ty,pos,after,none⟩ :: l) E H K:=by
 refine za (t:=I64 (max a b)) ?_ k
 have e : (if b > a then b else a) = max a b:=by rw [Int.max_def];split <;> split <;> omega
 simp only [opM,optL,hx,hy,mMins,mMin,Bool.false_eq_true,if_false,e]
theorem w6 [Dr] {x y : Operand} {t1 t2 : TypeId} {a b : Int} (hx : E.opd x = some (I64 a)) (hy : E.opd y = some (I64 b)) (k : VX q P tab im ds l ((d,I64 (min a b)) :: E) H K) : VX q P tab im ds (⟨some d,.call ⟨.builtin .min,#[x,y],#[t1,t2]⟩,ty,pos,after,none⟩ :: l) E H K:=by
 refine za (t:=I64 (min a b)) ?_ k
 have e : (if b < a then b else a) = min a b:=by rw [Int.min_def];split <;> split <;> omega
 simp only [opM,optL,hx,hy,mMins,mMin,if_true,e]
theorem yi [Dr] {x y : Operand} {t t2 : Nat} {a c : Int} (hx : E.opd x = some (I64 a)) (hy : E.opd y = some (I64 c)) (ha : 0≤a) (ha2 : a≤9000000000000000000) (hc : 0 < c) (k : VX q P tab im ds l ((d,I64 (a / c)) :: E) H K) : VX q P tab im ds (⟨some d,.binOp .quo t x y t2,ty,pos,after,none⟩ :: l) E H K:=by
 refine za (t:=I64 (a / c)) ?_ k
 have h1 : a / c≤a:=Int.ediv_le_self c ha
 have h2 : 0≤a / c:=Int.ediv_nonneg ha (by omega)
 have hc' : ¬ c = 0:=by omega
 simp only [opM,hx,hy,mBin,binInt]
 rw [if_neg hc',Int.tdiv_eq_ediv_of_nonneg ha,wq (by omega)]
 rfl
theorem zi2 [Dr] {x y : Operand} {t t2 : Nat} {a c : Int} (hx : E.opd x = some (I64 a)) (hy : E.opd y = some (I64 c)) (ha : 0≤a) (hc : 0 < c) (k : VX q P tab im ds l ((d,I64 (a % c)) :: E) H K) : VX q P tab im ds (⟨some d,.binOp .rem t x y t2,ty,pos,after,none⟩ :: l) E H K:=by
 refine za (t:=I64 (a % c)) ?_ k
 have hc' : ¬ c = 0:=by omega
 simp only [opM,hx,hy,mBin,binInt]
 rw [if_neg hc',Int.tmod_eq_emod_of_nonneg ha]
 rfl
theorem t9 [Dr] {t1 t2 e n : Nat} {x : Operand} {i j r : TyI} {c : Option Nat} {cs : List T} {xs : List UInt8} (hT : tab t1 = some i) (hk : i.k = .sl e) (hj : tab t2 = some j) (hj2 : j.k = .str) (he : tab e = some r) (hr : r.k = .int .u8) (hx : E.opd x = some (.islc cs n c)) (hl : n≤cs.length) (hc : cs.take n = encL cY xs)
  (k : VX q P tab im ds l ((d,strT xs) :: E) H K) : VX q P tab im ds (⟨some d,.convert t1 t2 x,ty,pos,after,none⟩ :: l) E H K:=by
 refine za (t:=strT xs) ?_ k
 simp only [opM,hx,mConv,hT,hj,hk,hj2,he,hr]
 rw [if_pos hl,hc,zbm]
theorem vf [Dr] {t1 t2 e b o n : Nat} {x : Operand} {i j r : TyI} {c : Option Nat} {cs : List T} {xs : List UInt8} (hT : tab t1 = some i) (hk : i.k = .sl e) (hj : tab t2 = some j) (hj2 : j.k = .str) (he : tab e = some r) (hr : r.k = .int .u8) (hx : E.opd x = some (.slc b o n 1 c)) (hb : lookH H b = some cs) (hl : o + n≤cs.length) (hc : (cs.drop o).take n = encL cY xs)
  (k : VX q P tab im ds l ((d,strT xs) :: E) H K) : VX q P tab im ds (⟨some d,.convert t1 t2 x,ty,pos,after,none⟩ :: l) E H K:=by
 refine za (t:=strT xs) ?_ k
 simp only [opM,hx,mConv,hT,hj,hk,hj2,he,hr,hb]
 rw [if_pos hl,hc,zbm]
theorem xw [Dr] {t m : Nat} {x ix : Operand} {i : TyI} {xs : List UInt8} {k : IntKind} {z : Int} {b : UInt8} (hT : tab t = some i) (hk : i.k = .str) (hx : E.opd x = some (strT xs)) (hi : E.opd ix = some (.v (.int k z))) (hz : z = (m : Int)) (hb : xs[m]? = some b)
  (kk : VX q P tab im ds l ((d,U8 (b.toNat : Int)) :: E) H K) : VX q P tab im ds (⟨some d,.index t x ix,ty,pos,after,none⟩ :: l) E H K:=by
 refine za (t:=U8 (b.toNat : Int)) ?_ kk
 subst hz
 have hs : (⟨xs.toArray⟩ : ByteArray)[m]? = some b:=by
  obtain ⟨h1,h2⟩:=List.getElem?_eq_some_iff.1 hb
  rw [getElem?_pos (⟨xs.toArray⟩ : ByteArray) m (by exact h1)]
  congr 1
 simp only [opM,hx,hi,mIndex,hT,hk,Int.natCast_nonneg,if_true,Int.toNat_natCast]
 rw [hs]
theorem zaw (a b : List UInt8) : ((⟨a.toArray⟩ : ByteArray).toList == (⟨b.toArray⟩ : ByteArray).toList) = (a == b):=by
 have h : ∀ l : List UInt8,(⟨l.toArray⟩ : ByteArray).toList = l:=fun l=>by
  rw [show (⟨l.toArray⟩ : ByteArray).toList = (⟨l.toArray⟩ : ByteArray).data.toList from ByteArray.toList_eq _]
 rw [h,h]
end
theorem CallP.of_world {P : Program} {f : FuncId} {us : List Value} {args : List T} {r : T} (hp : T.pureL args = true) (hr : r.pure = true) (he : ∀ (M : Mp) vs,RepL M args vs→vs = us) (hgo : goB P f = true)
  (h : ∀ w,Calls P f us.toArray w (fun e w'=>∃ u,e = .returned u∧Below w.heap.size w w'∧∀ M : Mp,M.w = w'→(∀ B,w.heap.size≤B→¬ M.X B)→Rep M r u)) : CallP P f args r:=by
 refine ⟨hp,hr,hgo,fun X0 M vs hS hrep=>?_⟩
 obtain rfl:=he M vs hrep
 refine (h M.w).mono ?_;rintro e w' ⟨u,rfl,hb,hu⟩;have hk : ∀ B,B < M.w.heap.size→w'.heap[B]? = M.w.heap[B]?:=fun B hB=>hb.block B hB
 have hE : Evo X0 M ⟨M.β,M.X,w'⟩:=⟨fun _ _ h=>h,fun _ _ h=>h,fun B hB _=>hk B hB,fun B s hs=>by
  have : B < M.w.heap.size:=by
   rcases Nat.lt_or_ge B M.w.heap.size with h1 | h1
   ·exact h1
   ·simp [World.shape?,Array.getElem?_eq_none h1] at hs
  rw [← hs];exact xp (hk B this),hb.os,⟨hb.tape,fun d=>d.elim⟩,hb.output,hb.size⟩
 exact ⟨u,r,[],⟨M.β,M.X,w'⟩,rfl,rfl,rfl,hE,hS.world hE hk,hu _ rfl fun B hB hx=>absurd (hS.bnd B hx) (by omega)⟩
end
end Go.Proofs.YtofmninnienjhaaGreatDoor
