/-
  The proof's lemmas, part 5.
-/
import Derived.Test.YtelhkfdpkjkpjaaGreatYsd
import Derived.ChangeSlices
import Derived.ProofKit
import Derived.OpenShut
namespace Go.Proofs.YtelhkfdpkjkpjaaGreat
set_option linter.unusedSimpArgs false
set_option linter.unusedVariables false
section
open Go.RowKit
def AllI (p : Nat → Prop) : List Nat → Prop
  | [] => True
  | i :: is => p i ∧ AllI p is
theorem allI_at {p : Nat → Prop} : ∀ {is : List Nat}, AllI p is → ∀ i ∈ is, p i
  | [], _, i, h => by cases h
  | j :: is, ⟨h1, h2⟩, i, h => by
    rcases List.mem_cons.1 h with rfl | h
    · exact h1
    · exact allI_at h2 i h
def AnyV (P : Program) (tab : Tab) (im : List Nat) (l : List Oper) (K : Env → Hp → Prop) : Nat → Array Bool → Env → Hp → Prop
  | 0, listed, E, H => Region.ready .any l.toArray listed = [] ∧ K E H
  | f + 1, listed, E, H => (Region.ready .any l.toArray listed = [] → K E H) ∧
      AllI (fun i => ∃ o, l[i]? = some o ∧ VX false P tab im (l.map (·.dst)) [o] E H fun E' H' => AnyV P tab im l K f (listed.setIfInBounds i true) E' H') (Region.ready .any l.toArray listed)
section
variable {z : Bool} {P : Program} {tab : Tab} {n kb lb : Nat} {im : List Nat} {l : List Oper} {E : Env} {H : Hp} {K : Env → Hp → Prop} {X0 : Nat → Prop} {a : Act} {M : Mp}
theorem op_ok (hT : TabOk P tab) {o : Oper} {i : Nat} {KV : Env → Hp → Prop} {r : Option Nat} {Q : Exit → Act → World → Prop} {KA : Act → World → Prop} (ho : l[i]? = some o) (hd : dstB n l = true) (hs : St n kb E H X0 a M)
    (hv : VX false P tab im (l.map (·.dst)) [o] E H KV) (hK : ∀ E' H' a' M', KV E' H' → Evo X0 M M' → St n kb E' H' X0 a' M' → KA a' M'.w) : wpOpIn (FW r) 0 P l.toArray Q i KA a M.w := by
  have hdo : ∀ k, o.dst = some k → k < n := fun k hk => by
    unfold dstB at hd
    rw [List.all_eq_true] at hd
    have := hd o (List.mem_of_getElem? ho)
    rw [hk] at this; simpa using this
  have hv : vcSeq P tab im (l.toArray.toList.map (·.dst)) [o] E H (fun E' H' => ∃ E1, Sub E1 E' ∧ KV E1 H') := hv E (Sub.refl E)
  have hg := vcGuard_ok (ops := l.toArray) hs hv
  unfold wpOpIn
  simp only [List.getElem?_toArray, ho]
  split
  · rename_i hw
    rw [if_pos hw] at hg
    refine vcOp_ok hT hs hdo (fun E' H' a' M' hk he hs' => ?_) hg
    obtain ⟨E1, h1, h2⟩ := hk
    exact hK E1 H' a' M' h2 he (hs'.eqv h1)
  · rename_i hw
    rw [if_neg hw] at hg
    obtain ⟨E1, h1, h2⟩ := hg
    exact ⟨fun _ _ => trivial, hK E1 H _ M h2 (Evo.refl _ _) ((hs.put (Evo.refl _ _) hs.sim (t := .v undef) rfl hdo).eqv h1)⟩
theorem any_ok (hT : TabOk P tab) {r : Option Nat} {Q : Exit → Act → World → Prop} (hd : dstB n l = true) : ∀ (f : Nat) (listed : Array Bool) {E : Env} {H : Hp} {a : Act} {M : Mp}, St n kb E H X0 a M → (∀ E' H' a' M', K E' H' → Evo X0 M M' → St n kb E' H' X0 a' M' → Q .normal a' M'.w) → AnyV P tab im l K f listed E H → wpAnyIn (FW r) 0 P .any l.toArray Q f listed a M.w
  | 0, listed, E, H, a, M, hs, hK, hv => ⟨hv.1, hK E H a M hv.2 (Evo.refl _ _) hs⟩
  | f + 1, listed, E, H, a, M, hs, hK, hv => by
    refine ⟨fun h0 => hK E H a M (hv.1 h0) (Evo.refl _ _) hs, fun i hi => ?_⟩
    obtain ⟨o, ho, hx⟩ := allI_at hv.2 i hi
    exact op_ok hT ho hd hs hx fun E' H' a' M' k1 k2 k3 => any_ok hT hd f _ k3 (fun E2 H2 a2 M2 q1 q2 q3 => hK E2 H2 a2 M2 q1 (k2.trans q2) q3) k1
theorem VC.any {id : Nat} {QT : Exit → Env → Hp → Prop} (hT : TabOk P tab) (im : List Nat) (hm : P.follows .mixedOrders = true) (hd : dstB n l = true) (h : AnyV P tab im l (QT .normal) l.length (Array.replicate l.length false) E H) : VC z P n lb (.region id l.toArray true) QT E H := by
  intro X0 M a r0 kb hz hs
  refine wpIn_region_any hm ?_
  let M1 : Mp := ⟨M.β, M.X, { M.w with drawn := M.w.drawn + 1 }⟩
  have hE1 : Evo X0 M M1 := ⟨fun _ _ h => h, fun _ _ h => h, fun _ _ _ => rfl, fun _ _ h => h, rfl, ⟨rfl, Nat.le_succ _⟩, rfl, Nat.le_refl _⟩
  have hs1 : St n kb E H X0 a M1 := ⟨fun d t ht => by obtain ⟨u, q1, q2⟩ := hs.tm d t ht; exact ⟨u, q1, Rep.stays hE1.stays _ _ q2⟩, hs.sz, hs.df.evo hE1, hs.ge, hs.sim.world hE1 fun _ _ => rfl⟩
  exact any_ok (r := r0) (Q := Lift n kb lb X0 M QT) hT hd l.toArray.size _ hs1 (fun E' H' a' M' k1 k2 k3 => ⟨E', H', M', k1, rfl, (hE1.trans k2).toK lb, k3⟩) h
theorem VC.drwAll {id : Nat} {c : Code} {QT : Exit → Env → Hp → Prop} {Lc : Env} (hT : TabOk P tab) (im : List Nat) (hm : P.follows .mixedOrders = true) (hd : dstB n l = true) (L : Env) (H2 : Hp) (ds : List Nat) (hL : lcE E ds = some Lc)
    (h : AnyV P tab im l (fun E' H' => Conv lb E' H' (L ++ Lc) H2) l.length (Array.replicate l.length false) E H) (k : VC z P n lb c QT (L ++ Lc) H2) : VC z P n lb (.seq (.region id l.toArray true) c) QT E H :=
  VC.cutC (fun E' H' => E' = L ++ Lc ∧ H' = H2) (VC.any hT im hm hd (QT := ExThen (fun E' H' => ∃ L' H'', (L' = L ++ Lc ∧ H'' = H2) ∧ Conv lb E' H' L' H'') QT) (by
    have mono : ∀ (f : Nat) (listed : Array Bool) (E : Env) (H : Hp), AnyV P tab im l (fun E' H' => Conv lb E' H' (L ++ Lc) H2) f listed E H → AnyV P tab im l (fun E' H' => ∃ L' H'', (L' = L ++ Lc ∧ H'' = H2) ∧ Conv lb E' H' L' H'') f listed E H := by
      intro f
      induction f with
      | zero => intro listed E H h; exact ⟨h.1, _, _, ⟨rfl, rfl⟩, h.2⟩
      | succ f ih =>
        intro listed E H h
        refine ⟨fun h0 => ⟨_, _, ⟨rfl, rfl⟩, h.1 h0⟩, ?_⟩
        have hh := h.2
        generalize Region.ready .any l.toArray listed = rs at hh
        induction rs with
        | nil => trivial
        | cons i rs ihr =>
          obtain ⟨⟨o, ho, hx⟩, h3⟩ := hh
          refine ⟨⟨o, ho, fun E2 hE2 => ?_⟩, ihr h3⟩
          exact vcSeq_mono' _ (fun E' H' ⟨E1, q1, q2⟩ => ⟨E1, q1, ih _ _ _ q2⟩) (hx E2 hE2)
    exact mono _ _ _ _ h)) fun E' H' ⟨h1, h2⟩ => by subst h1 h2; exact k
theorem AnyV.more {f : Nat} {listed : Array Bool} (is : List Nat) (hr : Region.ready .any l.toArray listed = is) (hn : is ≠ []) (h : AllI (fun i => ∃ o, l[i]? = some o ∧ VX false P tab im (l.map (·.dst)) [o] E H fun E' H' => AnyV P tab im l K f (listed.setIfInBounds i true) E' H') is) : AnyV P tab im l K (f + 1) listed E H :=
  ⟨fun h0 => absurd (hr.symm.trans h0) hn, by rw [hr]; exact h⟩
theorem AnyV.fin {f : Nat} {listed : Array Bool} (hr : Region.ready .any l.toArray listed = []) (h : K E H) : AnyV P tab im l K f listed E H := by
  cases f with
  | zero => exact ⟨hr, h⟩
  | succ f => exact ⟨fun _ => h, by rw [hr]; trivial⟩
theorem allI_cons {p : Nat → Prop} {i : Nat} {is : List Nat} (h : p i) (k : AllI p is) : AllI p (i :: is) := ⟨h, k⟩
theorem anyV_op {p : Oper → Prop} {i : Nat} {o : Oper} (ho : l[i]? = some o) (h : p o) : ∃ o, l[i]? = some o ∧ p o := ⟨o, ho, h⟩
end
end
section
open Go.RowKit Go.Sort
set_option maxRecDepth 10000
end
section
open Go.RowKit Go.Sort
set_option maxRecDepth 10000
end
section
open Go.RowKit Go.Sort
set_option maxRecDepth 10000
set_option maxHeartbeats 4000000
section
variable {q : Bool} {P : Program} {tab : Tab} {im : List Nat} {ds : List (Option Nat)} {l : List Oper} {E : Env} {H : Hp} {K : Env → Hp → Prop} {d : Nat} {ty : TypeId} {pos : String} {after : Array Edge}
theorem VX.quo {x y : Operand} {t t2 : Nat} {a c : Int} (hx : E.opd x = some (I64 a)) (hy : E.opd y = some (I64 c)) (ha : 0 ≤ a) (ha2 : a ≤ 9000000000000000000) (hc : 0 < c) (k : VX q P tab im ds l ((d, I64 (a / c)) :: E) H K) : VX q P tab im ds (⟨some d, .binOp .quo t x y t2, ty, pos, after, none⟩ :: l) E H K := by
  refine VX.meek (t := I64 (a / c)) ?_ k
  have h1 : a / c ≤ a := Int.ediv_le_self c ha
  have h2 : 0 ≤ a / c := Int.ediv_nonneg ha (by omega)
  have hc' : ¬ c = 0 := by omega
  simp only [opM, hx, hy, mBin, binInt]
  rw [if_neg hc', Int.tdiv_eq_ediv_of_nonneg ha, wrap_in (by omega)]
  rfl
theorem VX.rem {x y : Operand} {t t2 : Nat} {a c : Int} (hx : E.opd x = some (I64 a)) (hy : E.opd y = some (I64 c)) (ha : 0 ≤ a) (hc : 0 < c) (k : VX q P tab im ds l ((d, I64 (a % c)) :: E) H K) : VX q P tab im ds (⟨some d, .binOp .rem t x y t2, ty, pos, after, none⟩ :: l) E H K := by
  refine VX.meek (t := I64 (a % c)) ?_ k
  have hc' : ¬ c = 0 := by omega
  simp only [opM, hx, hy, mBin, binInt]
  rw [if_neg hc', Int.tmod_eq_emod_of_nonneg ha]
  rfl
end
abbrev plP (w h : Nat) (px : List Int) : T := .iptr (plC w h px (.islc (encL cU px) px.length none)) 0
theorem plC_pure (w h : Nat) (px : List Int) : T.pureL (plC w h px (.islc (encL cU px) px.length none)) = true := by simp only [T.pureL, T.pure, encL_pure]; rfl
theorem planeOf_p (w h : Nat) (px : List Int) (hw : w ≤ 128) (hh : h ≤ 128) (hl : px.length = w * h) (hb : ∀ v ∈ px, 0 ≤ v ∧ v < 256) : CallP Tryz.prog 66 [gT w h px] (plP w h px) :=
  CallP.intro2 (by simp only [T.pureL, T.pure, encL_pure]; rfl) (plC_pure w h px) ((planeOf_t w h px hw hh hl hb).mono fun t H' ⟨h1, h2⟩ => by
    subst h1 h2; exact Cv.iptr (cv_pl (Cv.pure (encL_pure cU _)) (Cv.fslc0 ⟨rfl, by simp⟩ (CvL.pure (encL_pure cU _)))))
theorem reg_pure (l : List Rect) : T.pureL [.islc (encL cR l) l.length none] = true := by simp only [T.pureL, T.pure, encL_pure, Bool.and_self]
theorem plP_pure (w h : Nat) (px : List Int) : T.pureL [plP w h px] = true := by simp only [T.pureL, T.pure, encL_pure]; rfl
end
section
open Go.RowKit Go.Sort
set_option maxRecDepth 10000
end
section
open Go.RowKit Go.Sort
set_option maxRecDepth 10000
section
variable {P : Program} {tab : Tab} {im : List Nat} {ops : Array Oper} {l : List Oper} {E : Env} {Hm F : Hp} {K : Env → Hp → Prop} {wd : List Bool} {d : Nat} {ty : TypeId} {pos : String} {after : Array Edge}
theorem VD.add {x y : Operand} {t t2 : Nat} {a b : Int} (hx : E.opd x = some (I64 a)) (hy : E.opd y = some (I64 b)) (h : -9223372036854775808 ≤ a + b ∧ a + b ≤ 9223372036854775807) (k : VD P tab im ops Hm l wd ((d, I64 (a + b)) :: E) F K) : VD P tab im ops Hm (⟨some d, .binOp .add t x y t2, ty, pos, after, none⟩ :: l) (false :: wd) E F K :=
  VD.meek (t := I64 (a + b)) (by simp only [opM, hx, hy, mBin, binInt, wrap_in h]; rfl) k
theorem VD.mul {x y : Operand} {t t2 : Nat} {a b : Int} (hx : E.opd x = some (I64 a)) (hy : E.opd y = some (I64 b)) (h : -9223372036854775808 ≤ a * b ∧ a * b ≤ 9223372036854775807) (k : VD P tab im ops Hm l wd ((d, I64 (a * b)) :: E) F K) : VD P tab im ops Hm (⟨some d, .binOp .mul t x y t2, ty, pos, after, none⟩ :: l) (false :: wd) E F K :=
  VD.meek (t := I64 (a * b)) (by simp only [opM, hx, hy, mBin, binInt, wrap_in h]; rfl) k
end
def atG (w h : Nat) (px : List Int) (x y : Int) : Int := if inB' w h x y = true then px[(y * w + x).toNat]! else 0
theorem inB_iff {w h : Nat} {x y : Int} : inB' w h x y = true ↔ 0 ≤ x ∧ x < w ∧ 0 ≤ y ∧ y < h := by unfold inB'; simp only [Bool.and_eq_true, decide_eq_true_eq]; omega
theorem mApp_empty {tab : Tab} {H : Hp} {t1 t2 : Nat} {y : T} {i j : TyI} {e n2 : Nat} {ys : List T} {cs : List T} (hT : tab t1 = some i) (hk : i.k = .sl e) (hj : tab e = some j) (hs : srcCells tab (lookH H) t2 j.sz y = some (ys, n2)) (h2 : n2 * j.by_ ≤ 2 ^ 47) (h3 : n2 ≤ 2 ^ 47) (h4 : n2 * j.sz = ys.length) :
    mAppend tab H t1 t2 (.islc cs 0 (some 0)) y = some (.slc H.length 0 n2 j.sz none, H ++ [.c ys]) := by
  simp only [mAppend, hT, hk, hj, hs]
  rw [if_pos ⟨h2, h3, h4⟩]
end
section
open Go.RowKit Go.Sort
set_option maxRecDepth 10000
end
section
open Go.RowKit Go.Sort
set_option maxRecDepth 10000
end
section
open Go.RowKit Go.Sort
set_option maxRecDepth 10000
theorem gnew_p (w h : Nat) (p : Int) (hw : 1 ≤ w ∧ w ≤ 128) (hh : 1 ≤ h ∧ h ≤ 128) : CallP Tryz.prog 62 [I64 w, I64 h, U8 p] (.tup [gT w h (List.replicate (w * h) p), I64 0]) := new_yes w h p hw hh
theorem gset_n (w h : Nat) (px : List Int) (n : Nat) (hn : px.length = n) (x y p : Int) (hw : w ≤ 128) (hh : h ≤ 128) (hl : px.length = w * h) (hb : ∀ v ∈ px, 0 ≤ v ∧ v < 256) (hx : 0 ≤ x ∧ x < w) (hy : 0 ≤ y ∧ y < h) :
    CallP Tryz.prog 63 [.agg [I64 w, I64 h, .islc (encL cU px) n none], I64 x, I64 y, U8 p] (.agg [I64 w, I64 h, .islc (encL cU (px.set (y * w + x).toNat p)) n none]) := by
  have k := gset_p ⟨w, h, px⟩ ⟨hw, hh, hl, hb⟩ x y p
  have e : Pic.set ⟨w, h, px⟩ x y p = ⟨w, h, px.set (y * w + x).toNat p⟩ := if_pos (show inB' w h x y = true from inB_iff.2 ⟨hx.1, hx.2, hy.1, hy.2⟩)
  rw [e] at k
  subst hn
  have k2 : CallP Tryz.prog 63 [gT w h px, I64 x, I64 y, U8 p] (gT w h (px.set (y * w + x).toNat p)) := k
  simp only [gT, List.length_set] at k2
  exact k2
theorem gat_p (w h : Nat) (px : List Int) (x y : Int) (hw : w ≤ 128) (hh : h ≤ 128) (hl : px.length = w * h) (hb : ∀ v ∈ px, 0 ≤ v ∧ v < 256) : CallP Tryz.prog 48 [gT w h px, I64 x, I64 y] (U8 (atG w h px x y)) := at_p ⟨w, h, px⟩ ⟨hw, hh, hl, hb⟩ x y
theorem repl_at (n i : Nat) : (List.replicate n (0 : Int))[i]! = 0 := by
  rw [List.getElem!_eq_getElem?_getD, List.getElem?_replicate]; split <;> rfl
end
section
open Go.RowKit Go.Sort
set_option maxRecDepth 10000
section
variable {q : Bool} {P : Program} {tab : Tab} {im : List Nat} {ds : List (Option Nat)} {l : List Oper} {E : Env} {H : Hp} {K : Env → Hp → Prop} {d : Nat} {ty : TypeId} {pos : String} {after : Array Edge}
theorem VX.remU {x y : Operand} {t t2 : Nat} {a c : Int} (hx : E.opd x = some (U8 a)) (hy : E.opd y = some (U8 c)) (ha : 0 ≤ a) (hc : 0 < c) (k : VX q P tab im ds l ((d, U8 (a % c)) :: E) H K) : VX q P tab im ds (⟨some d, .binOp .rem t x y t2, ty, pos, after, none⟩ :: l) E H K := by
  refine VX.meek (t := U8 (a % c)) ?_ k
  have hc' : ¬ c = 0 := by omega
  simp only [opM, hx, hy, mBin, binInt]
  rw [if_neg hc', Int.tmod_eq_emod_of_nonneg ha]
  rfl
end
abbrev I8 (n : Int) : T := .v (.int .i8 n)
def cS : Cd Rect := ⟨4, fun s => [I8 s.X, I8 s.Y, U8 s.W, U8 s.H], fun _ => rfl, fun _ => rfl, fun _ => rfl, by decide⟩
theorem cS_sz : cS.sz = 4 := rfl
theorem au_sS {p : Prop} (h : p := by first | rfl | exact Nat.le_of_ble_eq_true rfl | omega | (simp only [encL_len, List.length_append, List.length_cons, List.length_nil, List.length_replicate, Nat.zero_add, cI_sz, cU_sz, cR_sz, cLR_sz, cS_sz]; omega) | (simp [encL_len, cI_sz, cU_sz, cR_sz, cLR_sz, cS_sz]; done) | (simp [encL_len, cI_sz, cU_sz, cR_sz, cLR_sz, cS_sz]; omega)) : p := h
abbrev smallT (s : Rect) : T := .agg [I8 s.X, I8 s.Y, U8 s.W, U8 s.H]
def smR (s : Rect) : Rect := ⟨s.X, s.Y, s.W % 32, s.H % 32⟩
def smOk (s : Rect) : Prop := -128 ≤ s.X ∧ s.X ≤ 127 ∧ -128 ≤ s.Y ∧ s.Y ≤ 127 ∧ 0 ≤ s.W ∧ s.W < 256 ∧ 0 ≤ s.H ∧ s.H < 256
theorem small_p (s : Rect) (h : smOk s) : CallP Tryz.prog 38 [smallT s] (rectT (smR s)) := by
  unfold smOk at h
  unfold smR
  refine CallP.intro2 au_pu au_pu ?_
  refine CallT.intro tab_ok Tryz.func38 rfl (by kernel_rfl) (Nat.le_of_ble_eq_true rfl) ?_
  refine VC.reg tab_ok [1] rfl ?_
  refine VX.newI rfl rfl ?_
  refine VX.new rfl rfl ?_
  refine VX.nil ?_
  refine VC.reg tab_ok [] rfl ?_
  refine VX.meek rfl ?_
  first | refine VX.meek rfl ?_ | refine VX.loadI rfl rfl au_l ?_ | refine VX.loadP rfl rfl rfl au_l ?_
  refine VX.meek (t := I64 s.X) (by show some (T.v (.int .i64 (IntKind.i64.wrap s.X)), (none : Option (Nat × List T))) = _; rw [wrap_in (by omega)]) ?_
  refine VX.meek rfl ?_
  first | refine VX.meek rfl ?_ | refine VX.loadI rfl rfl au_l ?_ | refine VX.loadP rfl rfl rfl au_l ?_
  refine VX.meek (t := I64 s.Y) (by show some (T.v (.int .i64 (IntKind.i64.wrap s.Y)), (none : Option (Nat × List T))) = _; rw [wrap_in (by omega)]) ?_
  refine VX.meek rfl ?_
  first | refine VX.meek rfl ?_ | refine VX.loadI rfl rfl au_l ?_ | refine VX.loadP rfl rfl rfl au_l ?_
  refine VX.remU rfl rfl (by omega) (by omega) ?_
  refine VX.meek (t := I64 (s.W % 32)) (by show some (T.v (.int .i64 (IntKind.i64.wrap (s.W % 32))), (none : Option (Nat × List T))) = _; rw [wrap_in (by omega)]) ?_
  refine VX.meek rfl ?_
  first | refine VX.meek rfl ?_ | refine VX.loadI rfl rfl au_l ?_ | refine VX.loadP rfl rfl rfl au_l ?_
  refine VX.remU rfl rfl (by omega) (by omega) ?_
  refine VX.meek (t := I64 (s.H % 32)) (by show some (T.v (.int .i64 (IntKind.i64.wrap (s.H % 32))), (none : Option (Nat × List T))) = _; rw [wrap_in (by omega)]) ?_
  refine VX.meek rfl ?_
  refine VX.store rfl rfl rfl rfl rfl au_sS rfl ?_
  refine VX.nil ?_
  refine VC.ret ?_
  exact ⟨trivial, _, rfl, Cv.eq rfl rfl⟩
theorem small_bd {s : Rect} (h : smOk s) : -128 ≤ (smR s).X ∧ (smR s).X ≤ 127 ∧ -128 ≤ (smR s).Y ∧ (smR s).Y ≤ 127 ∧ 0 ≤ (smR s).W ∧ (smR s).W ≤ 31 ∧ 0 ≤ (smR s).H ∧ (smR s).H ≤ 31 := by
  unfold smOk at h; unfold smR; dsimp only; omega
theorem app_rect {l : List Rect} {tl xs : List T} {r : Rect} {n : Nat} (hn : n = l.length) (hx : xs = cR.cells r) : ((encL cR l ++ tl).drop 0).take (n * 4) ++ xs = encL cR (l ++ [r]) ++ [] := by
  subst hn hx
  rw [List.append_nil, List.drop_zero, show l.length * 4 = (encL cR l).length from by rw [encL_len, cR_sz], List.take_left, encL_append]
  simp [encL]
theorem rects17_p (l : List Rect) (hn : l.length ≤ 1048576) (hl : ∀ s ∈ l, smOk s) : CallP Tryz.prog 37 [.islc (encL cS l) l.length none] (.islc (encL cR (l.map smR)) (l.map smR).length none) := by
  refine CallP.intro2 au_pu au_pu ?_
  refine CallT.intro tab_ok Tryz.func37 rfl (by kernel_rfl) (Nat.le_of_ble_eq_true rfl) ?_
  refine VC.reg tab_ok [] rfl ?_
  refine VX.meek rfl ?_
  refine VX.nil ?_
  refine VC.reg tab_ok [] rfl ?_
  refine VX.meek rfl ?_
  refine VX.nil ?_
  refine VC.seq ?_
  refine VC.reg tab_ok [] rfl ?_
  iterate 3 refine VX.meek rfl ?_
  refine VX.nil ?_
  refine VC.block ?_
  refine VC.loopS2 (σ1 := Nat) (σ2 := List T) (fun k _ => l.length - k) (fun k tl => k ≤ l.length ∧ T.pureL tl = true) (fun k _ => [(8, I64 k), (3, .slc 0 0 ((l.take k).map smR).length 4 none)]) (fun k tl => [.c (encL cR ((l.take k).map smR) ++ tl)]) [6, 7] rfl (0) ([]) ?_ ?_ ?_
  · refine ⟨[none], rfl, by first | trivial | decide, rfl, ?_, ?_⟩ <;> (repeat' first | exact trivial | exact CvB_n | exact CvB_d | refine CvE_app ?_ ?_ | refine CvE_cons rfl ?_ ?_ | refine CvH_cons ?_ ?_ | refine CvB_c rfl ?_ | fail) <;> first | exact au_v | (skip)
  · exact ⟨by omega, rfl⟩
  rintro k tl ⟨hk, htl⟩
  refine VC.reg tab_ok [] rfl ?_
  refine VX.meek rfl ?_
  refine VX.nil ?_
  refine VC.seq ?_
  refine VC.cond rfl (fun hc0 => ?_) (fun hc0 => ?_)
  · (try simp only [au_std] at hc0); have hkl : k < l.length := (by omega); have hok := hl l[k]! (List.mem_iff_getElem?.2 ⟨k, getE hkl⟩); have hsn : (l.take (k + 1)).map smR = (l.take k).map smR ++ [smR l[k]!] := (by rw [take_snoc hkl, List.map_append]; rfl); have hlen : ((l.take k).map smR).length = k := (by rw [List.length_map, List.length_take]; omega)
    refine VC.skip ?_
    refine VC.seq ?_
    refine VC.block ?_
    refine VC.reg tab_ok [] rfl ?_
    first | refine VX.idxI rfl rfl rfl rfl rfl rfl (by omega) ?_ | refine VX.idxO0 rfl rfl rfl rfl rfl rfl rfl (by omega) ?_ | refine VX.idxO0 rfl rfl rfl rfl rfl rfl au_z (by omega) ?_ | refine VX.idxO rfl rfl rfl rfl rfl rfl rfl (by omega) ?_ | refine VX.idxI rfl rfl rfl rfl rfl au_z (by omega) ?_ | refine VX.idxO rfl rfl rfl rfl rfl rfl au_z (by omega) ?_ | refine VX.meek rfl ?_
    first | refine VX.meek rfl ?_ | refine VX.loadI rfl rfl au_l ?_ | refine VX.loadP rfl rfl rfl au_l ?_
    refine VX.new rfl rfl ?_
    refine VX.store rfl rfl rfl rfl rfl au_sS rfl ?_
    refine VX.nil ?_
    refine VC.regN tab_ok [15] rfl ?_
    refine VX.meek rfl ?_
    first | refine VX.meek rfl ?_ | refine VX.loadI rfl rfl au_l ?_ | refine VX.loadP rfl rfl rfl au_l ?_
    refine VX.callP0 rfl rfl rfl (small_p l[k]! hok) ?_
    refine VX.newI rfl rfl ?_
    first | refine VX.appendNil rfl rfl rfl rfl rfl rfl au_sS au_sS au_sS ?_ | refine VX.append rfl rfl rfl rfl rfl rfl rfl rfl au_sS au_sS au_sS au_sS au_sS ?_
    refine VX.meek rfl ?_
    refine VX.nil ?_
    refine VC.regN tab_ok [] rfl ?_
    first | refine VX.add rfl rfl (by omega) ?_ | refine VX.meek rfl ?_
    refine VX.meek rfl ?_
    refine VX.nil ?_
    refine ⟨k + 1, [], by (try dsimp only); omega, ?_, (by refine ⟨[some 2], rfl, by first | trivial | decide, rfl, ?_, ?_⟩ <;> (repeat' first | exact trivial | exact CvB_n | exact CvB_d | refine CvE_app ?_ ?_ | refine CvE_cons rfl ?_ ?_ | refine CvH_cons ?_ ?_ | refine CvB_c rfl ?_ | fail) <;> first | exact au_v | (first | exact Cv.slcE rfl (by rw [hsn, List.length_append]; rfl) (.inl rfl) | (rw [hsn]; exact CvL.eq (app_rect rfl rfl) (by rw [List.append_nil]; exact encL_pure cR _))))⟩
    exact ⟨by omega, rfl⟩
  · (try simp only [au_std] at hc0); obtain rfl : k = l.length := (by omega); rw [List.take_length]
    refine VC.exit ?_
    refine VC.reg tab_ok [] rfl ?_
    iterate 2 refine VX.meek rfl ?_
    refine VX.nil ?_
    refine VC.ret ?_
    exact ⟨trivial, _, rfl, Cv.fslcA ⟨rfl, by simp⟩ (CvL.pure (encL_pure cR _))⟩
theorem in17_p (l : List Rect) (x y : Int) (hn : l.length ≤ 1048576) (hl : ∀ s ∈ l, smOk s) : CallP Tryz.prog 45 [.islc (encL cS l) l.length none, I64 x, I64 y] (BL (decide (inL (l.map smR) x y))) := by
  refine CallP.intro2 au_pu au_pu ?_
  refine CallT.intro tab_ok Tryz.func45 rfl (by kernel_rfl) (Nat.le_of_ble_eq_true rfl) ?_
  refine VC.reg tab_ok [] rfl ?_
  refine VX.meek rfl ?_
  refine VX.nil ?_
  refine VC.seq ?_
  refine VC.reg tab_ok [] rfl ?_
  iterate 3 refine VX.meek rfl ?_
  refine VX.nil ?_
  refine VC.block ?_
  refine VC.loopS (σ := Nat) (fun k => l.length - k) (fun k => k ≤ l.length ∧ ¬ inL ((l.take k).map smR) x y) (fun k => [(12, I64 k)]) (fun _ => []) [1, 2, 10, 11] rfl (0) ?_ ?_ ?_
  · refine ⟨[], rfl, by first | trivial | decide, rfl, ?_, ?_⟩ <;> (repeat' first | exact trivial | exact CvB_n | exact CvB_d | refine CvE_app ?_ ?_ | refine CvE_cons rfl ?_ ?_ | refine CvH_cons ?_ ?_ | refine CvB_c rfl ?_ | fail) <;> first | exact au_v | (skip)
  · exact ⟨by omega, inL_nil⟩
  rintro k ⟨hk, hno⟩
  refine VC.reg tab_ok [] rfl ?_
  refine VX.meek rfl ?_
  refine VX.nil ?_
  refine VC.seq ?_
  refine VC.cond rfl (fun hc0 => ?_) (fun hc0 => ?_)
  · (try simp only [au_std] at hc0); have hkl : k < l.length := (by omega); have hok := hl l[k]! (List.mem_iff_getElem?.2 ⟨k, getE hkl⟩); have hsn : (l.take (k + 1)).map smR = (l.take k).map smR ++ [smR l[k]!] := (by rw [take_snoc hkl, List.map_append]; rfl); have hbd := small_bd hok; have hme : smR l[k]! ∈ l.map smR := List.mem_map.2 ⟨_, List.mem_iff_getElem?.2 ⟨k, getE hkl⟩, rfl⟩
    refine VC.skip ?_
    refine VC.seq ?_
    refine VC.block ?_
    refine VC.reg tab_ok [] rfl ?_
    first | refine VX.idxI rfl rfl rfl rfl rfl rfl (by omega) ?_ | refine VX.idxO0 rfl rfl rfl rfl rfl rfl rfl (by omega) ?_ | refine VX.idxO0 rfl rfl rfl rfl rfl rfl au_z (by omega) ?_ | refine VX.idxO rfl rfl rfl rfl rfl rfl rfl (by omega) ?_ | refine VX.idxI rfl rfl rfl rfl rfl au_z (by omega) ?_ | refine VX.idxO rfl rfl rfl rfl rfl rfl au_z (by omega) ?_ | refine VX.meek rfl ?_
    first | refine VX.meek rfl ?_ | refine VX.loadI rfl rfl au_l ?_ | refine VX.loadP rfl rfl rfl au_l ?_
    refine VX.new rfl rfl ?_
    refine VX.store rfl rfl rfl rfl rfl au_sS rfl ?_
    refine VX.nil ?_
    refine VC.reg tab_ok [] rfl ?_
    first | refine VX.meek rfl ?_ | refine VX.loadI rfl rfl au_l ?_ | refine VX.loadP rfl rfl rfl au_l ?_
    refine VX.callP0 rfl rfl rfl (small_p l[k]! hok) ?_
    refine VX.new rfl rfl ?_
    refine VX.store rfl rfl rfl rfl rfl au_sS rfl ?_
    refine VX.nil ?_
    refine VC.reg tab_ok [] rfl ?_
    iterate 2 refine VX.meek rfl ?_
    first | refine VX.meek rfl ?_ | refine VX.loadI rfl rfl au_l ?_ | refine VX.loadP rfl rfl rfl au_l ?_
    iterate 2 refine VX.meek rfl ?_
    refine' VX.merge (d := 30) [_, _, _, _, _, _, _, _] rfl ?_ rfl ?_
    rotate_left
    · refine VX.guard rfl rfl (fun hb5_4 => ?_) (fun hb5_4 => ?_)
      · have ghb5_4 := hb5_4
        try simp only [au_std, Bool.not_true, Bool.not_false] at ghb5_4
        refine VX.meek rfl ?_
        refine VX.guardT rfl rfl hb5_4 ?_
        refine VX.meek rfl ?_
        refine VX.guardT rfl rfl hb5_4 ?_
        first | refine VX.meek rfl ?_ | refine VX.loadI rfl rfl au_l ?_ | refine VX.loadP rfl rfl rfl au_l ?_
        refine VX.guardT rfl rfl hb5_4 ?_
        refine VX.meek rfl ?_
        refine VX.guardT rfl rfl hb5_4 ?_
        first | refine VX.meek rfl ?_ | refine VX.loadI rfl rfl au_l ?_ | refine VX.loadP rfl rfl rfl au_l ?_
        refine VX.guardT rfl rfl hb5_4 ?_
        first | refine VX.add rfl rfl (by omega) ?_ | refine VX.meek rfl ?_
        refine VX.guardT rfl rfl hb5_4 ?_
        refine VX.meek rfl ?_
        refine VX.pickA rfl (fun _ => rfl) ?_
        exact VX.nil ⟨rfl, rfl⟩
      · refine VX.guardF rfl rfl hb5_4 ?_
        refine VX.guardF rfl rfl hb5_4 ?_
        refine VX.guardF rfl rfl hb5_4 ?_
        refine VX.guardF rfl rfl hb5_4 ?_
        refine VX.guardF rfl rfl hb5_4 ?_
        refine VX.guardF rfl rfl hb5_4 ?_
        exact VX.pickA rfl (fun h => absurd (h.symm.trans hb5_4) (by decide)) (VX.nil ⟨rfl, rfl⟩)
    refine VX.meek rfl ?_
    refine' VX.merge (d := 36) [_, _, _, _, _] rfl ?_ rfl ?_
    rotate_left
    · refine VX.guard rfl rfl (fun hb5_13 => ?_) (fun hb5_13 => ?_)
      · have ghb5_13 := hb5_13
        try simp only [au_std, Bool.not_true, Bool.not_false] at ghb5_13
        refine VX.meek rfl ?_
        refine VX.guardT rfl rfl hb5_13 ?_
        refine VX.meek rfl ?_
        refine VX.guardT rfl rfl hb5_13 ?_
        first | refine VX.meek rfl ?_ | refine VX.loadI rfl rfl au_l ?_ | refine VX.loadP rfl rfl rfl au_l ?_
        refine VX.guardT rfl rfl hb5_13 ?_
        refine VX.meek rfl ?_
        refine VX.pickA rfl (fun _ => rfl) ?_
        exact VX.nil ⟨rfl, rfl⟩
      · refine VX.guardF rfl rfl hb5_13 ?_
        refine VX.guardF rfl rfl hb5_13 ?_
        refine VX.guardF rfl rfl hb5_13 ?_
        exact VX.pickA rfl (fun h => absurd (h.symm.trans hb5_13) (by decide)) (VX.nil ⟨rfl, rfl⟩)
    refine VX.meek rfl ?_
    refine' VX.merge (d := 45) [_, _, _, _, _, _, _, _] rfl ?_ rfl ?_
    rotate_left
    · refine VX.guard rfl rfl (fun hb5_19 => ?_) (fun hb5_19 => ?_)
      · have ghb5_19 := hb5_19
        try simp only [au_std, Bool.not_true, Bool.not_false] at ghb5_19
        refine VX.meek rfl ?_
        refine VX.guardT rfl rfl hb5_19 ?_
        refine VX.meek rfl ?_
        refine VX.guardT rfl rfl hb5_19 ?_
        first | refine VX.meek rfl ?_ | refine VX.loadI rfl rfl au_l ?_ | refine VX.loadP rfl rfl rfl au_l ?_
        refine VX.guardT rfl rfl hb5_19 ?_
        refine VX.meek rfl ?_
        refine VX.guardT rfl rfl hb5_19 ?_
        first | refine VX.meek rfl ?_ | refine VX.loadI rfl rfl au_l ?_ | refine VX.loadP rfl rfl rfl au_l ?_
        refine VX.guardT rfl rfl hb5_19 ?_
        first | refine VX.add rfl rfl (by omega) ?_ | refine VX.meek rfl ?_
        refine VX.guardT rfl rfl hb5_19 ?_
        refine VX.meek rfl ?_
        refine VX.pickA rfl (fun _ => rfl) ?_
        exact VX.nil ⟨rfl, rfl⟩
      · refine VX.guardF rfl rfl hb5_19 ?_
        refine VX.guardF rfl rfl hb5_19 ?_
        refine VX.guardF rfl rfl hb5_19 ?_
        refine VX.guardF rfl rfl hb5_19 ?_
        refine VX.guardF rfl rfl hb5_19 ?_
        refine VX.guardF rfl rfl hb5_19 ?_
        exact VX.pickA rfl (fun h => absurd (h.symm.trans hb5_19) (by decide)) (VX.nil ⟨rfl, rfl⟩)
    refine VX.nil ?_
    refine VC.cond rfl (fun hc1 => ?_) (fun hc1 => ?_)
    · (try simp only [au_std] at hc1); have hy : inL (l.map smR) x y := ⟨_, hme, by unfold Rect.has; omega⟩
      refine VC.reg tab_ok [] rfl ?_
      refine VX.meek rfl ?_
      refine VX.nil ?_
      refine VC.ret ?_
      exact ⟨trivial, _, rfl, Cv.eq (congrArg BL (decide_eq_true hy).symm) rfl⟩
    · (try simp only [au_std] at hc1); have hn1 : ¬ (smR l[k]!).has x y := (fun hh => by unfold Rect.has at hh; have := hc1 ⟨⟨hh.1, hh.2.1⟩, hh.2.2.1⟩; omega)
      refine VC.skip ?_
      refine VC.regN tab_ok [] rfl ?_
      first | refine VX.add rfl rfl (by omega) ?_ | refine VX.meek rfl ?_
      refine VX.meek rfl ?_
      refine VX.nil ?_
      refine ⟨k + 1, by (try dsimp only); omega, ?_, (by refine ⟨[], rfl, by first | trivial | decide, rfl, ?_, ?_⟩ <;> (repeat' first | exact trivial | exact CvB_n | exact CvB_d | refine CvE_app ?_ ?_ | refine CvE_cons rfl ?_ ?_ | refine CvH_cons ?_ ?_ | refine CvB_c rfl ?_ | fail) <;> first | exact au_v | (fail))⟩
      refine ⟨by omega, ?_⟩; rw [hsn, inL_append, inL_cons]; intro hh; rcases hh with hh | hh | hh; exact hno hh; exact hn1 hh; exact inL_nil hh
  · (try simp only [au_std] at hc0); obtain rfl : k = l.length := (by omega); rw [List.take_length] at hno
    refine VC.exit ?_
    refine VC.reg tab_ok [] rfl ?_
    refine VX.meek rfl ?_
    refine VX.nil ?_
    refine VC.ret ?_
    exact ⟨trivial, _, rfl, Cv.eq (congrArg BL (decide_eq_false hno).symm) rfl⟩
def toR (s : Rect) (x y : Int) : Rect := ⟨x, y, s.W, s.H⟩
def noneB (s : Rect) (x y : Int) : Bool := !countsB s || !countsB (toR s x y)
theorem coord24_p (n : Int) : CallP Tryz.prog 136 [I64 n] (BL (decide (-1048576 ≤ n) && decide (n ≤ 1048576))) := by
  refine CallP.intro2 au_pu au_pu ?_
  refine CallT.intro tab_ok Tryz.func136 rfl (by kernel_rfl) (Nat.le_of_ble_eq_true rfl) ?_
  refine VC.reg tab_ok [] rfl ?_
  refine VX.meek rfl ?_
  refine VX.nil ?_
  refine VC.reg tab_ok [] rfl ?_
  iterate 3 refine VX.meek rfl ?_
  refine' VX.merge (d := 8) [_, _, _] rfl ?_ rfl ?_
  rotate_left
  · refine VX.guard rfl rfl (fun hb1_2 => ?_) (fun hb1_2 => ?_)
    · have ghb1_2 := hb1_2
      try simp only [au_std, Bool.not_true, Bool.not_false] at ghb1_2
      refine VX.meek rfl ?_
      refine VX.guardT rfl rfl hb1_2 ?_
      refine VX.meek rfl ?_
      refine VX.pickA rfl (fun _ => rfl) ?_
      exact VX.nil ⟨rfl, rfl⟩
    · refine VX.guardF rfl rfl hb1_2 ?_
      exact VX.pickA rfl (fun h => absurd (h.symm.trans hb1_2) (by decide)) (VX.nil ⟨rfl, rfl⟩)
  refine VX.meek rfl ?_
  refine VX.nil ?_
  refine VC.ret ?_
  exact ⟨trivial, _, rfl, Cv.eq (by first | rfl | (simp [*]; done)) rfl⟩
theorem counts24_p (r : Rect) (hx : i64 r.X) (hy : i64 r.Y) (hw : i64 r.W) (hh : i64 r.H) : CallP Tryz.prog 97 [rectT r] (BL (countsB r)) := by
  unfold i64 at hx hy hw hh
  refine CallP.intro2 au_pu au_pu ?_
  refine CallT.intro tab_ok Tryz.func97 rfl (by kernel_rfl) (Nat.le_of_ble_eq_true rfl) ?_
  refine VC.reg tab_ok [1] rfl ?_
  refine VX.newI rfl rfl ?_
  refine VX.meek rfl ?_
  refine VX.nil ?_
  refine VC.reg tab_ok [] rfl ?_
  refine VX.meek rfl ?_
  first | refine VX.meek rfl ?_ | refine VX.loadI rfl rfl au_l ?_ | refine VX.loadP rfl rfl rfl au_l ?_
  iterate 2 refine VX.meek rfl ?_
  refine' VX.merge (d := 10) [_, _, _, _] rfl ?_ rfl ?_
  rotate_left
  · refine VX.guard rfl rfl (fun hb1_3 => ?_) (fun hb1_3 => ?_)
    · have ghb1_3 := hb1_3
      try simp only [au_std, Bool.not_true, Bool.not_false] at ghb1_3
      refine VX.meek rfl ?_
      refine VX.guardT rfl rfl hb1_3 ?_
      first | refine VX.meek rfl ?_ | refine VX.loadI rfl rfl au_l ?_ | refine VX.loadP rfl rfl rfl au_l ?_
      refine VX.guardT rfl rfl hb1_3 ?_
      refine VX.meek rfl ?_
      refine VX.pickA rfl (fun _ => rfl) ?_
      exact VX.nil ⟨rfl, rfl⟩
    · refine VX.guardF rfl rfl hb1_3 ?_
      refine VX.guardF rfl rfl hb1_3 ?_
      exact VX.pickA rfl (fun h => absurd (h.symm.trans hb1_3) (by decide)) (VX.nil ⟨rfl, rfl⟩)
  refine VX.meek rfl ?_
  refine' VX.merge (d := 15) [_, _, _, _] rfl ?_ rfl ?_
  rotate_left
  · refine VX.guard rfl rfl (fun hb1_8 => ?_) (fun hb1_8 => ?_)
    · have ghb1_8 := hb1_8
      try simp only [au_std, Bool.not_true, Bool.not_false] at ghb1_8
      refine VX.meek rfl ?_
      refine VX.guardT rfl rfl hb1_8 ?_
      first | refine VX.meek rfl ?_ | refine VX.loadI rfl rfl au_l ?_ | refine VX.loadP rfl rfl rfl au_l ?_
      refine VX.guardT rfl rfl hb1_8 ?_
      refine VX.callP0 rfl rfl rfl (coord24_p r.X) ?_
      refine VX.pickA rfl (fun _ => rfl) ?_
      exact VX.nil ⟨rfl, rfl⟩
    · refine VX.guardF rfl rfl hb1_8 ?_
      refine VX.guardF rfl rfl hb1_8 ?_
      exact VX.pickA rfl (fun h => absurd (h.symm.trans hb1_8) (by decide)) (VX.nil ⟨rfl, rfl⟩)
  refine VX.meek rfl ?_
  refine' VX.merge (d := 20) [_, _, _, _] rfl ?_ rfl ?_
  rotate_left
  · refine VX.guard rfl rfl (fun hb1_13 => ?_) (fun hb1_13 => ?_)
    · have ghb1_13 := hb1_13
      try simp only [au_std, Bool.not_true, Bool.not_false] at ghb1_13
      refine VX.meek rfl ?_
      refine VX.guardT rfl rfl hb1_13 ?_
      first | refine VX.meek rfl ?_ | refine VX.loadI rfl rfl au_l ?_ | refine VX.loadP rfl rfl rfl au_l ?_
      refine VX.guardT rfl rfl hb1_13 ?_
      refine VX.callP0 rfl rfl rfl (coord24_p r.Y) ?_
      refine VX.pickA rfl (fun _ => rfl) ?_
      exact VX.nil ⟨rfl, rfl⟩
    · refine VX.guardF rfl rfl hb1_13 ?_
      refine VX.guardF rfl rfl hb1_13 ?_
      exact VX.pickA rfl (fun h => absurd (h.symm.trans hb1_13) (by decide)) (VX.nil ⟨rfl, rfl⟩)
  refine VX.meek rfl ?_
  refine' VX.merge (d := 28) [_, _, _, _, _, _, _] rfl ?_ rfl ?_
  rotate_left
  · refine VX.guard rfl rfl (fun hb1_18 => ?_) (fun hb1_18 => ?_)
    · have ghb1_18 := hb1_18
      try simp only [au_std, Bool.not_true, Bool.not_false] at ghb1_18
      refine VX.meek rfl ?_
      refine VX.guardT rfl rfl hb1_18 ?_
      first | refine VX.meek rfl ?_ | refine VX.loadI rfl rfl au_l ?_ | refine VX.loadP rfl rfl rfl au_l ?_
      refine VX.guardT rfl rfl hb1_18 ?_
      refine VX.meek rfl ?_
      refine VX.guardT rfl rfl hb1_18 ?_
      first | refine VX.meek rfl ?_ | refine VX.loadI rfl rfl au_l ?_ | refine VX.loadP rfl rfl rfl au_l ?_
      refine VX.guardT rfl rfl hb1_18 ?_
      first | refine VX.sub rfl rfl (by omega) ?_ | refine VX.meek rfl ?_
      refine VX.guardT rfl rfl hb1_18 ?_
      refine VX.meek rfl ?_
      refine VX.pickA rfl (fun _ => rfl) ?_
      exact VX.nil ⟨rfl, rfl⟩
    · refine VX.guardF rfl rfl hb1_18 ?_
      refine VX.guardF rfl rfl hb1_18 ?_
      refine VX.guardF rfl rfl hb1_18 ?_
      refine VX.guardF rfl rfl hb1_18 ?_
      refine VX.guardF rfl rfl hb1_18 ?_
      exact VX.pickA rfl (fun h => absurd (h.symm.trans hb1_18) (by decide)) (VX.nil ⟨rfl, rfl⟩)
  refine VX.meek rfl ?_
  refine' VX.merge (d := 36) [_, _, _, _, _, _, _] rfl ?_ rfl ?_
  rotate_left
  · refine VX.guard rfl rfl (fun hb1_26 => ?_) (fun hb1_26 => ?_)
    · have ghb1_26 := hb1_26
      try simp only [au_std, Bool.not_true, Bool.not_false] at ghb1_26
      refine VX.meek rfl ?_
      refine VX.guardT rfl rfl hb1_26 ?_
      first | refine VX.meek rfl ?_ | refine VX.loadI rfl rfl au_l ?_ | refine VX.loadP rfl rfl rfl au_l ?_
      refine VX.guardT rfl rfl hb1_26 ?_
      refine VX.meek rfl ?_
      refine VX.guardT rfl rfl hb1_26 ?_
      first | refine VX.meek rfl ?_ | refine VX.loadI rfl rfl au_l ?_ | refine VX.loadP rfl rfl rfl au_l ?_
      refine VX.guardT rfl rfl hb1_26 ?_
      first | refine VX.sub rfl rfl (by omega) ?_ | refine VX.meek rfl ?_
      refine VX.guardT rfl rfl hb1_26 ?_
      refine VX.meek rfl ?_
      refine VX.pickA rfl (fun _ => rfl) ?_
      exact VX.nil ⟨rfl, rfl⟩
    · refine VX.guardF rfl rfl hb1_26 ?_
      refine VX.guardF rfl rfl hb1_26 ?_
      refine VX.guardF rfl rfl hb1_26 ?_
      refine VX.guardF rfl rfl hb1_26 ?_
      refine VX.guardF rfl rfl hb1_26 ?_
      exact VX.pickA rfl (fun h => absurd (h.symm.trans hb1_26) (by decide)) (VX.nil ⟨rfl, rfl⟩)
  refine VX.meek rfl ?_
  refine VX.nil ?_
  refine VC.ret ?_
  exact ⟨trivial, _, rfl, Cv.eq (congrArg BL (by rw [Bool.eq_iff_iff]; unfold countsB fitsB; simp; omega)) rfl⟩
end
section
open Go.RowKit
def visH (fl : Bool) (F : Hp) : Hp := if fl then F else List.replicate F.length .d
theorem visH_len (fl : Bool) (F : Hp) : (visH fl F).length = F.length := by unfold visH; cases fl <;> simp
theorem blkH_dead : ∀ (n b : Nat), blkH (List.replicate n .d) b = .d
  | 0, _ => rfl
  | n + 1, 0 => rfl
  | n + 1, b + 1 => blkH_dead n b
def wOkG : List Wr → Hp → Prop
  | [], _ => True
  | (b, o, xs) :: W, F => match lookH F b with
    | some cs => o + xs.length ≤ cs.length ∧ xs.all cellB = true ∧ wOkG W (setH F b (.c (putL cs o xs)))
    | none => False
theorem appW_snocG {b o : Nat} {xs : List T} : ∀ (W V : List Wr) (F : Hp), wOkG (W ++ (b, o, xs) :: V) F → ∃ cs, lookH (appW W F) b = some cs ∧ o + xs.length ≤ cs.length ∧ xs.all cellB = true ∧ appW (W ++ [(b, o, xs)]) F = setH (appW W F) b (.c (putL cs o xs))
  | [], V, F, h => by
    simp only [List.nil_append, wOkG] at h
    split at h
    · rename_i cs hc
      exact ⟨cs, hc, h.1, h.2.1, by simp only [List.nil_append, appW, hc]⟩
    · exact h.elim
  | (b', o', xs') :: W, V, F, h => by
    simp only [List.cons_append, wOkG] at h
    split at h
    · rename_i cs hc
      obtain ⟨cs2, k1, k2, k3, k4⟩ := appW_snocG W V _ h.2.2
      refine ⟨cs2, ?_, k2, k3, ?_⟩
      · simp only [appW, hc]; exact k1
      · simp only [List.cons_append, appW, hc]; exact k4
    · exact h.elim
inductive RunT (P : Program) (tab : Tab) (im : List Nat) (ops : Array Oper) : List Oper → Env → Hp → List Stp → List Bool → List (Option Wr) → Env → Hp → Prop
  | nil (E : Env) (F : Hp) : RunT P tab im ops [] E F [] [] [] E F
  | one {o : Oper} {l : List Oper} {E : Env} {F : Hp} {s : Stp} {f : Bool} {r : List Stp} {fs : List Bool} {ws : List (Option Wr)} {E' : Env} {F' : Hp} (h : StpOk P tab im ops o E (visH f F) s)
      (k : RunT P tab im ops l (E.put o.dst s.t) (F ++ newsOf s.nb) r fs ws E' F') : RunT P tab im ops (o :: l) E F (s :: r) (f :: fs) (none :: ws) E' F'
  | sto {o : Oper} {l : List Oper} {E : Env} {F : Hp} {t : Nat} {a x : Operand} {b q : Nat} {tx : T} {i : TyI} {r : List Stp} {fs : List Bool} {ws : List (Option Wr)} {E' : Env} {F' : Hp} (hg : o.guard = none) (hd : o.dst = none) (ho : o.op = .store t a x) (hT : tab t = some i) (ha : E.opd a = some (.ptr b q)) (hx : E.opd x = some tx)
      (hl : (flat tx).length = i.sz) (k : RunT P tab im ops l E F r fs ws E' F') : RunT P tab im ops (o :: l) E F (⟨.v undef, none⟩ :: r) (false :: fs) (some (b, q, flat tx) :: ws) E' F'
theorem runT_at {P : Program} {tab : Tab} {im : List Nat} {ops : Array Oper} {l : List Oper} {E : Env} {F : Hp} {r : List Stp} {fs : List Bool} {ws : List (Option Wr)} {E' : Env} {F' : Hp} (h : RunT P tab im ops l E F r fs ws E' F') :
    r.length = l.length ∧ fs.length = l.length ∧ ws.length = l.length ∧ E' = envAt l r E l.length ∧ F' = hpAt r F l.length ∧
      (∀ k o s f w, l[k]? = some o → r[k]? = some s → fs[k]? = some f → ws[k]? = some w → StpS P tab im ops o (envAt l r E k) (visH f (hpAt r F k)) s w) := by
  induction h with
  | nil E F => exact ⟨rfl, rfl, rfl, rfl, rfl, fun k o s f w h => by simp at h⟩
  | @one o l E F s f r fs ws E' F' h k ih =>
    obtain ⟨h1, h2, h3, h4, h5, h6⟩ := ih
    refine ⟨by simp [h1], by simp [h2], by simp [h3], h4, h5, fun j o' s' f' w ho hs' hh hw => ?_⟩
    cases j with
    | zero => simp at ho hs' hh hw; subst ho hs' hh hw; exact h
    | succ j => exact h6 j o' s' f' w (by simpa using ho) (by simpa using hs') (by simpa using hh) (by simpa using hw)
  | @sto o l E F t a x b q tx i r fs ws E' F' hg hd ho hT ha hx hl k ih =>
    obtain ⟨h1, h2, h3, h4, h5, h6⟩ := ih
    refine ⟨by simp [h1], by simp [h2], by simp [h3], ?_, ?_, fun j o' s' f' w ho' hs' hh hw => ?_⟩
    · rw [h4]; show _ = envAt l r (E.put o.dst _) l.length; rw [hd]; rfl
    · rw [h5]; show _ = hpAt r (F ++ newsOf none) l.length; simp [newsOf]
    · cases j with
      | zero => simp at ho' hs' hh hw; subst ho' hs' hh hw; exact ⟨rfl, hg, hd, t, a, x, tx, i, ho, hT, ha, hx, rfl, hl⟩
      | succ j =>
        have := h6 j o' s' f' w (by simpa using ho') (by simpa using hs') (by simpa using hh) (by simpa using hw)
        have e : envAt (o :: l) (⟨.v undef, none⟩ :: r) E (j + 1) = envAt l r E j := by show envAt l r (E.put o.dst _) j = _; rw [hd]; rfl
        have e2 : hpAt (⟨.v undef, none⟩ :: r) F (j + 1) = hpAt r F j := by show hpAt r (F ++ newsOf none) j = _; simp [newsOf]
        rw [e, e2]; exact this
def lateB (l : List Oper) (fs : List Bool) : Bool := (List.range l.length).all fun k' => !stB l[k']? || (List.range fs.length).all fun k => !(fs.getD k false) || ((masks l []).getD k' 0).testBit k
section
variable {z : Bool} {P : Program} {tab : Tab} {n m kb lb : Nat} {l : List Oper} {E : Env} {H : Hp} {r : List Stp} {fs : List Bool} {ws : List (Option Wr)} {X0 : Nat → Prop} {M0 : Mp} {im : List Nat}
structure RunG (P : Program) (tab : Tab) (im : List Nat) (l : List Oper) (m : Nat) (E : Env) (H : Hp) (r : List Stp) (fs : List Bool) (ws : List (Option Wr)) : Prop where
  rl : r.length = (l.take m).length
  hl : fs.length = (l.take m).length
  wl : ws.length = (l.take m).length
  st : ∀ k o s f w, (l.take m)[k]? = some o → r[k]? = some s → fs[k]? = some f → ws[k]? = some w → StpS P tab im l.toArray o (envAt (l.take m) r E k) (visH f (hpAt r H k)) s w
  ok : wOkG (ws.filterMap id) (hpAt r H r.length)
  late : lateB l fs = true
theorem JdS.lookT {L : Nat → Prop} {a : Act} {M : Mp} {j : Nat} (hO : OrdB l m) (hF : RunG P tab im l m E H r fs ws) (h : JdS n kb (l.take m) r ws E H X0 j L a M) (hc : Closed l L) {k : Nat} (hk : ¬ L k) {f : Bool} (hkk : fs[k]? = some f) : LookAt M (lookH (visH f (hpAt r H k))) := by
  have hkl : k < (l.take m).length := by rw [← hF.hl]; exact (List.getElem?_eq_some_iff.1 hkk).1
  intro b B O cells hb hcc
  cases f with
  | false => rw [lookH_c] at hcc; unfold visH at hcc; rw [if_neg (by decide), blkH_dead] at hcc; cases hcc
  | true =>
    have hcc' : lookH (hpAt r H k) b = some cells := hcc
    refine Sim.look h.sim b B O cells hb ?_
    have hd := h.sim.D_of hb
    rw [lookH_c] at hcc'
    rw [cells_some]
    unfold lookG
    rw [if_pos hd, appW_other _ _ fun w hw e => ?_]
    · have hlt : b < (hpAt r H k).length := blkH_lt (by rw [hcc']; simp)
      have hkeep := (hpAt_keep (r := r) (H := H) k r.length (by have := hF.rl; omega) (Nat.le_refl _)).2 b hlt
      rw [hkeep]; exact hcc'
    · obtain ⟨i, hi⟩ := List.getElem?_of_mem hw
      have hij : i < j := by
        have := (List.getElem?_eq_some_iff.1 hi).1
        rw [List.length_take] at this; omega
      rw [List.getElem?_take, if_pos hij] at hi
      have hlt : i < cntW ws ws.length := by unfold cntW; rw [List.take_length]; exact (List.getElem?_eq_some_iff.1 hi).1
      obtain ⟨k', w', q1, q2, q3⟩ := cntW_pos hlt
      have hL : L k' := (h.cnt k' w' q2).2 (by omega)
      have hk'l : k' < (l.take m).length := by rw [← hF.wl]; exact q1
      have hol : l[k']? = some (l.take m)[k'] := by have := List.getElem?_eq_getElem hk'l; rw [List.getElem?_take] at this; split at this; exact this; cases this
      have hst := hF.st k' _ _ _ _ (List.getElem?_eq_getElem hk'l) (List.getElem?_eq_getElem (by rw [hF.rl]; exact hk'l)) (List.getElem?_eq_getElem (by rw [hF.hl]; exact hk'l)) q2
      obtain ⟨b', q', xs'⟩ := w'
      obtain ⟨-, -, -, t', x', y', tx', i', hoc', -⟩ := hst
      have hlate := hF.late
      unfold lateB at hlate
      rw [List.all_eq_true] at hlate
      have h1 := hlate k' (List.mem_range.2 (List.getElem?_eq_some_iff.1 hol).1)
      have hsb : stB l[k']? = true := by rw [hol]; generalize (l.take m)[k'] = ok at hoc'; simp [stB, hoc']
      rw [hsb] at h1
      simp only [Bool.not_true, Bool.false_or] at h1
      rw [List.all_eq_true] at h1
      have h2 := h1 k (List.mem_range.2 (List.getElem?_eq_some_iff.1 hkk).1)
      have hfk : fs.getD k false = true := by simp [List.getD, hkk]
      rw [hfk] at h2
      simp only [Bool.not_true, Bool.false_or] at h2
      exact hk (mask_listed hO.back hc k' hL k h2)
theorem JdS.stepT (hT : TabOk P tab) (hO : OrdB l m) (hch : chainB l m = true) (hF : RunG P tab im l m E H r fs ws)
    {L : Nat → Prop} {a : Act} {M : Mp} {j : Nat} (h : JdS n kb (l.take m) r ws E H X0 j L a M) (hc : Closed l L) {k : Nat} {o : Oper} (ho : (l.take m)[k]? = some o) (hk : ¬ L k) (hpre : ∀ e ∈ o.after, Region.binds .any e = true → L e.on) (hd : ∀ d, o.dst = some d → d < n)
    {r0 : Option Nat} {Q : Exit → Act → World → Prop} {K : Act → World → Prop} (hK : ∀ a' M' j', Evo X0 M M' → JdS n kb (l.take m) r ws E H X0 j' (fun i => L i ∨ i = k) a' M' → K a' M'.w) : wpOpIn (FW r0) 0 P l.toArray Q k K a M.w := by
  have hr := hF.rl
  have hkl : k < (l.take m).length := (List.getElem?_eq_some_iff.1 ho).1
  have hol : l[k]? = some o := by rw [List.getElem?_take] at ho; split at ho; exact ho; cases ho
  have hkm : k < m := by rw [List.length_take] at hkl; omega
  have hs' : r[k]? = some r[k] := List.getElem?_eq_getElem (by omega)
  obtain ⟨f', hh'⟩ : ∃ x, fs[k]? = some x := ⟨_, List.getElem?_eq_getElem (by rw [hF.hl]; omega)⟩
  obtain ⟨w, hw'⟩ : ∃ x, ws[k]? = some x := ⟨_, List.getElem?_eq_getElem (by rw [hF.wl]; omega)⟩
  have hstp := hF.st k o _ _ _ ho hs' hh' hw'
  generalize r[k] = s at hs' hstp
  have hlook := h.lookT hO hF hc hk hh'
  have hrd := fun (d : Nat) (t : T) => h.read hO hr hc ho hk hpre (d := d) (t := t)
  have hop : ∀ x ∈ o.op.operands.toList, ∀ t, (envAt (l.take m) r E k).opd x = some t → Rep M t (a.eval x) := by
    intro x hx t ht
    cases x with
    | tmp d =>
      obtain ⟨u, h1, h2⟩ := hrd d t (by simp only [readsOf, Oper.looksAt, List.mem_append, List.mem_filterMap]; exact .inl ⟨.tmp d, hx, rfl⟩) ht
      have : a.eval (.tmp d) = u := by show a.tmps.getD d undef = u; simp [h1]
      rw [this]; exact h2
    | const v => simp only [Env.opd] at ht; injection ht with ht; subst ht; exact rep_ofV v
    | func f => simp only [Env.opd] at ht; injection ht with ht; subst ht; exact ⟨[], [], rfl, rfl, rfl⟩
    | global g => simp only [Env.opd] at ht; injection ht with ht; subst ht; exact rfl
  unfold wpOpIn
  simp only [List.getElem?_toArray, hol]
  cases w with
  | some w =>
    obtain ⟨b, q, xs⟩ := w
    obtain ⟨rfl, hg, hdn, t, x, y, tx, i, hoc, hti, hx, hy, rfl, hxl⟩ := hstp
    have hw : Region.wanted o (yielded l.toArray a.tmps) = true := by simp [Region.wanted, hg]
    rw [hw, if_pos rfl]
    have hix := cntW_lt hw'
    have hij : cntW ws k = j := by
      have h1 : ¬ cntW ws k < j := fun hh => hk ((h.cnt k _ hw').2 hh)
      refine Nat.le_antisymm (Nat.le_of_not_lt fun hh => ?_) (by omega)
      obtain ⟨k', w', q1, q2, q3⟩ := cntW_pos hh
      have hk'l : k' < (l.take m).length := by rw [← hF.wl]; exact (List.getElem?_eq_some_iff.1 q2).1
      have ho' : (l.take m)[k']? = some (l.take m)[k'] := List.getElem?_eq_getElem hk'l
      have hst' := hF.st k' _ _ _ _ ho' (List.getElem?_eq_getElem (by omega)) (List.getElem?_eq_getElem (by rw [hF.hl]; omega)) q2
      obtain ⟨b', q', xs'⟩ := w'
      obtain ⟨-, -, -, t', x', y', tx', i', hoc', -⟩ := hst'
      have hol' : l[k']? = some (l.take m)[k'] := by have := ho'; rw [List.getElem?_take] at this; split at this; exact this; cases this
      have hL := mask_next hO.back hc hol hpre (chain_at hch hkm q1 hol hol' hoc hoc')
      have := (h.cnt k' _ q2).1 hL
      omega
    rw [hij] at hix
    have hsp : ws.filterMap id = (ws.filterMap id).take j ++ (b, q, flat tx) :: (ws.filterMap id).drop (j + 1) := by
      have h1 := (List.getElem?_eq_some_iff.1 hix)
      rw [← h1.2, ← List.drop_eq_getElem_cons h1.1, List.take_append_drop]
    have hok := hF.ok
    rw [hsp] at hok
    obtain ⟨cs, k1, k2, k3, k4⟩ := appW_snocG _ _ _ hok
    have htk : (ws.filterMap id).take (j + 1) = (ws.filterMap id).take j ++ [(b, q, flat tx)] := by rw [List.take_add_one, hix]; rfl
    have hrx := hop x (by rw [hoc]; simp [Op.operands]) _ hx
    have hry := hop y (by rw [hoc]; simp [Op.operands]) _ hy
    have hbb : b < H.length ∨ made r H L b := by obtain ⟨B, O, hb, -⟩ := hrx; exact h.sim.D_of hb
    have hbk : lookG r H (appW ((ws.filterMap id).take j) (hpAt r H r.length)) L b = .c cs := by unfold lookG; rw [if_pos hbb]; exact lookH_c.1 k1
    obtain ⟨M', e1, e2, e3⟩ := Sim.stored (P := P) hT h.sim hti hbk hrx hry hxl k2 k3
    have hnd : ∀ c, o.op ≠ .defer c := by rw [hoc]; simp
    refine wpIn_of hnd ?_
    obtain ⟨dst, op, ty, pos, after, guard⟩ := o
    simp only at hoc hdn
    subst hoc hdn
    have hrr : (execOp a.eval ⟨none, .store t x y, ty, pos, after, guard⟩).run P M.w = .ok .skip M'.w := by simp [execOp, e1]
    rw [hrr]
    refine hK _ _ (j + 1) e2 (h.next hO ho hs' hk hd e2 (e3.congr (fun c => ?_) (fun c => by rw [made_none hs' rfl])) (u := undef) rfl (fun k2' w2 hw2 => ?_) (fun w2 hw2 => ?_))
    · rw [lookG_none hs' rfl, htk, k4]
      unfold lookG updL
      by_cases hcb : c = b
      · subst hcb; rw [if_pos hbb, if_pos rfl, blkH_set _ _ _ _ (lookH_lt k1), if_pos rfl]
      · rw [if_neg hcb]
        dsimp only
        by_cases hcd : c < H.length ∨ made r H L c
        · rw [if_pos hcd, if_pos hcd, blkH_set _ _ _ _ (lookH_lt k1), if_neg hcb]
        · rw [if_neg hcd, if_neg hcd]
    · rw [h.cnt k2' w2 hw2]
      constructor
      · rintro (q1 | rfl) <;> omega
      · intro hh
        by_cases h2 : cntW ws k2' < j
        · exact .inl h2
        · refine .inr ?_
          rcases Nat.lt_trichotomy k2' k with q1 | q1 | q1
          · have := cntW_mono q1 hw2; omega
          · exact q1
          · have := cntW_mono q1 hw'; omega
    · rw [htk] at hw2
      rcases List.mem_append.1 hw2 with q1 | q1
      · exact (h.mkd w2 q1).imp id made_or
      · rw [List.mem_singleton] at q1; subst q1; exact hbb.imp id made_or
  | none =>
    have hcn : ∀ k' w, ws[k']? = some (some w) → ((L k' ∨ k' = k) ↔ cntW ws k' < j) := fun k' w hwk => by
      rw [← h.cnt k' w hwk]
      exact ⟨fun hh => hh.resolve_right (fun e => by subst e; rw [hw'] at hwk; injection hwk with hwk; cases hwk), Or.inl⟩
    have hmk : ∀ w ∈ (ws.filterMap id).take j, w.1 < H.length ∨ made r H (fun i => L i ∨ i = k) w.1 := fun w hw => (h.mkd w hw).imp id made_or
    have hgd : ∀ g want d b, o.guard = some (g, want) → (l.toArray[g]?).bind (·.dst) = some d → (envAt (l.take m) r E k).get d = some (.v (.bool b)) → yielded l.toArray a.tmps g = some b := by
      intro g want d b hg hgd hb
      have hgd' : (l[g]?.bind fun x => x.dst) = some d := by simpa using hgd
      obtain ⟨u, h1, h2⟩ := hrd d _ (by simp [readsOf, Oper.looksAt, hg]; exact .inr hgd') hb
      obtain rfl := h2
      simp [yielded, hgd', h1]
    rcases hstp with ⟨h1, h2, g, want, d, x, hg, hgdst, hb, hne⟩ | ⟨hg, hst⟩
    · have hw : Region.wanted o (yielded l.toArray a.tmps) = false := by
        have hgd' : (l[g]?.bind fun x => x.dst) = some d := by simpa using hgdst
        obtain ⟨u, q1, q2⟩ := hrd d _ (by simp [readsOf, Oper.looksAt, hg]; exact .inr hgd') hb
        obtain rfl := q2
        have hy : yielded l.toArray a.tmps g = match u with | .bool b => some b | _ => none := by simp only [yielded, List.getElem?_toArray, hgd', Option.bind_some, q1]; cases u <;> rfl
        simp only [Region.wanted, hg, hy]
        cases u <;> first | rfl | skip
        rename_i b
        cases b <;> cases want <;> first | rfl | exact absurd rfl hne
      rw [hw]
      refine ⟨fun _ _ => trivial, hK _ M j (Evo.refl _ _) (h.next hO ho hs' hk hd (Evo.refl _ _) (h.sim.congr (fun b => lookG_none hs' h2 b) fun b => by rw [made_none hs' h2]) (by rw [h1]; rfl) hcn hmk)⟩
    · have hw : Region.wanted o (yielded l.toArray a.tmps) = true := by
        rcases hg with hg | ⟨g, want, d, hg, hgdst, hb⟩
        · simp [Region.wanted, hg]
        · have hy := hgd g want d want hg hgdst hb
          simp [Region.wanted, hg, hy]
      rw [hw, if_pos rfl]
      have hnd : ∀ c, o.op ≠ .defer c := by
        rcases hst with ⟨t, nb, hm, -⟩ | ⟨f, args, ats, g, fs, cs, ts, hoc, -⟩
        · exact opM_op hm
        · rw [hoc]; simp
      refine wpIn_of hnd ?_
      rcases hst with ⟨t, nb, hm, hst⟩ | ⟨f, args, ats, g, fs, cs, ts, hoc, hf, hts, hcall, hnb⟩
      · have hmk' := opM_ok (M := M) (ρ' := a.eval) hT hlook hop hm
        rcases hst with ⟨hst, hnb⟩ | ⟨⟨e, cs⟩, rfl, hst, hnb⟩
        case inr =>
          obtain ⟨u, w', q1, q2, q3, q4⟩ := imm_new h.sim hmk' (opM_new hm)
          rw [q1]
          exact hK _ _ j q2 (h.next hO ho hs' hk hd q2 ((h.sim.world q2 q3).congr (fun b => lookG_none hs' hnb b) fun b => by rw [made_none hs' hnb]) (by rw [hst]; exact q4) hcn hmk)
        subst hst
        cases nb with
        | none =>
          obtain ⟨u, h1, h2⟩ := hmk'
          rw [h1]
          exact hK _ M j (Evo.refl _ _) (h.next hO ho hs' hk hd (Evo.refl _ _) (h.sim.congr (fun b => lookG_none hs' hnb b) fun b => by rw [made_none hs' hnb]) h2 hcn hmk)
        | some p =>
          obtain ⟨e, cs⟩ := p
          simp only [Option.map_some] at hnb
          rw [visH_len] at hmk'
          obtain ⟨u, ar, h1, h2, h3⟩ := hmk'
          rw [h1]
          have hid : ¬ (hpAt r H k).length < H.length := by have := (hp_start (r := r) (H := H) (k := k) (by omega)).1; omega
          have hnd' : ¬ made r H L (hpAt r H k).length := by
            rintro ⟨j', s', q1, q2, q3, q4⟩
            exact hk (new_ne q1 q2 hs' (by rw [hnb]; simp) q4 ▸ q3)
          have hnd : ¬ ((hpAt r H k).length < H.length ∨ made r H L (hpAt r H k).length) := fun hh => hh.elim hid hnd'
          obtain ⟨Ev, S, hsh⟩ := h.sim.new (nx := (hpAt r H k).length) hnd (w := { M.w with heap := M.w.heap.push (.cells ar e) }) rfl rfl ⟨rfl, Nat.le_refl _⟩ rfl (fun j _ hj => by simp at hj) h2
          have hmade : ∀ b, made r H (fun j => L j ∨ j = k) b ↔ made r H L b ∨ b = (hpAt r H k).length := fun b => by
            constructor
            · rintro ⟨j, s', q1, q2, q3 | q3, q4⟩
              · exact .inl ⟨j, s', q1, q2, q3, q4⟩
              · subst q3; exact .inr q4.symm
            · rintro (⟨j, s', q1, q2, q3, q4⟩ | q)
              · exact ⟨j, s', q1, q2, .inl q3, q4⟩
              · exact ⟨k, s, hs', by rw [hnb]; simp, .inr rfl, q.symm⟩
          refine hK _ (newM M _ _) j Ev (h.next hO ho hs' hk hd Ev (S.congr (fun b => ?_) (fun b => ?_)) (h3 _ (if_pos rfl) hsh) hcn hmk)
          · unfold lookG
            by_cases hb : b = (hpAt r H k).length
            · subst hb
              rw [if_pos (.inr ((hmade _).2 (.inr rfl))), if_pos rfl, appW_other _ _ fun w hw e => ?_]
              · exact (new_at hs' hnb).2
              · have := h.mkd w hw
                rw [e] at this
                exact hnd this
            · rw [if_neg hb]
              by_cases hbD : b < H.length ∨ made r H L b
              · rw [if_pos hbD, if_pos (hbD.imp id fun hh => (hmade b).2 (.inl hh))]
              · rw [if_neg hbD, if_neg fun hh => hbD (hh.imp id fun q => ((hmade b).1 q).resolve_right hb)]
          · rw [hmade, or_assoc]
      · obtain ⟨dst, op, ty, pos, after, guard⟩ := o
        simp only at hoc hop hd
        subst hoc
        obtain ⟨us, vs, e1, r1, r2⟩ := hop f (by simp [Op.operands, Call.operands]) _ hf
        have r3 := optL_ok (M := M) (ρ' := a.eval) _ _ (fun x hx t ht => hop x (by simp [Op.operands, Call.operands]; exact .inr (by simpa using hx)) t ht) hts
        have hrr : (execOp a.eval ⟨dst, .call ⟨.value f, args, ats⟩, ty, pos, after, guard⟩).run P M.w = .ok (.enter g (us ++ args.toList.map a.eval ++ vs).toArray) M.w := by
          simp only [execOp, resolve, Sem.run_bind, e1, Deferred.ofValue, Sem.run_pure, Result.andThen_ok, invoke]
          rw [run_goFunc _ _ _ hcall.2.2.1, ← map_arr]
          simp
        rw [hrr]
        refine ⟨fun hh => (by cases hh), callsIn_wide.2 ((hcall.run X0 M _ h.sim.bnd (RepL.append (RepL.append r1 r3) r2)).mono ?_)⟩
        rintro e w' ⟨u, rfl, k1, k2, k3⟩
        exact hK _ _ j k1 (h.next hO ho hs' hk hd k1 ((h.sim.world k1 k3).congr (fun b => lookG_none hs' hnb b) fun b => by rw [made_none hs' hnb]) k2 hcn hmk)
theorem JdS.finT {L : Nat → Prop} {a : Act} {M : Mp} {j : Nat} (hO : OrdB l m) (hF : RunG P tab im l m E H r fs ws) (h : JdS n kb (l.take m) r ws E H X0 j L a M) (hL : ∀ k, k < (l.take m).length → L k) : St n kb (envAt (l.take m) r E (l.take m).length) (appW (ws.filterMap id) (hpAt r H (l.take m).length)) X0 a M := by
  have hr := hF.rl
  have hdis : ∀ (i j : Nat) (oi oj : Oper), (l.take m)[i]? = some oi → (l.take m)[j]? = some oj → i ≠ j → ∀ d, oi.dst = some d → oj.dst ≠ some d := fun i j oi oj hi hj hij d hdi => (hO.pair j oj i oi hj hi hij d hdi).1
  have hmd : ∀ b, made r H L b ↔ ¬ b < H.length ∧ b < (hpAt r H r.length).length := fun b => by
    constructor
    · rintro ⟨k, s, q1, q2, -, q4⟩
      have hk := (List.getElem?_eq_some_iff.1 q1).1
      obtain ⟨cs, hcs⟩ := Option.ne_none_iff_exists'.1 q2
      have h1 := (new_at (H := H) q1 hcs).1
      have h2 := (hpAt_keep (r := r) (H := H) (k + 1) r.length hk (Nat.le_refl _)).1
      have h3 := (hp_start (r := r) (H := H) (k := k) (by omega)).1
      omega
    · rintro ⟨h1, h2⟩
      obtain ⟨j, s, q1, q2, q3, q4⟩ := made_all (Nat.le_refl _) h2 h1
      exact ⟨j, s, q2, q3, hL j (by omega), q4⟩
  have htk : (ws.filterMap id).take j = ws.filterMap id := by
    refine List.take_of_length_le (Nat.le_of_not_lt fun hh => ?_)
    have e : (ws.filterMap id).length = cntW ws ws.length := by unfold cntW; rw [List.take_length]
    rw [e] at hh
    obtain ⟨k', w, q1, q2, q3⟩ := cntW_pos hh
    have := (h.cnt k' w q2).1 (hL k' (by rw [← hF.wl]; exact q1))
    omega
  refine ⟨fun d t ht => ?_, h.sz, h.df, h.ge, h.sim.congr (fun b => ?_) (fun b => ?_)⟩
  · obtain ⟨g1, g2⟩ := env_get (E := E) (d := d) hr (Nat.le_refl _) hdis
    by_cases hw : ∃ j oj, j < (l.take m).length ∧ (l.take m)[j]? = some oj ∧ oj.dst = some d
    · obtain ⟨j, oj, hj, hoj, hdj⟩ := hw
      have hs : r[j]? = some r[j] := List.getElem?_eq_getElem (by omega)
      rw [g1 j oj _ hj hoj hs hdj] at ht
      injection ht with ht; subst ht
      exact h.slot j oj _ d hoj hs (hL j hj) hdj
    · rw [g2 fun j oj hj hoj hdj => hw ⟨j, oj, hj, hoj, hdj⟩] at ht
      exact h.old d t ht fun j oj hoj _ hdj => hw ⟨j, oj, (List.getElem?_eq_some_iff.1 hoj).1, hoj, hdj⟩
  · rw [← hr, htk]
    unfold lookG
    by_cases hb : b < H.length ∨ made r H L b
    · rw [if_pos hb]
    · rw [if_neg hb]
      refine Classical.byContradiction fun hne => hb ?_
      have hlt := blkH_lt hne
      rw [appW_len] at hlt
      by_cases hbH : b < H.length
      · exact .inl hbH
      · exact .inr ((hmd b).2 ⟨hbH, hlt⟩)
  · rw [← hr, appW_len, hmd]
    have := (hp_start (r := r) (H := H) (k := r.length) (Nat.le_refl _)).1
    omega
theorem draw_anyT (hT : TabOk P tab) (hO : OrdB l m) (hch : chainB l m = true) (hd : dstB n l = true) (hF : RunG P tab im l m E H r fs ws)
    {r0 : Option Nat} {Q : Exit → Act → World → Prop} (hQ : ∀ a M, Evo X0 M0 M → St n kb (envAt (l.take m) r E (l.take m).length) (appW (ws.filterMap id) (hpAt r H (l.take m).length)) X0 a M → wpListIn (FW r0) 0 P l.toArray Q (l.drop m) a M.w) :
    ∀ (fuel : Nat) (listed : Array Bool) (a : Act) (M : Mp) (j : Nat), leftB l listed ≤ fuel → listed.size = l.length → Closed l (lsd listed) → (∀ k, m ≤ k → ¬ lsd listed k) → Evo X0 M0 M → JdS n kb (l.take m) r ws E H X0 j (lsd listed) a M → wpAnyIn (FW r0) 0 P .any l.toArray Q fuel listed a M.w := by
  have hml : (l.take m).length = m := by rw [List.length_take]; have := hO.le; omega
  intro fuel
  have fin : ∀ (fuel : Nat) (listed : Array Bool) (a : Act) (M : Mp) (j : Nat), leftB l listed ≤ fuel → listed.size = l.length → (∀ k, m ≤ k → ¬ lsd listed k) → (∀ k, k < m → lsd listed k) → Evo X0 M0 M → JdS n kb (l.take m) r ws E H X0 j (lsd listed) a M → wpAnyIn (FW r0) 0 P .any l.toArray Q fuel listed a M.w := by
    intro fuel listed a M j hf hsz hno hall hE hJ
    refine tail_any hO fuel listed m a M.w ?_ hsz (Nat.le_refl _) hO.le (fun k => ⟨fun h => ?_, hall k⟩) (hQ a M hE (hJ.finT hO hF fun k hk => hall k (by omega)))
    · have h1 : leftB l listed = l.length - m := by
        unfold leftB
        have e : List.range l.length = List.range m ++ (List.range (l.length - m)).map (m + ·) := by
          rw [← List.range_add, show m + (l.length - m) = l.length from by have := hO.le; omega]
        rw [e, List.countP_append]
        have e1 : (List.range m).countP (fun k => !listed.getD k false) = 0 := by
          rw [List.countP_eq_zero]
          intro k hk
          have := hall k (List.mem_range.1 hk)
          unfold lsd at this
          simpa using this
        have e2 : ((List.range (l.length - m)).map (m + ·)).countP (fun k => !listed.getD k false) = l.length - m := by
          rw [List.countP_eq_length.2]
          · simp
          · intro k hk
            rw [List.mem_map] at hk
            obtain ⟨q, -, rfl⟩ := hk
            have := hno (m + q) (by omega)
            unfold lsd at this
            simpa using this
        omega
      omega
    · exact Nat.lt_of_not_le fun hk => hno k hk h
  induction fuel with
  | zero =>
    intro listed a M j hf hsz hc hno hE hJ
    by_cases hall : ∀ k, k < m → lsd listed k
    · exact fin 0 listed a M j hf hsz hno hall hE hJ
    · exfalso
      have h0 : leftB l listed = 0 := by omega
      unfold leftB at h0
      rw [List.countP_eq_zero] at h0
      apply hall
      intro k hk
      have := h0 k (List.mem_range.2 (by have := hO.le; omega))
      unfold lsd
      simpa using this
  | succ fuel ih =>
    intro listed a M j hf hsz hc hno hE hJ
    by_cases hall : ∀ k, k < m → lsd listed k
    · exact fin _ listed a M j hf hsz hno hall hE hJ
    · have hnext : ∃ i o, i < m ∧ l[i]? = some o ∧ ¬ lsd listed i ∧ ∀ e ∈ o.after, Region.binds .any e = true → lsd listed e.on := by
        have hex : ∃ k, k < m ∧ ¬ lsd listed k := by
          apply Classical.byContradiction
          intro h
          exact hall fun k hk => Classical.byContradiction fun hn => h ⟨k, hk, hn⟩
        obtain ⟨i, ⟨h1, h2⟩, hmin⟩ := least_nat hex
        have hile : i < l.length := by have := hO.le; omega
        have ho : l[i]? = some l[i] := List.getElem?_eq_getElem hile
        refine ⟨i, _, h1, ho, h2, fun e he hb => ?_⟩
        have hlt := back_at l 0 i _ hO.back ho e he hb
        exact Classical.byContradiction fun hn => by have := hmin e.on ⟨by omega, hn⟩; omega
      refine ⟨fun hr0 => ?_, fun i hi => ?_⟩
      · obtain ⟨i, o, h1, h2, h3, h4⟩ := hnext
        have := ready_of hsz h2 h3 h4
        rw [hr0] at this; cases this
      · obtain ⟨o, ho, hn, hp⟩ := ready_facts hsz hi
        have hil := (List.getElem?_eq_some_iff.1 ho).1
        have him : i < m := by
          refine Nat.lt_of_not_le fun hmi => ?_
          apply hall
          intro k hk
          exact mask_next hO.back hc ho hp (hO.full i hmi hil k (by omega))
        have hop : (l.take m)[i]? = some o := by rw [List.getElem?_take, if_pos him]; exact ho
        have hdo : ∀ d, o.dst = some d → d < n := fun d hdd => by
          unfold dstB at hd
          rw [List.all_eq_true] at hd
          have := hd o (List.mem_of_getElem? ho)
          rw [hdd] at this; simpa using this
        refine JdS.stepT hT hO hch hF hJ hc hop hn hp hdo fun a' M' j' hE' hJ' => ?_
        have hiff : ∀ k, lsd (listed.setIfInBounds i true) k ↔ lsd listed k ∨ k = i := lsd_set (by omega)
        have hfun : lsd (listed.setIfInBounds i true) = fun k => lsd listed k ∨ k = i := funext fun k => propext (hiff k)
        refine ih _ a' M' j' ?_ (by simpa using hsz) (fun k ok hok hk e he hb => ?_) (fun k hk h => ?_) (hE.trans hE') (by rw [hfun]; exact hJ')
        · have := leftB_set hsz hil hn; omega
        · rw [hiff] at hk ⊢
          rcases hk with hk | rfl
          · exact .inl (hc k ok hok hk e he hb)
          · rw [ho] at hok; injection hok with hok; subst hok; exact .inl (hp e he hb)
        · rcases (hiff k).1 h with h | h
          · exact hno k hk h
          · omega
theorem VC.drawT {id : Nat} {QT : Exit → Env → Hp → Prop} (hT : TabOk P tab) (im : List Nat) (m : Nat) (hm : P.follows .mixedOrders = true) (hB : drawB n m l = true) (hch : chainB l m = true)
    (h : ∃ r fs ws E' F', RunT P tab im l.toArray (l.take m) E H r fs ws E' F' ∧ lateB l fs = true ∧ wOkG (ws.filterMap (·)) F' ∧ vcSeq P tab im (l.map (·.dst)) (l.drop m) E' (appW (ws.filterMap (·)) F') (QT .normal)) : VC z P n lb (.region id l.toArray true) QT E H := by
  intro X0 M a r0 kb hz hs
  obtain ⟨hO, hd⟩ := ord_of hB
  obtain ⟨r, fs, ws, E', F', hrun, hlate, hok, hk⟩ := h
  obtain ⟨h1, h2, h3, h4, h5, h6⟩ := runT_at hrun
  have hF : RunG P tab im l m E H r fs ws := ⟨h1, h2, h3, h6, by rw [h1, ← h5]; exact hok, hlate⟩
  refine wpIn_region_any hm ?_
  let M1 : Mp := ⟨M.β, M.X, { M.w with drawn := M.w.drawn + 1 }⟩
  have hE1 : Evo X0 M M1 := ⟨fun _ _ h => h, fun _ _ h => h, fun _ _ _ => rfl, fun _ _ h => h, rfl, ⟨rfl, Nat.le_succ _⟩, rfl, Nat.le_refl _⟩
  have hs1 : St n kb E H X0 a M1 := ⟨fun d t ht => by obtain ⟨u, q1, q2⟩ := hs.tm d t ht; exact ⟨u, q1, Rep.stays hE1.stays _ _ q2⟩, hs.sz, hs.df.evo hE1, hs.ge, hs.sim.world hE1 fun _ _ => rfl⟩
  have hno : ∀ k, ¬ lsd (Array.replicate l.toArray.size false) k := fun k hk => by
    unfold lsd at hk
    by_cases hlt : k < l.length
    · simp [hlt] at hk
    · simp [hlt] at hk
  have hmd : ∀ b, ¬ made r H (lsd (Array.replicate l.toArray.size false)) b := fun b ⟨k, s, _, _, hk, _⟩ => hno k hk
  have := draw_anyT (r0 := r0) (X0 := X0) (M0 := M) (Q := Lift n kb lb X0 M QT) hT hO hch hd hF (fun a' M' hE' hs' => by
    rw [← h4, ← h5] at hs'
    refine vcSeq_ok (im := im) hT _ ?_ hs' (fun E2 H2 a2 M2 k1 k2 k3 => ⟨E2, H2, M2, k1, rfl, (hE'.trans k2).toK lb, k3⟩) hk
    unfold dstB at hd ⊢
    rw [List.all_eq_true] at hd ⊢
    exact fun o ho => hd o (List.mem_of_mem_drop ho)) l.toArray.size (Array.replicate l.toArray.size false) a M1 0 (Nat.le_trans List.countP_le_length (by simp)) (by simp) (fun k o _ hk => absurd hk (hno k)) (fun k _ => hno k) hE1
    ⟨hs1.sim.congr (fun b => by
        unfold lookG
        rw [List.take_zero]
        by_cases hb : b < H.length
        · rw [if_pos (.inl hb)]; exact (hp_start (Nat.le_refl _)).2 b hb
        · rw [if_neg fun hh => hh.elim hb (hmd b)]
          exact Classical.byContradiction fun hne => hb (blkH_lt fun e => hne (by rw [e]))) (fun b => ⟨fun h => h.elim (fun h => h) fun h => absurd h (hmd b), .inl⟩),
     fun k o s d _ _ hk => absurd hk (hno k), fun d t ht _ => hs1.tm d t ht, hs1.sz, hs1.df, hs1.ge, fun k w _ => ⟨fun hk => absurd hk (hno k), fun hh => by omega⟩, fun w hw => by rw [List.take_zero] at hw; cases hw⟩
  exact this
end
def VT (P : Program) (tab : Tab) (im : List Nat) (ops : Array Oper) (l : List Oper) (E : Env) (F : Hp) (W : List Wr) (fl : List Bool) (K : Env → Hp → List Bool → Prop) : Prop :=
  ∀ E2, Sub E E2 → ∃ r fs ws E' F', RunT P tab im ops l E2 F r fs ws E' F' ∧ wOkG (W ++ ws.filterMap (·)) F' ∧ ∃ E1, Sub E1 E' ∧ K E1 (appW (W ++ ws.filterMap (·)) F') (fl ++ fs)
section
variable {z : Bool} {P : Program} {tab : Tab} {n lb : Nat} {im : List Nat} {ops : Array Oper} {l : List Oper} {E : Env} {F : Hp} {W : List Wr} {fl : List Bool} {K : Env → Hp → List Bool → Prop}
theorem VT.nil (hw : wOkG W F) (h : K E (appW W F) fl) : VT P tab im ops [] E F W fl K := fun E2 he =>
  ⟨[], [], [], E2, F, .nil _ _, by simpa using hw, E, he, by simpa using h⟩
theorem VT.sto {t : Nat} {a x : Operand} {ty : TypeId} {pos : String} {after : Array Edge} {b q : Nat} {tx : T} {i : TyI} (hT : tab t = some i) (ha : E.opd a = some (.ptr b q)) (hx : E.opd x = some tx) (hl : (flat tx).length = i.sz) (k : VT P tab im ops l E F (W ++ [(b, q, flat tx)]) (fl ++ [false]) K) : VT P tab im ops (⟨none, .store t a x, ty, pos, after, none⟩ :: l) E F W fl K := fun E2 he => by
  obtain ⟨r, fs, ws, E', F', h1, h2, E1, h3, h4⟩ := k _ he
  refine ⟨⟨.v undef, none⟩ :: r, false :: fs, some (b, q, flat tx) :: ws, E', F', .sto rfl rfl rfl hT (he.opd ha) (he.opd hx) hl h1, ?_, E1, h3, ?_⟩
  · simpa using h2
  · simpa using h4
theorem run_runT {f : Bool} {l1 l2 : List Oper} {E1 : Env} {H1 : Hp} {H0 : Hp} {r1 : List Stp} (h : Run P tab im ops l1 E H0 r1 E1 H1) (hno : H1 = H0) (hf : H0 = visH f F) : ∀ {r : List Stp} {fs : List Bool} {ws : List (Option Wr)} {E' : Env} {F' : Hp}, RunT P tab im ops l2 E1 F r fs ws E' F' →
    ∃ r' fs' ws', RunT P tab im ops (l1 ++ l2) E F r' fs' ws' E' F' ∧ ws'.filterMap (·) = ws.filterMap (·) ∧ fs' = List.replicate l1.length f ++ fs := by
  induction h with
  | nil E H => intro r fs ws E' F' k; exact ⟨r, fs, ws, k, rfl, rfl⟩
  | @cons o l E H s r1 E1 H1 h k ih =>
    intro r fs ws E' F' k2
    obtain ⟨x, hx⟩ := run_ext k
    have e : newsOf s.nb = [] := by
      rw [hno, List.append_assoc] at hx
      have := List.append_cancel_left (show H ++ [] = H ++ (newsOf s.nb ++ x) by rw [List.append_nil]; exact hx)
      exact (List.append_eq_nil_iff.1 this.symm).1
    rw [e, List.append_nil] at k ih
    obtain ⟨r', fs', ws', g1, g2, g3⟩ := ih hno hf k2
    refine ⟨s :: r', f :: fs', none :: ws', .one (hf ▸ h) (by rw [e, List.append_nil]; exact g1), by simpa using g2, by rw [g3]; rfl⟩
theorem VT.seg {l1 l2 : List Oper} (f : Bool) (hl : l = l1 ++ l2) (h : VX true P tab im (ops.toList.map (·.dst)) l1 E (visH f F) fun E1 H1 => H1 = visH f F ∧ VT P tab im ops l2 E1 F W (fl ++ List.replicate l1.length f) K) : VT P tab im ops l E F W fl K := fun E2 he => by
  subst hl
  obtain ⟨r1, E1, H1, hr, E3, he3, hh, hv⟩ := vcDraw_run (ops := ops) _ _ _ (h E2 he)
  obtain ⟨r, fs, ws, E', F', k1, k2, E4, k3, k4⟩ := hv _ he3
  obtain ⟨r', fs', ws', g1, g2, g3⟩ := run_runT (f := f) hr hh rfl k1
  exact ⟨r', fs', ws', E', F', g1, by rw [g2]; exact k2, E4, k3, by rw [g2, g3, ← List.append_assoc]; exact k4⟩
end
section
variable {z : Bool} {P : Program} {tab : Tab} {n lb : Nat} {E : Env} {H : Hp} {QT : Exit → Env → Hp → Prop}
theorem VC.drwTN {id : Nat} {l l2 : List Oper} (hT : TabOk P tab) (im : List Nat) (l1 : List Oper) (fl : List Bool) (hl : l = l1 ++ l2) (hm : P.follows .mixedOrders = true) (hB : drawB n l1.length l = true) (hch : chainB l l1.length = true) (hlt : lateB l fl = true) (h : VT P tab im l.toArray l1 E H [] [] fun E H f => f = fl ∧ VX false P tab im (l.map (·.dst)) l2 E H (QT .normal)) : VC z P n lb (.region id l.toArray true) QT E H := by
  have e1 : l.take l1.length = l1 := by rw [hl, List.take_left]
  have e2 : l.drop l1.length = l2 := by rw [hl, List.drop_left]
  obtain ⟨r, fs, ws, E', F', h1, h2, E1, h3, h5, h4⟩ := h E (Sub.refl E)
  have h5' : fs = fl := by simpa using h5
  refine VC.eqv (VC.drawT hT im l1.length hm hB hch ⟨r, fs, ws, E', F', by rw [e1]; exact h1, by rw [h5']; exact hlt, by simpa using h2, ?_⟩)
  rw [e2]
  have := h4 E' h3
  simpa using this
theorem VC.drwT {id : Nat} {l l2 : List Oper} {c : Code} (hT : TabOk P tab) (im : List Nat) (l1 : List Oper) (fl : List Bool) (hl : l = l1 ++ l2) (hm : P.follows .mixedOrders = true) (hB : drawB n l1.length l = true) (hch : chainB l l1.length = true) (hlt : lateB l fl = true) (h : VT P tab im l.toArray l1 E H [] [] fun E H f => f = fl ∧ VX false P tab im (l.map (·.dst)) l2 E H fun E H => VC z P n lb c QT E H) : VC z P n lb (.seq (.region id l.toArray true) c) QT E H := VC.seq (VC.drwTN hT im l1 fl hl hm hB hch hlt h)
end
end
section
open Go.RowKit Go.Sort
set_option maxRecDepth 10000
theorem clone_t (r : Rect) (l : List Rect) (hl : (r :: l).length ≤ 1048576) : CallT Tryz.prog 148 [.islc (encL cR (r :: l)) (r :: l).length none] [] (fun t H' => t = .slc 0 0 (r :: l).length 4 none ∧ H' = [.c (encL cR (r :: l))]) := by
  refine CallT.intro tab_ok Tryz.func148 rfl (by kernel_rfl) (Nat.le_of_ble_eq_true rfl) ?_
  refine VC.reg tab_ok [] rfl ?_
  refine VX.meek rfl ?_
  refine VX.nil ?_
  refine VC.seq ?_
  refine VC.reg tab_ok [] rfl ?_
  iterate 2 refine VX.meek rfl ?_
  refine VX.nil ?_
  refine VC.condF rfl ?_
  refine VC.skip ?_
  refine VC.reg tab_ok [5] rfl ?_
  refine VX.newI rfl rfl ?_
  refine VX.meek rfl ?_
  refine VX.appM rfl rfl (mApp_empty rfl rfl rfl (src_isl cR (l := r :: l) rfl rfl rfl) (by dsimp only; omega) (by omega) (by rw [encL_len]; rfl)) ?_
  refine VX.meek rfl ?_
  refine VX.nil ?_
  refine VC.ret ?_
  exact ⟨trivial, _, rfl, rfl, rfl⟩
theorem rectsO_t (r : Rect) (l : List Rect) (hl : (r :: l).length ≤ 1048576) : CallT Tryz.prog 117 [regT (r :: l)] [] (fun t H' => t = .slc 0 0 (r :: l).length 4 none ∧ H' = [.c (encL cR (r :: l))]) := by
  refine CallT.intro tab_ok Tryz.func117 rfl (by kernel_rfl) (Nat.le_of_ble_eq_true rfl) ?_
  refine VC.reg tab_ok [1] rfl ?_
  refine VX.newI rfl rfl ?_
  refine VX.meek rfl ?_
  refine VX.nil ?_
  refine VC.reg tab_ok [] rfl ?_
  refine VX.meek rfl ?_
  first | refine VX.meek rfl ?_ | refine VX.loadI rfl rfl au_l ?_ | refine VX.loadP rfl rfl rfl au_l ?_
  refine VX.callT rfl rfl (CallT.frame (clone_t r l hl) [] rfl au_ci au_ci ?_)
  rintro _ _ ⟨rfl, rfl⟩
  refine frK au_co au_co ?_
  refine VX.meek rfl ?_
  refine VX.nil ?_
  refine VC.ret ?_
  exact ⟨trivial, _, rfl, rfl, rfl⟩
def mvR (dx dy : Int) (r : Rect) : Rect := ⟨max (r.X + dx) (-1048576), max (r.Y + dy) (-1048576), min (r.X + dx + r.W) 1048576 - max (r.X + dx) (-1048576), min (r.Y + dy + r.H) 1048576 - max (r.Y + dy) (-1048576)⟩
def farB (dx dy : Int) : Bool := decide (dx < -2097152) || decide (2097152 < dx) || decide (dy < -2097152) || decide (2097152 < dy)
noncomputable def shiftR (R : List Rect) (dx dy : Int) : List Rect := if farB dx dy = true then [] else bandOf (R.map (mvR dx dy))
theorem put_two {s : List Rect} {k o1 o2 : Nat} {r1 r2 : Rect} {x1 x2 : Int} (hk : k < s.length) (h1 : o1 + 1 ≤ 4) (h2 : o2 + 1 ≤ 4) (e1 : putL (cR.cells s[k]!) o1 [I64 x1] = cR.cells r1) (e2 : putL (cR.cells r1) o2 [I64 x2] = cR.cells r2) :
    putL (putL (encL cR s) (k * 4 + o1) [I64 x1]) (k * 4 + o2) [I64 x2] = encL cR (s.set k r2) := by
  have a1 := encL_put cR s k o1 s[k]! r1 [I64 x1] (getE hk) h1 e1
  have hk2 : k < (s.set k r1).length := by rw [List.length_set]; exact hk
  have hg : (s.set k r1)[k]? = some r1 := by rw [List.getElem?_set_self hk]
  have a2 := encL_put cR (s.set k r1) k o2 r1 r2 [I64 x2] hg h2 e2
  rw [List.set_set] at a2
  rw [cR_sz] at a1 a2
  rw [a1, a2]
theorem bang_setR {s : List Rect} {k : Nat} (hk : k < s.length) (r : Rect) : (s.set k r)[k]! = r := by
  rw [getElem!_pos (s.set k r) k (by rw [List.length_set]; exact hk), List.getElem_set_self]
theorem step_mv {f : Rect → Rect} {R : List Rect} {k : Nat} (hk : k < R.length) : ((R.take k).map f ++ R.drop k).set k (f R[k]!) = (R.take (k + 1)).map f ++ R.drop (k + 1) := by
  have hl : ((R.take k).map f).length = k := by rw [List.length_map, List.length_take]; omega
  rw [List.set_append_right _ _ (by omega), hl, Nat.sub_self, take_snoc hk, List.map_append, List.append_assoc]
  congr 1
  rw [List.drop_eq_getElem_cons hk]
  show f R[k]! :: R.drop (k + 1) = [R[k]!].map f ++ R.drop (k + 1)
  rfl
theorem at_mv {f : Rect → Rect} {R : List Rect} {k : Nat} (hk : k < R.length) : ((R.take k).map f ++ R.drop k)[k]! = R[k]! := by
  have hl : ((R.take k).map f).length = k := by rw [List.length_map, List.length_take]; omega
  rw [getElem!_pos ((R.take k).map f ++ R.drop k) k (by rw [List.length_append, hl, List.length_drop]; omega), List.getElem_append_right (by omega), getElem!_pos R k hk]
  simp only [List.getElem_drop, hl, Nat.sub_self, Nat.add_zero]
theorem len_mv {f : Rect → Rect} {R : List Rect} {k : Nat} (hk : k ≤ R.length) : ((R.take k).map f ++ R.drop k).length = R.length := by
  rw [List.length_append, List.length_map, List.length_take, List.length_drop]; omega
theorem shift_p (R : List Rect) (dx dy : Int) (hr : ∀ r ∈ R, rok r) (hn : R.length ≤ 1048576) : CallP Tryz.prog 98 [regT R, I64 dx, I64 dy] (regT (shiftR R dx dy)) := by
  cases R with
  | nil =>
    refine CallP.intro2 au_pu au_pu ?_
    refine CallT.intro tab_ok Tryz.func98 rfl (by kernel_rfl) (Nat.le_of_ble_eq_true rfl) ?_
    refine VC.reg tab_ok [3] rfl ?_
    refine VX.newI rfl rfl ?_
    refine VX.new rfl rfl ?_
    refine VX.nil ?_
    refine VC.seq ?_
    refine VC.reg tab_ok [] rfl ?_
    iterate 3 refine VX.meek rfl ?_
    refine' VX.merge (d := 14) [_, _, _] rfl ?_ rfl ?_
    rotate_left
    · refine VX.guard rfl rfl (fun hb1_2 => ?_) (fun hb1_2 => ?_)
      · have ghb1_2 := hb1_2
        try simp only [au_std, Bool.not_true, Bool.not_false] at ghb1_2
        refine VX.meek rfl ?_
        refine VX.guardT rfl rfl hb1_2 ?_
        refine VX.meek rfl ?_
        refine VX.pickO rfl (fun _ => rfl) ?_
        exact VX.nil ⟨rfl, rfl⟩
      · refine VX.guardF rfl rfl hb1_2 ?_
        exact VX.pickO rfl (fun h => absurd (h.symm.trans hb1_2) (by decide)) (VX.nil ⟨rfl, rfl⟩)
    refine VX.meek rfl ?_
    refine' VX.merge (d := 18) [_, _, _] rfl ?_ rfl ?_
    rotate_left
    · refine VX.guard rfl rfl (fun hb1_6 => ?_) (fun hb1_6 => ?_)
      · have ghb1_6 := hb1_6
        try simp only [au_std, Bool.not_true, Bool.not_false] at ghb1_6
        refine VX.meek rfl ?_
        refine VX.guardT rfl rfl hb1_6 ?_
        refine VX.meek rfl ?_
        refine VX.pickO rfl (fun _ => rfl) ?_
        exact VX.nil ⟨rfl, rfl⟩
      · refine VX.guardF rfl rfl hb1_6 ?_
        exact VX.pickO rfl (fun h => absurd (h.symm.trans hb1_6) (by decide)) (VX.nil ⟨rfl, rfl⟩)
    refine VX.meek rfl ?_
    refine' VX.merge (d := 22) [_, _, _] rfl ?_ rfl ?_
    rotate_left
    · refine VX.guard rfl rfl (fun hb1_10 => ?_) (fun hb1_10 => ?_)
      · have ghb1_10 := hb1_10
        try simp only [au_std, Bool.not_true, Bool.not_false] at ghb1_10
        refine VX.meek rfl ?_
        refine VX.guardT rfl rfl hb1_10 ?_
        refine VX.meek rfl ?_
        refine VX.pickO rfl (fun _ => rfl) ?_
        exact VX.nil ⟨rfl, rfl⟩
      · refine VX.guardF rfl rfl hb1_10 ?_
        exact VX.pickO rfl (fun h => absurd (h.symm.trans hb1_10) (by decide)) (VX.nil ⟨rfl, rfl⟩)
    refine VX.nil ?_
    refine VC.cond rfl (fun hc0 => ?_) (fun hc0 => ?_)
    · (try simp only [au_std] at hc0); have hf : shiftR [] dx dy = [] := (by unfold shiftR; rw [if_pos (by unfold farB; simp only [Bool.or_eq_true, decide_eq_true_eq]; omega)]); rw [hf]
      refine VC.reg tab_ok [] rfl ?_
      refine VX.meek rfl ?_
      refine VX.store rfl rfl rfl rfl rfl au_sS rfl ?_
      refine VX.nil ?_
      refine VC.ret ?_
      exact ⟨trivial, _, rfl, Cv.agg (CvL.cons (Cv.nil _ (.inl rfl)) CvL.nil)⟩
    · (try simp only [au_std] at hc0); have hf : shiftR [] dx dy = bandOf [] := (by unfold shiftR; rw [if_neg (by unfold farB; simp only [Bool.or_eq_true, decide_eq_true_eq]; omega)]; rfl); rw [hf]
      refine VC.skip ?_
      refine VC.reg tab_ok [] rfl ?_
      first | refine VX.meek rfl ?_ | refine VX.loadI rfl rfl au_l ?_ | refine VX.loadP rfl rfl rfl au_l ?_
      refine VX.callP0 rfl rfl rfl (rects_p [] (by simp)) ?_
      refine VX.meek rfl ?_
      refine VX.nil ?_
      refine VC.seq ?_
      refine VC.reg tab_ok [] rfl ?_
      iterate 3 refine VX.meek rfl ?_
      refine VX.nil ?_
      refine VC.block ?_
      refine VC.loopS (σ := Nat) (fun _ => 1) (fun k => k = 0) (fun _ => [(28, I64 0), (6, .ptr 0 0)]) (fun _ => [.c [NIL]]) [1, 2, 7, 27] rfl (0) ?_ ?_ ?_
      · refine ⟨[some 0], rfl, by first | trivial | decide, rfl, ?_, ?_⟩ <;> (repeat' first | exact trivial | exact CvB_n | exact CvB_d | refine CvE_app ?_ ?_ | refine CvE_cons rfl ?_ ?_ | refine CvH_cons ?_ ?_ | refine CvB_c rfl ?_ | fail) <;> first | exact au_v | (skip)
      · exact rfl
      rintro k hk
      refine VC.reg tab_ok [] rfl ?_
      refine VX.meek rfl ?_
      refine VX.nil ?_
      refine VC.seq ?_
      refine VC.cond rfl (fun hc1 => ?_) (fun hc1 => ?_)
      · exact absurd hc1 (by simp)
      · (try simp only [au_std] at hc1)
        refine VC.exit ?_
        refine VC.reg tab_ok [] rfl ?_
        refine VX.meek rfl ?_
        refine VX.callP0 rfl rfl rfl (of_p [] (by simp) (fun r hr => by cases hr)) ?_
        refine VX.store rfl rfl rfl rfl rfl au_sS rfl ?_
        refine VX.nil ?_
        refine VC.ret ?_
        exact ⟨trivial, _, rfl, Cv.agg (CvL.cons (Cv.pure (encL_pure cR _)) CvL.nil)⟩
  | cons r0 l0 =>
    have hof : ∀ k, k < (r0 :: l0).length → rok (r0 :: l0)[k]! := fun k hk => hr _ (List.mem_iff_getElem?.2 ⟨k, getE hk⟩)
    have hcl := rectsO_t r0 l0 hn
    generalize hR : r0 :: l0 = R at *
    refine CallP.intro2 au_pu au_pu ?_
    refine CallT.intro tab_ok Tryz.func98 rfl (by kernel_rfl) (Nat.le_of_ble_eq_true rfl) ?_
    refine VC.reg tab_ok [3] rfl ?_
    refine VX.newI rfl rfl ?_
    refine VX.new rfl rfl ?_
    refine VX.nil ?_
    refine VC.seq ?_
    refine VC.reg tab_ok [] rfl ?_
    iterate 3 refine VX.meek rfl ?_
    refine' VX.merge (d := 14) [_, _, _] rfl ?_ rfl ?_
    rotate_left
    · refine VX.guard rfl rfl (fun hb1_2 => ?_) (fun hb1_2 => ?_)
      · have ghb1_2 := hb1_2
        try simp only [au_std, Bool.not_true, Bool.not_false] at ghb1_2
        refine VX.meek rfl ?_
        refine VX.guardT rfl rfl hb1_2 ?_
        refine VX.meek rfl ?_
        refine VX.pickO rfl (fun _ => rfl) ?_
        exact VX.nil ⟨rfl, rfl⟩
      · refine VX.guardF rfl rfl hb1_2 ?_
        exact VX.pickO rfl (fun h => absurd (h.symm.trans hb1_2) (by decide)) (VX.nil ⟨rfl, rfl⟩)
    refine VX.meek rfl ?_
    refine' VX.merge (d := 18) [_, _, _] rfl ?_ rfl ?_
    rotate_left
    · refine VX.guard rfl rfl (fun hb1_6 => ?_) (fun hb1_6 => ?_)
      · have ghb1_6 := hb1_6
        try simp only [au_std, Bool.not_true, Bool.not_false] at ghb1_6
        refine VX.meek rfl ?_
        refine VX.guardT rfl rfl hb1_6 ?_
        refine VX.meek rfl ?_
        refine VX.pickO rfl (fun _ => rfl) ?_
        exact VX.nil ⟨rfl, rfl⟩
      · refine VX.guardF rfl rfl hb1_6 ?_
        exact VX.pickO rfl (fun h => absurd (h.symm.trans hb1_6) (by decide)) (VX.nil ⟨rfl, rfl⟩)
    refine VX.meek rfl ?_
    refine' VX.merge (d := 22) [_, _, _] rfl ?_ rfl ?_
    rotate_left
    · refine VX.guard rfl rfl (fun hb1_10 => ?_) (fun hb1_10 => ?_)
      · have ghb1_10 := hb1_10
        try simp only [au_std, Bool.not_true, Bool.not_false] at ghb1_10
        refine VX.meek rfl ?_
        refine VX.guardT rfl rfl hb1_10 ?_
        refine VX.meek rfl ?_
        refine VX.pickO rfl (fun _ => rfl) ?_
        exact VX.nil ⟨rfl, rfl⟩
      · refine VX.guardF rfl rfl hb1_10 ?_
        exact VX.pickO rfl (fun h => absurd (h.symm.trans hb1_10) (by decide)) (VX.nil ⟨rfl, rfl⟩)
    refine VX.nil ?_
    refine VC.cond rfl (fun hc0 => ?_) (fun hc0 => ?_)
    · (try simp only [au_std] at hc0); have hf : shiftR R dx dy = [] := (by unfold shiftR; rw [if_pos (by unfold farB; simp only [Bool.or_eq_true, decide_eq_true_eq]; omega)]); rw [hf]
      refine VC.reg tab_ok [] rfl ?_
      refine VX.meek rfl ?_
      refine VX.store rfl rfl rfl rfl rfl au_sS rfl ?_
      refine VX.nil ?_
      refine VC.ret ?_
      exact ⟨trivial, _, rfl, Cv.agg (CvL.cons (Cv.nil _ (.inl rfl)) CvL.nil)⟩
    · (try simp only [au_std] at hc0); have hf : shiftR R dx dy = bandOf (R.map (mvR dx dy)) := (by unfold shiftR; rw [if_neg (by unfold farB; simp only [Bool.or_eq_true, decide_eq_true_eq]; omega)]); rw [hf]
      have hmv : ∀ q ∈ R.map (mvR dx dy), i64 q.X ∧ i64 q.Y := (fun q hq => by
      obtain ⟨r, h1, rfl⟩ := List.mem_map.1 hq
      have := hr r h1
      unfold rok at this
      unfold mvR i64
      dsimp only
      omega)
      refine VC.skip ?_
      refine VC.reg tab_ok [] rfl ?_
      first | refine VX.meek rfl ?_ | refine VX.loadI rfl rfl au_l ?_ | refine VX.loadP rfl rfl rfl au_l ?_
      refine VX.callT rfl rfl (CallT.frame (hcl) [] rfl au_ci au_ci ?_)
      rintro _ _ ⟨rfl, rfl⟩
      refine frK au_co au_co ?_
      refine VX.meek rfl ?_
      refine VX.nil ?_
      refine VC.seq ?_
      refine VC.reg tab_ok [] rfl ?_
      iterate 3 refine VX.meek rfl ?_
      refine VX.nil ?_
      refine VC.block ?_
      refine VC.loopS (σ := Nat) (fun k => R.length - k) (fun k => k ≤ R.length) (fun k => [(28, I64 k), (6, .ptr 0 0), (7, .slc 1 0 R.length 4 none)]) (fun k => [.c [NIL], .c (encL cR ((R.take k).map (mvR dx dy) ++ R.drop k))]) [1, 2, 27] rfl (0) ?_ ?_ ?_
      · refine ⟨[some 0, some 1], rfl, by first | trivial | decide, rfl, ?_, ?_⟩ <;> (repeat' first | exact trivial | exact CvB_n | exact CvB_d | refine CvE_app ?_ ?_ | refine CvE_cons rfl ?_ ?_ | refine CvH_cons ?_ ?_ | refine CvB_c rfl ?_ | fail) <;> first | exact au_v | (skip)
      · (try dsimp only); omega
      rintro k hk
      refine VC.reg tab_ok [] rfl ?_
      refine VX.meek rfl ?_
      refine VX.nil ?_
      refine VC.seq ?_
      refine VC.cond rfl (fun hc1 => ?_) (fun hc1 => ?_)
      · (try simp only [au_std] at hc1); have hkl : k < R.length := (by omega); have hrk := hof k hkl; unfold rok at hrk; have hst := step_mv (f := mvR dx dy) hkl; have hat := at_mv (f := mvR dx dy) hkl; have hln := len_mv (f := mvR dx dy) (R := R) hk; rw [← hat] at hrk hst
        generalize hcur : (R.take k).map (mvR dx dy) ++ R.drop k = cur at *
        have hkc : k < cur.length := (by omega)
        obtain ⟨r2, hr2⟩ : ∃ r2 : Rect, r2 = ⟨max (cur[k]!.X + dx) (-1048576), cur[k]!.Y, min (cur[k]!.X + dx + cur[k]!.W) 1048576 - max (cur[k]!.X + dx) (-1048576), cur[k]!.H⟩ := ⟨_, rfl⟩
        obtain ⟨cur2, hcur2⟩ : ∃ c, c = cur.set k r2 := ⟨_, rfl⟩
        have hkc2 : k < cur2.length := (by rw [hcur2, List.length_set]; exact hkc)
        have hg2 : cur2[k]! = r2 := (by rw [hcur2]; exact bang_setR hkc r2)
        have hY : cur2[k]!.Y = cur[k]!.Y := (by rw [hg2, hr2])
        have hH : cur2[k]!.H = cur[k]!.H := (by rw [hg2, hr2])
        have hln2 : cur2.length = R.length := (by rw [hcur2, List.length_set]; exact hln)
        have hfin : cur2.set k ⟨cur2[k]!.X, max (cur2[k]!.Y + dy) (-1048576), cur2[k]!.W, min (cur2[k]!.Y + dy + cur2[k]!.H) 1048576 - max (cur2[k]!.Y + dy) (-1048576)⟩ = (R.take (k + 1)).map (mvR dx dy) ++ R.drop (k + 1) := (by rw [← hst, hg2, hcur2, List.set_set, hr2]; rfl)
        have hf1 : k * 4 + 1 ≤ (encL cR cur).length := (by rw [encL_len, cR_sz]; omega)
        have hf2 : k * 4 + 1 + 1 ≤ (encL cR cur2).length := (by rw [encL_len, cR_sz]; omega)
        refine VC.skip ?_
        refine VC.seq ?_
        refine VC.block ?_
        refine VC.reg tab_ok [] rfl ?_
        iterate 2 refine VX.meek rfl ?_
        refine VX.nil ?_
        refine VC.drwT tab_ok [] [_, _, _, _, _, _, _, _, _, _, _, _, _, _, _, _, _, _, _, _, _, _] [true, true, false, false, true, true, true, true, true, true, true, true, true, true, true, true, true, true, false, true, true, false] rfl (by kernel_rfl) (by kernel_rfl) (by kernel_rfl) (by kernel_rfl) ?_
        refine VT.seg true (l1 := [_, _]) rfl ?_
        iterate 2 refine VX.meek rfl ?_
        refine VX.nil ⟨rfl, ?_⟩
        refine VT.seg false (l1 := [_, _]) rfl ?_
        iterate 2 refine VX.meek rfl ?_
        refine VX.nil ⟨rfl, ?_⟩
        refine VT.seg true (l1 := [_, _, _, _, _, _, _, _, _, _, _, _, _, _]) rfl ?_
        iterate 2 refine VX.meek rfl ?_
        first | refine VX.idxI rfl rfl rfl rfl rfl rfl (by omega) ?_ | refine VX.idxO0 rfl rfl rfl rfl rfl rfl rfl (by omega) ?_ | refine VX.idxO0 rfl rfl rfl rfl rfl rfl au_z (by omega) ?_ | refine VX.idxO rfl rfl rfl rfl rfl rfl rfl (by omega) ?_ | refine VX.idxI rfl rfl rfl rfl rfl au_z (by omega) ?_ | refine VX.idxO rfl rfl rfl rfl rfl rfl au_z (by omega) ?_ | refine VX.meek rfl ?_
        refine VX.meek rfl ?_
        first | refine VX.meek rfl ?_ | refine VX.loadI rfl rfl au_l ?_ | refine VX.loadP rfl rfl rfl au_l ?_
        iterate 2 refine VX.meek rfl ?_
        first | refine VX.idxI rfl rfl rfl rfl rfl rfl (by omega) ?_ | refine VX.idxO0 rfl rfl rfl rfl rfl rfl rfl (by omega) ?_ | refine VX.idxO0 rfl rfl rfl rfl rfl rfl au_z (by omega) ?_ | refine VX.idxO rfl rfl rfl rfl rfl rfl rfl (by omega) ?_ | refine VX.idxI rfl rfl rfl rfl rfl au_z (by omega) ?_ | refine VX.idxO rfl rfl rfl rfl rfl rfl au_z (by omega) ?_ | refine VX.meek rfl ?_
        refine VX.meek rfl ?_
        first | refine VX.meek rfl ?_ | refine VX.loadI rfl rfl au_l ?_ | refine VX.loadP rfl rfl rfl au_l ?_
        refine VX.meek rfl ?_
        refine VX.callP0 rfl rfl rfl (moved_p cur[k]!.X cur[k]!.W dx (by omega) (by omega) (by omega)) ?_
        iterate 2 refine VX.meek rfl ?_
        refine VX.nil ⟨rfl, ?_⟩
        refine VT.seg false (l1 := [_]) rfl ?_
        refine VX.meek rfl ?_
        refine VX.nil ⟨rfl, ?_⟩
        refine VT.seg true (l1 := [_, _]) rfl ?_
        first | refine VX.idxI rfl rfl rfl rfl rfl rfl (by omega) ?_ | refine VX.idxO0 rfl rfl rfl rfl rfl rfl rfl (by omega) ?_ | refine VX.idxO0 rfl rfl rfl rfl rfl rfl au_z (by omega) ?_ | refine VX.idxO rfl rfl rfl rfl rfl rfl rfl (by omega) ?_ | refine VX.idxI rfl rfl rfl rfl rfl au_z (by omega) ?_ | refine VX.idxO rfl rfl rfl rfl rfl rfl au_z (by omega) ?_ | refine VX.meek rfl ?_
        refine VX.meek rfl ?_
        refine VX.nil ⟨rfl, ?_⟩
        refine VT.sto rfl rfl rfl rfl ?_
        refine VT.nil (⟨hf1, rfl, trivial⟩) ⟨rfl, ?_⟩
        first | refine VX.idxI rfl rfl rfl rfl rfl rfl (by omega) ?_ | refine VX.idxO0 rfl rfl rfl rfl rfl rfl rfl (by omega) ?_ | refine VX.idxO0 rfl rfl rfl rfl rfl rfl au_z (by omega) ?_ | refine VX.idxO rfl rfl rfl rfl rfl rfl rfl (by omega) ?_ | refine VX.idxI rfl rfl rfl rfl rfl au_z (by omega) ?_ | refine VX.idxO rfl rfl rfl rfl rfl rfl au_z (by omega) ?_ | refine VX.meek rfl ?_
        refine VX.meek rfl ?_
        refine VX.store rfl rfl rfl rfl rfl (show k * 4 + 2 + 1 ≤ (putL (encL cR cur) (k * 4) [I64 (max (cur[k]!.X + dx) (-1048576))]).length by rw [putL_length _ _ _ hf1, encL_len, cR_sz]; omega) rfl ?_
        refine VX.nil ?_
        refine VC.view ([(28, I64 k), (6, .ptr 0 0), (7, .slc 1 0 R.length 4 none)]) ([.c [NIL], .c (encL cR cur2)]) [1, 2, 8, 27] rfl (by refine ⟨[some 0, some 1], rfl, by first | trivial | decide, rfl, ?_, ?_⟩ <;> (repeat' first | exact trivial | exact CvB_n | exact CvB_d | refine CvE_app ?_ ?_ | refine CvE_cons rfl ?_ ?_ | refine CvH_cons ?_ ?_ | refine CvB_c rfl ?_ | fail) <;> first | exact au_v | (first | (rw [hcur2, hr2]; exact CvL.eq (put_two (o1 := 0) (o2 := 2) (r1 := ⟨max (cur[k]!.X + dx) (-1048576), cur[k]!.Y, cur[k]!.W, cur[k]!.H⟩) hkc (by decide) (by decide) rfl rfl) (encL_pure cR _)) | exact CvL.pure rfl)) ?_
        refine VC.drwTN tab_ok [] [_, _, _, _, _, _, _, _, _, _, _, _, _, _, _, _, _, _, _, _, _, _] [true, true, false, false, true, true, true, true, true, true, true, true, true, true, true, true, true, true, false, true, true, false] rfl (by kernel_rfl) (by kernel_rfl) (by kernel_rfl) (by kernel_rfl) ?_
        refine VT.seg true (l1 := [_, _]) rfl ?_
        iterate 2 refine VX.meek rfl ?_
        refine VX.nil ⟨rfl, ?_⟩
        refine VT.seg false (l1 := [_, _]) rfl ?_
        iterate 2 refine VX.meek rfl ?_
        refine VX.nil ⟨rfl, ?_⟩
        refine VT.seg true (l1 := [_, _, _, _, _, _, _, _, _, _, _, _, _, _]) rfl ?_
        iterate 2 refine VX.meek rfl ?_
        first | refine VX.idxI rfl rfl rfl rfl rfl rfl (by omega) ?_ | refine VX.idxO0 rfl rfl rfl rfl rfl rfl rfl (by omega) ?_ | refine VX.idxO0 rfl rfl rfl rfl rfl rfl au_z (by omega) ?_ | refine VX.idxO rfl rfl rfl rfl rfl rfl rfl (by omega) ?_ | refine VX.idxI rfl rfl rfl rfl rfl au_z (by omega) ?_ | refine VX.idxO rfl rfl rfl rfl rfl rfl au_z (by omega) ?_ | refine VX.meek rfl ?_
        refine VX.meek rfl ?_
        first | refine VX.meek rfl ?_ | refine VX.loadI rfl rfl au_l ?_ | refine VX.loadP rfl rfl rfl au_l ?_
        iterate 2 refine VX.meek rfl ?_
        first | refine VX.idxI rfl rfl rfl rfl rfl rfl (by omega) ?_ | refine VX.idxO0 rfl rfl rfl rfl rfl rfl rfl (by omega) ?_ | refine VX.idxO0 rfl rfl rfl rfl rfl rfl au_z (by omega) ?_ | refine VX.idxO rfl rfl rfl rfl rfl rfl rfl (by omega) ?_ | refine VX.idxI rfl rfl rfl rfl rfl au_z (by omega) ?_ | refine VX.idxO rfl rfl rfl rfl rfl rfl au_z (by omega) ?_ | refine VX.meek rfl ?_
        refine VX.meek rfl ?_
        first | refine VX.meek rfl ?_ | refine VX.loadI rfl rfl au_l ?_ | refine VX.loadP rfl rfl rfl au_l ?_
        refine VX.meek rfl ?_
        refine VX.callP0 rfl rfl rfl (moved_p cur2[k]!.Y cur2[k]!.H dy (by omega) (by omega) (by omega)) ?_
        iterate 2 refine VX.meek rfl ?_
        refine VX.nil ⟨rfl, ?_⟩
        refine VT.seg false (l1 := [_]) rfl ?_
        refine VX.meek rfl ?_
        refine VX.nil ⟨rfl, ?_⟩
        refine VT.seg true (l1 := [_, _]) rfl ?_
        first | refine VX.idxI rfl rfl rfl rfl rfl rfl (by omega) ?_ | refine VX.idxO0 rfl rfl rfl rfl rfl rfl rfl (by omega) ?_ | refine VX.idxO0 rfl rfl rfl rfl rfl rfl au_z (by omega) ?_ | refine VX.idxO rfl rfl rfl rfl rfl rfl rfl (by omega) ?_ | refine VX.idxI rfl rfl rfl rfl rfl au_z (by omega) ?_ | refine VX.idxO rfl rfl rfl rfl rfl rfl au_z (by omega) ?_ | refine VX.meek rfl ?_
        refine VX.meek rfl ?_
        refine VX.nil ⟨rfl, ?_⟩
        refine VT.sto rfl rfl rfl rfl ?_
        refine VT.nil (⟨hf2, rfl, trivial⟩) ⟨rfl, ?_⟩
        first | refine VX.idxI rfl rfl rfl rfl rfl rfl (by omega) ?_ | refine VX.idxO0 rfl rfl rfl rfl rfl rfl rfl (by omega) ?_ | refine VX.idxO0 rfl rfl rfl rfl rfl rfl au_z (by omega) ?_ | refine VX.idxO rfl rfl rfl rfl rfl rfl rfl (by omega) ?_ | refine VX.idxI rfl rfl rfl rfl rfl au_z (by omega) ?_ | refine VX.idxO rfl rfl rfl rfl rfl rfl au_z (by omega) ?_ | refine VX.meek rfl ?_
        refine VX.meek rfl ?_
        refine VX.store rfl rfl rfl rfl rfl (show k * 4 + 3 + 1 ≤ (putL (encL cR cur2) (k * 4 + 1) [I64 (max (cur2[k]!.Y + dy) (-1048576))]).length by rw [putL_length _ _ _ hf2, encL_len, cR_sz]; omega) rfl ?_
        refine VX.nil ?_
        refine VC.regN tab_ok [] rfl ?_
        first | refine VX.add rfl rfl (by omega) ?_ | refine VX.meek rfl ?_
        refine VX.meek rfl ?_
        refine VX.nil ?_
        refine ⟨k + 1, by (try dsimp only); omega, ?_, (by refine ⟨[some 0, some 1], rfl, by first | trivial | decide, rfl, ?_, ?_⟩ <;> (repeat' first | exact trivial | exact CvB_n | exact CvB_d | refine CvE_app ?_ ?_ | refine CvE_cons rfl ?_ ?_ | refine CvH_cons ?_ ?_ | refine CvB_c rfl ?_ | fail) <;> first | exact au_v | (first | (rw [← hfin]; exact CvL.eq (put_two (o1 := 1) (o2 := 3) (r1 := ⟨cur2[k]!.X, max (cur2[k]!.Y + dy) (-1048576), cur2[k]!.W, cur2[k]!.H⟩) hkc2 (by decide) (by decide) rfl rfl) (encL_pure cR _)) | exact CvL.pure rfl))⟩
        (try dsimp only); omega
      · (try simp only [au_std] at hc1); obtain rfl : k = R.length := (by omega); rw [List.take_length, List.drop_length, List.append_nil]
        refine VC.view ([(7, .islc (encL cR (R.map (mvR dx dy))) (R.map (mvR dx dy)).length none), (6, .ptr 0 0)]) ([.c [NIL]]) [] rfl (by refine ⟨[some 0], rfl, by first | trivial | decide, rfl, ?_, ?_⟩ <;> (repeat' first | exact trivial | exact CvB_n | exact CvB_d | refine CvE_app ?_ ?_ | refine CvE_cons rfl ?_ ?_ | refine CvH_cons ?_ ?_ | refine CvB_c rfl ?_ | fail) <;> first | exact au_v | (first | (rw [List.length_map]; exact Cv.fslc0 ⟨rfl, by simp⟩ (CvL.pure (encL_pure cR _))) | exact CvL.pure rfl)) ?_
        refine VC.exit ?_
        refine VC.reg tab_ok [] rfl ?_
        refine VX.meek rfl ?_
        refine VX.callP0 rfl rfl rfl (of_p (R.map (mvR dx dy)) (by rw [List.length_map]; omega) hmv) ?_
        refine VX.store rfl rfl rfl rfl rfl au_sS rfl ?_
        refine VX.nil ?_
        refine VC.ret ?_
        exact ⟨trivial, _, rfl, Cv.agg (CvL.cons (Cv.pure (encL_pure cR _)) CvL.nil)⟩
end
section
open Go.RowKit Go.Sort
set_option maxRecDepth 10000
def moveF (w : Nat) (px : List Int) (p : PenS) (src : Int → Int → Int) : Int → Int → Int → Int := fun x y _ => mixI p.f (src x y) px[(y * w + x).toNat]! p.pl
theorem moveF_bd (w : Nat) (px : List Int) (p : PenS) (src : Int → Int → Int) : ∀ x y o, 0 ≤ o ∧ o < 256 → 0 ≤ moveF w px p src x y o ∧ moveF w px p src x y o < 256 := fun x y o _ => by have := mixI_bd p.f (src x y) px[(y * w + x).toNat]! p.pl; unfold moveF; omega
theorem move_t (w h : Nat) (px s0 : List Int) (l : List Rect) (p : PenS) (g : FuncId) (caps : List T) (src : Int → Int → Int) (hcv : ∀ v : Vw, v.R 0 0 → CvL v caps caps) (hw : w ≤ 128) (hh : h ≤ 128) (hpx : px.length = w * h) (hl : s0.length = w * h) (hc : Canon l) (hr : ∀ r ∈ l, rok r) (hn : l.length ≤ 1048576)
    (hin : ∀ x y, inL l x y → 0 ≤ x ∧ x < w ∧ 0 ≤ y ∧ y < h) (hb : ∀ v ∈ s0, 0 ≤ v ∧ v < 256) (hpb : ∀ v ∈ px, 0 ≤ v ∧ v < 256) (hpl : 0 ≤ p.pl ∧ p.pl < 256) (hsb : ∀ x y, inL l x y → 0 ≤ src x y ∧ src x y < 256)
    (hdo : ∀ (s : List Int) (x y : Int), s.length = w * h → inL l x y → CallT Tryz.prog g ([] ++ [I64 x, I64 y] ++ caps) [.c (encL cU s)] (fun t H' => t = U8 (src x y) ∧ H' = [.c (encL cU s)])) :
    CallT Tryz.prog 99 [plT 0 w h px, regT l, penT p, .clo g [] caps] [.c (encL cU s0)] (fun t H' => t = .tup [] ∧ H' = [.c (encL cU (paintL w (inL l) (moveF w px p src) s0))]) := by
  have hcp : ∀ v : Vw, v.R 0 0 → Cv v (.clo g [] caps) (.clo g [] caps) := fun v hv => Cv.clo CvL.nil (hcv v hv)
  have hpp : ∀ v : Vw, v.R 0 0 → Cv v (plT 0 w h px) (plT 0 w h px) := fun v hv => Cv.iptr (cv_pl (Cv.pure (encL_pure cU _)) (Cv.slc hv (.inl rfl)))
  refine CallT.intro tab_ok Tryz.func99 rfl (by kernel_rfl) (Nat.le_of_ble_eq_true rfl) ?_
  refine VC.reg tab_ok [5, 6] rfl ?_
  refine VX.newI rfl rfl ?_
  refine VX.newI rfl rfl ?_
  refine VX.nil ?_
  refine VC.scope ?_
  refine VC.seq ?_
  refine VC.label ?_
  refine VC.reg tab_ok [] rfl ?_
  first | refine VX.meek rfl ?_ | refine VX.loadI rfl rfl au_l ?_ | refine VX.loadP rfl rfl rfl au_l ?_
  refine VX.callP0 rfl rfl rfl (rects_p l hn) ?_
  iterate 2 refine VX.meek rfl ?_
  refine VX.nil ?_
  refine VC.block ?_
  refine VC.loopS (σ := Nat) (fun k => l.length - k) (fun k => k ≤ l.length) (fun k => [(15, I64 k), (0, plT 0 w h px), (3, .clo g [] caps)]) (fun k => [.c (encL cU (paintL w (inL (l.take k)) (moveF w px p src) s0))]) [6, 13, 14] rfl (0) ?_ ?_ ?_
  · refine ⟨[some 0], rfl, by first | trivial | decide, rfl, ?_, ?_⟩ <;> (repeat' first | exact trivial | exact CvB_n | exact CvB_d | refine CvE_app ?_ ?_ | refine CvE_cons rfl ?_ ?_ | refine CvH_cons ?_ ?_ | refine CvB_c rfl ?_ | fail) <;> first | exact au_v | (first | exact hcp _ rfl | exact hpp _ rfl | exact CvL.eq (congrArg (encL cU) (paint_none hl (fun a b _ _ _ _ => by rw [List.take_zero]; exact inL_nil)).symm) (encL_pure cU _))
  · (try dsimp only); omega
  rintro k hk
  refine VC.reg tab_ok [] rfl ?_
  refine VX.meek rfl ?_
  refine VX.nil ?_
  refine VC.seq ?_
  refine VC.cond rfl (fun hc0 => ?_) (fun hc0 => ?_)
  · (try simp only [au_std] at hc0); have hkl : k < l.length := (by omega); have hmk : l[k]! ∈ l := List.mem_iff_getElem?.2 ⟨k, getE hkl⟩; have hrk := hr l[k]! hmk; unfold rok at hrk; have hik : ∀ x y, l[k]!.has x y → 0 ≤ x ∧ x < w ∧ 0 ≤ y ∧ y < h := fun x y hh => hin x y ⟨_, hmk, hh⟩
    refine VC.skip ?_
    refine VC.seq ?_
    refine VC.block ?_
    refine VC.reg tab_ok [] rfl ?_
    first | refine VX.idxI rfl rfl rfl rfl rfl rfl (by omega) ?_ | refine VX.idxO0 rfl rfl rfl rfl rfl rfl rfl (by omega) ?_ | refine VX.idxO0 rfl rfl rfl rfl rfl rfl au_z (by omega) ?_ | refine VX.idxO rfl rfl rfl rfl rfl rfl rfl (by omega) ?_ | refine VX.idxI rfl rfl rfl rfl rfl au_z (by omega) ?_ | refine VX.idxO rfl rfl rfl rfl rfl rfl au_z (by omega) ?_ | refine VX.meek rfl ?_
    first | refine VX.meek rfl ?_ | refine VX.loadI rfl rfl au_l ?_ | refine VX.loadP rfl rfl rfl au_l ?_
    refine VX.new rfl rfl ?_
    refine VX.store rfl rfl rfl rfl rfl au_sR rfl ?_
    refine VX.nil ?_
    refine VC.reg tab_ok [] rfl ?_
    refine VX.meek rfl ?_
    first | refine VX.meek rfl ?_ | refine VX.loadI rfl rfl au_l ?_ | refine VX.loadP rfl rfl rfl au_l ?_
    refine VX.meek rfl ?_
    refine VX.nil ?_
    refine VC.block ?_
    refine VC.loopS (σ := Nat) (fun j => l[k]!.H.toNat + 1 - j) (fun j => j ≤ l[k]!.H.toNat) (fun j => [(10, I64 (l[k]!.Y + j)), (0, plT 0 w h px), (3, .clo g [] caps), (9, .ptr 1 0)]) (fun j => [.c (encL cU (paintL w (fun a b => inL (l.take k) a b ∨ (l[k]!.has a b ∧ b < l[k]!.Y + j)) (moveF w px p src) s0)), .c [I64 l[k]!.X, I64 l[k]!.Y, I64 l[k]!.W, I64 l[k]!.H]]) [6, 13, 14, 15] rfl (0) ?_ ?_ ?_
    · refine ⟨[some 0, some 1], rfl, by first | trivial | decide, rfl, ?_, ?_⟩ <;> (repeat' first | exact trivial | exact CvB_n | exact CvB_d | refine CvE_app ?_ ?_ | refine CvE_cons rfl ?_ ?_ | refine CvH_cons ?_ ?_ | refine CvB_c rfl ?_ | fail) <;> first | exact au_v | (first | exact hcp _ rfl | exact hpp _ rfl | exact Cv.eq (congrArg I64 (by simp)) rfl | exact CvL.eq (congrArg (encL cU) (paint_congr hl (fun a b _ _ _ _ => by unfold Rect.has; by_cases hV : inL (l.take k) a b; simp [hV]; simp only [hV, false_or, iff_false]; omega) (fun _ _ _ _ _ _ _ => rfl))) (encL_pure cU _))
    · (try dsimp only); omega
    rintro j hj
    refine VC.seq ?_
    refine VC.block ?_
    refine VC.reg tab_ok [] rfl ?_
    refine VX.meek rfl ?_
    first | refine VX.meek rfl ?_ | refine VX.loadI rfl rfl au_l ?_ | refine VX.loadP rfl rfl rfl au_l ?_
    refine VX.meek rfl ?_
    refine VX.nil ?_
    refine VC.block ?_
    refine VC.loopS (σ := Nat) (fun i => l[k]!.W.toNat - i) (fun i => i ≤ l[k]!.W.toNat ∧ (i = 0 ∨ j < l[k]!.H.toNat)) (fun i => [(11, I64 (l[k]!.X + i)), (0, plT 0 w h px), (3, .clo g [] caps), (9, .ptr 1 0)]) (fun i => [.c (encL cU (paintL w (fun a b => inL (l.take k) a b ∨ (l[k]!.has a b ∧ (b < l[k]!.Y + j ∨ (b = l[k]!.Y + j ∧ a < l[k]!.X + i)))) (moveF w px p src) s0)), .c [I64 l[k]!.X, I64 l[k]!.Y, I64 l[k]!.W, I64 l[k]!.H]]) [6, 10, 13, 14, 15] rfl (0) ?_ ?_ ?_
    · refine ⟨[some 0, some 1], rfl, by first | trivial | decide, rfl, ?_, ?_⟩ <;> (repeat' first | exact trivial | exact CvB_n | exact CvB_d | refine CvE_app ?_ ?_ | refine CvE_cons rfl ?_ ?_ | refine CvH_cons ?_ ?_ | refine CvB_c rfl ?_ | fail) <;> first | exact au_v | (first | exact hcp _ rfl | exact hpp _ rfl | exact Cv.eq (congrArg I64 (by simp)) rfl | exact CvL.eq (congrArg (encL cU) (paint_congr hl (fun a b _ _ _ _ => by unfold Rect.has; by_cases hV : inL (l.take k) a b; simp [hV]; simp only [hV, false_or, iff_false]; omega) (fun _ _ _ _ _ _ _ => rfl))) (encL_pure cU _))
    · exact ⟨by omega, .inl rfl⟩
    rintro i ⟨hi, hij⟩
    refine VC.seq ?_
    refine VC.reg tab_ok [] rfl ?_
    iterate 2 refine VX.meek rfl ?_
    first | refine VX.meek rfl ?_ | refine VX.loadI rfl rfl au_l ?_ | refine VX.loadP rfl rfl rfl au_l ?_
    refine VX.meek rfl ?_
    first | refine VX.meek rfl ?_ | refine VX.loadI rfl rfl au_l ?_ | refine VX.loadP rfl rfl rfl au_l ?_
    first | refine VX.add rfl rfl (by omega) ?_ | refine VX.meek rfl ?_
    refine VX.meek rfl ?_
    refine VX.nil ?_
    refine VC.cond rfl (fun hc1 => ?_) (fun hc1 => ?_)
    · (try simp only [au_std] at hc1)
      refine VC.skip ?_
      refine VC.seq ?_
      refine VC.block ?_
      refine VC.seq ?_
      refine VC.reg tab_ok [] rfl ?_
      iterate 2 refine VX.meek rfl ?_
      first | refine VX.meek rfl ?_ | refine VX.loadI rfl rfl au_l ?_ | refine VX.loadP rfl rfl rfl au_l ?_
      refine VX.meek rfl ?_
      first | refine VX.meek rfl ?_ | refine VX.loadI rfl rfl au_l ?_ | refine VX.loadP rfl rfl rfl au_l ?_
      first | refine VX.add rfl rfl (by omega) ?_ | refine VX.meek rfl ?_
      refine VX.meek rfl ?_
      refine VX.nil ?_
      refine VC.cond rfl (fun hc2 => ?_) (fun hc2 => ?_)
      · (try simp only [au_std] at hc2); have hjH : (j : Int) = l[k]!.H := (by omega)
        refine VC.exit ?_
        refine VC.regN tab_ok [] rfl ?_
        first | refine VX.add rfl rfl (by omega) ?_ | refine VX.meek rfl ?_
        refine VX.meek rfl ?_
        refine VX.nil ?_
        refine ⟨k + 1, by (try dsimp only); omega, ?_, (by refine ⟨[some 0], rfl, by first | trivial | decide, rfl, ?_, ?_⟩ <;> (repeat' first | exact trivial | exact CvB_n | exact CvB_d | refine CvE_app ?_ ?_ | refine CvE_cons rfl ?_ ?_ | refine CvH_cons ?_ ?_ | refine CvB_c rfl ?_ | fail) <;> first | exact au_v | (first | exact hcp _ rfl | exact hpp _ rfl | exact CvL.eq (congrArg (encL cU) (paint_congr hl (fun a b _ _ _ _ => by rw [inL_take hkl]; unfold Rect.has; by_cases hV : inL (l.take k) a b; simp [hV]; simp only [hV, false_or]; omega) (fun _ _ _ _ _ _ _ => rfl))) (encL_pure cU _)))⟩
        (try dsimp only); omega
      · (try simp only [au_std] at hc2); have hjl : j < l[k]!.H.toNat := (by omega); have hil : i < l[k]!.W.toNat := (by omega); have hhas : l[k]!.has (l[k]!.X + i) (l[k]!.Y + j) := (by unfold Rect.has; omega); have hpl2 := hik (l[k]!.X + i) (l[k]!.Y + j) hhas; have hnd := canon_disj hc hkl (x := l[k]!.X + i) (y := l[k]!.Y + j) hhas; have hpi := place_lt hpl2.1 hpl2.2.1 hpl2.2.2.1 hpl2.2.2.2; have hinl : inL l (l[k]!.X + i) (l[k]!.Y + j) := ⟨_, hmk, hhas⟩; have hsb2 := hsb _ _ hinl
        have hput : (paintL w (fun a b => inL (l.take k) a b ∨ (l[k]!.has a b ∧ (b < l[k]!.Y + j ∨ (b = l[k]!.Y + j ∧ a < l[k]!.X + i)))) (moveF w px p src) s0).set ((l[k]!.Y + j) * w + (l[k]!.X + i)).toNat (mixI p.f (src (l[k]!.X + i) (l[k]!.Y + j)) px[((l[k]!.Y + j) * w + (l[k]!.X + i)).toNat]! p.pl) = paintL w (fun a b => inL (l.take k) a b ∨ (l[k]!.has a b ∧ (b < l[k]!.Y + j ∨ (b = l[k]!.Y + j ∧ a < l[k]!.X + (i + 1 : Nat))))) (moveF w px p src) s0 := paint_put (f := moveF w px p src) hl hpl2.1 hpl2.2.1 hpl2.2.2.1 hpl2.2.2.2 rfl (fun a b _ _ _ _ => by unfold Rect.has; by_cases hV : inL (l.take k) a b; simp [hV]; simp only [hV, false_or]; omega)
        have hslen : (paintL w (fun a b => inL (l.take k) a b ∨ (l[k]!.has a b ∧ (b < l[k]!.Y + j ∨ (b = l[k]!.Y + j ∧ a < l[k]!.X + i)))) (moveF w px p src) s0).length = w * h := (by rw [paintL_len, hl])
        generalize paintL w (fun a b => inL (l.take k) a b ∨ (l[k]!.has a b ∧ (b < l[k]!.Y + j ∨ (b = l[k]!.Y + j ∧ a < l[k]!.X + i)))) (moveF w px p src) s0 = s at *
        refine VC.skip ?_
        refine VC.drwCN tab_ok [] [_, _, _, _, _, _, _, _, _, _, _, _, _, _, _, _] ([.d, .c [I64 l[k]!.X, I64 l[k]!.Y, I64 l[k]!.W, I64 l[k]!.H]]) [false, false, false, false, false, false, false, false, true, false, false, false, true, false, false, false] rfl (by kernel_rfl) (by kernel_rfl) (by kernel_rfl) (by repeat' first | exact seen_nil | refine seen_dead ?_ | refine seen_same ?_) ?_
        refine VD.meek rfl ?_
        refine VD.meek rfl ?_
        refine VD.meek rfl ?_
        refine VD.meek rfl ?_
        refine VD.meek rfl ?_
        refine VD.meek rfl ?_
        refine VD.meek rfl ?_
        refine VD.meek rfl ?_
        refine VD.call (t := U8 (src (l[k]!.X + i) (l[k]!.Y + j))) (F1 := [.c (encL cU s), .c [I64 l[k]!.X, I64 l[k]!.Y, I64 l[k]!.W, I64 l[k]!.H]]) rfl rfl ?_ ?_ ?_
        · refine CallT.frame (hdo s (l[k]!.X + i) (l[k]!.Y + j) hslen hinl) [0] rfl au_ci (by refine CvL.cons (Cv.pure rfl) (CvL.cons (Cv.pure rfl) ?_); exact hcv (vwIn [0]) rfl) ?_
          rintro _ _ ⟨rfl, rfl⟩
          refine frK au_co au_co ?_
          exact ⟨rfl, rfl⟩
        · exact (by repeat' first | exact seen_nil | refine seen_dead ?_ | refine seen_same ?_)
        refine VD.meek rfl ?_
        refine VD.meek rfl ?_
        refine VD.meek rfl ?_
        refine VD.call (t := U8 px[((l[k]!.Y + j) * w + (l[k]!.X + i)).toNat]!) (F1 := [.c (encL cU s), .c [I64 l[k]!.X, I64 l[k]!.Y, I64 l[k]!.W, I64 l[k]!.H]]) rfl rfl ?_ ?_ ?_
        · refine CallT.frame (was_t w h px (nwT 0 px.length) [.c (encL cU s)] (l[k]!.X + i) (l[k]!.Y + j) hw hh hpx hpl2.1 hpl2.2.1 hpl2.2.2.1 hpl2.2.2.2) [0] rfl au_ci au_ci ?_
          rintro _ _ ⟨rfl, rfl⟩
          refine frK au_co au_co ?_
          exact ⟨rfl, rfl⟩
        · exact (by repeat' first | exact seen_nil | refine seen_dead ?_ | refine seen_same ?_)
        refine VD.meek rfl ?_
        refine VD.meek rfl ?_
        refine VD.callP rfl rfl (mix_p p.f (src (l[k]!.X + i) (l[k]!.Y + j)) px[((l[k]!.Y + j) * w + (l[k]!.X + i)).toNat]! p.pl hsb2 (bang_bd hpb _) hpl) ?_
        refine VD.nil ?_
        refine VX.callT rfl rfl (CallT.frame (set_t w h px s (l[k]!.X + i) (l[k]!.Y + j) _ hw hh hpx hslen hpl2.1 hpl2.2.1 hpl2.2.2.1 hpl2.2.2.2) [0] rfl au_ci au_ci ?_)
        rintro _ _ ⟨rfl, rfl⟩
        refine frK au_co au_co ?_
        refine VX.nil ?_
        refine VC.regN tab_ok [] rfl ?_
        refine VX.meek rfl ?_
        first | refine VX.add rfl rfl (by omega) ?_ | refine VX.meek rfl ?_
        refine VX.meek rfl ?_
        refine VX.nil ?_
        refine ⟨i + 1, by (try dsimp only); omega, ?_, (by refine ⟨[some 0, some 1], rfl, by first | trivial | decide, rfl, ?_, ?_⟩ <;> (repeat' first | exact trivial | exact CvB_n | exact CvB_d | refine CvE_app ?_ ?_ | refine CvE_cons rfl ?_ ?_ | refine CvH_cons ?_ ?_ | refine CvB_c rfl ?_ | fail) <;> first | exact au_v | (first | exact hcp _ rfl | exact hpp _ rfl | exact Cv.eq (congrArg I64 (by omega)) rfl | exact CvL.eq (congrArg (encL cU) hput) (encL_pure cU _)))⟩
        exact ⟨by omega, .inr hjl⟩
    · (try simp only [au_std] at hc1)
      refine VC.exit ?_
      refine VC.regN tab_ok [] rfl ?_
      refine VX.meek rfl ?_
      first | refine VX.add rfl rfl (by omega) ?_ | refine VX.meek rfl ?_
      refine VX.meek rfl ?_
      refine VX.nil ?_
      refine ⟨j + 1, by (try dsimp only); omega, ?_, (by refine ⟨[some 0, some 1], rfl, by first | trivial | decide, rfl, ?_, ?_⟩ <;> (repeat' first | exact trivial | exact CvB_n | exact CvB_d | refine CvE_app ?_ ?_ | refine CvE_cons rfl ?_ ?_ | refine CvH_cons ?_ ?_ | refine CvB_c rfl ?_ | fail) <;> first | exact au_v | (first | exact hcp _ rfl | exact hpp _ rfl | exact Cv.eq (congrArg I64 (by omega)) rfl | exact CvL.eq (congrArg (encL cU) (paint_congr hl (fun a b _ _ _ _ => by unfold Rect.has; by_cases hV : inL (l.take k) a b; simp [hV]; simp only [hV, false_or]; omega) (fun _ _ _ _ _ _ _ => rfl))) (encL_pure cU _)))⟩
      (try dsimp only); omega
  · (try simp only [au_std] at hc0); obtain rfl : k = l.length := (by omega); rw [List.take_length]
    refine VC.exit ?_
    exact ⟨trivial, _, rfl, rfl, rfl⟩
end
section
open Go.RowKit Go.Sort
set_option maxRecDepth 10000
def inQ (x y : Int) : Prop := -1048576 ≤ x ∧ x < 1048576 ∧ -1048576 ≤ y ∧ y < 1048576
theorem inL_rok {R : List Rect} (hr : ∀ r ∈ R, rok r) {x y : Int} (h : inL R x y) : inQ x y := by
  obtain ⟨r, h1, h2⟩ := h
  have := hr r h1
  unfold rok at this; unfold Rect.has at h2; unfold inQ; omega
theorem mv_has {dx dy : Int} {r : Rect} (hr : rok r) (x y : Int) : (countsB (mvR dx dy r) = true ∧ (mvR dx dy r).has x y) ↔ r.has (x - dx) (y - dy) ∧ inQ x y := by
  unfold rok at hr
  unfold countsB fitsB Rect.has mvR inQ
  simp only [Bool.and_eq_true, decide_eq_true_eq]
  omega
theorem shift_in {R : List Rect} (hr : ∀ r ∈ R, rok r) (dx dy x y : Int) : inL (shiftR R dx dy) x y ↔ inL R (x - dx) (y - dy) ∧ inQ x y := by
  unfold shiftR
  split
  · rename_i hf
    constructor
    · intro h; exact absurd h inL_nil
    · rintro ⟨h1, h2⟩
      exfalso
      have h3 := inL_rok hr h1
      unfold farB at hf
      simp only [Bool.or_eq_true, decide_eq_true_eq] at hf
      unfold inQ at h2 h3
      omega
  · rw [bandOf_in]
    constructor
    · rintro ⟨q, hq, hh⟩
      obtain ⟨h1, h2⟩ := List.mem_filter.1 hq
      obtain ⟨r, hr1, rfl⟩ := List.mem_map.1 h1
      have := (mv_has (hr r hr1) x y).1 ⟨h2, hh⟩
      exact ⟨⟨r, hr1, this.1⟩, this.2⟩
    · rintro ⟨⟨r, hr1, h1⟩, h2⟩
      have := (mv_has (hr r hr1) x y).2 ⟨h1, h2⟩
      exact ⟨_, List.mem_filter.2 ⟨List.mem_map.2 ⟨r, hr1, rfl⟩, this.1⟩, this.2⟩
theorem Reg.shift {n : Nat} {R : List Rect} (h : Reg n R) (dx dy : Int) : Reg (n + 2) (shiftR R dx dy) := by
  obtain ⟨xs, ys, h1, h2, h3⟩ := h.few
  refine ⟨?_, ?_, xs.map (· + dx) ++ [-1048576, 1048576], ys.map (· + dy) ++ [-1048576, 1048576], by simp; omega, by simp; omega, ?_, ?_⟩
  · unfold shiftR; split
    · exact canon_nil
    · exact bandOf_canon _
  · unfold shiftR; split
    · intro r hr; cases hr
    · exact bandOf_rok _
  · intro x y hx
    simp only [List.mem_append, List.mem_map, List.mem_cons, List.mem_nil_iff, or_false, not_or] at hx
    have hx1 : x - dx ∉ xs := fun hh => hx.1 ⟨_, hh, by omega⟩
    rw [shift_in h.ok, shift_in h.ok, show x - 1 - dx = x - dx - 1 from by omega, h3.1 (x - dx) (y - dy) hx1]
    unfold inQ
    have e1 := hx.2.1; have e2 := hx.2.2
    constructor
    · rintro ⟨a, b⟩; exact ⟨a, by omega⟩
    · rintro ⟨a, b⟩; exact ⟨a, by omega⟩
  · intro x y hy
    simp only [List.mem_append, List.mem_map, List.mem_cons, List.mem_nil_iff, or_false, not_or] at hy
    have hy1 : y - dy ∉ ys := fun hh => hy.1 ⟨_, hh, by omega⟩
    rw [shift_in h.ok, shift_in h.ok, show y - 1 - dy = y - dy - 1 from by omega, h3.2 (x - dx) (y - dy) hy1]
    unfold inQ
    have e1 := hy.2.1; have e2 := hy.2.2
    constructor
    · rintro ⟨a, b⟩; exact ⟨a, by omega⟩
    · rintro ⟨a, b⟩; exact ⟨a, by omega⟩
theorem shiftR_p {n : Nat} {R : List Rect} (h : Reg n R) (hn : n ≤ 500) (dx dy : Int) : CallP Tryz.prog 98 [regT R, I64 dx, I64 dy] (regT (shiftR R dx dy)) :=
  shift_p R dx dy h.ok (Nat.le_trans h.len (Nat.le_trans (Nat.mul_le_mul hn hn) (show 500 * 500 ≤ 1048576 by decide)))
noncomputable def wantR (clip : List Rect) (t : Rect) (w h : Nat) : List Rect := opL and (opL and clip (bandOf [t])) (bandOf [⟨0, 0, w, h⟩])
noncomputable def thereR (fr : List Rect) (s : Rect) (sw sh : Nat) (x y : Int) : List Rect := shiftR (opL and (opL and fr (bandOf [s])) (bandOf [⟨0, 0, sw, sh⟩])) (x - s.X) (y - s.Y)
theorem want_reg {m : Nat} {clip : List Rect} (hc : Reg m clip) (t : Rect) (w h : Nat) : Reg (m + 2 + 2) (wantR clip t w h) := opL_reg (k := and) rfl (opL_reg (k := and) rfl hc (Reg.of [t])) (Reg.of [⟨0, 0, w, h⟩])
theorem there_reg {n : Nat} {fr : List Rect} (hf : Reg n fr) (s : Rect) (sw sh : Nat) (x y : Int) : Reg (n + 2 + 2 + 2) (thereR fr s sw sh x y) := (opL_reg (k := and) rfl (opL_reg (k := and) rfl hf (Reg.of [s])) (Reg.of [⟨0, 0, sw, sh⟩])).shift _ _
theorem want_in {m : Nat} {clip : List Rect} (hc : Reg m clip) (t : Rect) {w h : Nat} (hw : w ≤ 128) (hh : h ≤ 128) (x y : Int) : inL (wantR clip t w h) x y ↔ (inL clip x y ∧ inL ([t].filter countsB) x y) ∧ 0 ≤ x ∧ x < w ∧ 0 ≤ y ∧ y < h := by
  unfold wantR
  rw [opL_and (opL_reg (k := and) rfl hc (Reg.of [t])) (Reg.of _), opL_and hc (Reg.of _), in_plane0 hw hh, bandOf_in]
theorem there_in {n : Nat} {fr : List Rect} (hf : Reg n fr) (s : Rect) {sw sh : Nat} (hw : sw ≤ 128) (hh : sh ≤ 128) (x y a b : Int) : inL (thereR fr s sw sh x y) a b ↔ ((inL fr (a - (x - s.X)) (b - (y - s.Y)) ∧ inL ([s].filter countsB) (a - (x - s.X)) (b - (y - s.Y))) ∧ 0 ≤ a - (x - s.X) ∧ a - (x - s.X) < sw ∧ 0 ≤ b - (y - s.Y) ∧ b - (y - s.Y) < sh) ∧ inQ a b := by
  unfold thereR
  have h1 := opL_reg (k := and) rfl (opL_reg (k := and) rfl hf (Reg.of [s])) (Reg.of [⟨0, 0, (sw : Int), (sh : Int)⟩])
  rw [shift_in h1.ok, opL_and (opL_reg (k := and) rfl hf (Reg.of [s])) (Reg.of _), opL_and hf (Reg.of _), in_plane0 hw hh, bandOf_in]
theorem prectP_p (w h : Nat) (px : List Int) : CallP Tryz.prog 69 [plP w h px] (rectT ⟨0, 0, w, h⟩) := by
  refine CallP.intro2 au_pu au_pu ?_
  refine CallT.intro tab_ok Tryz.func69 rfl (by kernel_rfl) (Nat.le_of_ble_eq_true rfl) ?_
  refine VC.reg tab_ok [] rfl ?_
  refine VX.new rfl rfl ?_
  refine VX.nil ?_
  refine VC.drw tab_ok [] [_, _, _, _, _, _, _, _, _] rfl (by kernel_rfl) (by kernel_rfl) ?_
  iterate 3 refine VX.meek rfl ?_
  first | refine VX.meek rfl ?_ | refine VX.loadI rfl rfl au_l ?_ | refine VX.loadP rfl rfl rfl au_l ?_
  iterate 3 refine VX.meek rfl ?_
  first | refine VX.meek rfl ?_ | refine VX.loadI rfl rfl au_l ?_ | refine VX.loadP rfl rfl rfl au_l ?_
  refine VX.meek rfl ?_
  refine VX.nil ?_
  refine VX.store rfl rfl rfl rfl rfl au_sR rfl ?_
  refine VX.nil ?_
  refine VC.ret ?_
  exact ⟨trivial, _, rfl, Cv.eq rfl rfl⟩
def srcA (sw : Nat) (spx : List Int) (s : Rect) (x y : Int) : Int → Int → Int := fun a b => spx[((b - y + s.Y) * sw + (a - x + s.X)).toNat]!
theorem area1_p (sw sh : Nat) (spx : List Int) (s : Rect) (x y a b : Int) (hw : sw ≤ 128) (hh : sh ≤ 128) (hl : spx.length = sw * sh) (h1 : 0 ≤ a - x + s.X) (h2 : a - x + s.X < sw) (h3 : 0 ≤ b - y + s.Y) (h4 : b - y + s.Y < sh)
    (hx : -1048576 ≤ x ∧ x ≤ 1048576) (hy : -1048576 ≤ y ∧ y ≤ 1048576) (hsx : -1048576 ≤ s.X ∧ s.X ≤ 1048576) (hsy : -1048576 ≤ s.Y ∧ s.Y ≤ 1048576) (ha : inQ a b) :
    CallP Tryz.prog 100 [I64 a, I64 b, .iptr [plP sw sh spx] 0, .iptr [I64 x] 0, .iptr [I64 s.X, I64 s.Y, I64 s.W, I64 s.H] 0, .iptr [I64 y] 0] (U8 (srcA sw spx s x y a b)) := by
  unfold inQ at ha
  have hwas : CallP Tryz.prog 72 [plP sw sh spx, I64 (a - x + s.X), I64 (b - y + s.Y)] (U8 spx[((b - y + s.Y) * sw + (a - x + s.X)).toNat]!) :=
    CallP.intro2 (by simp only [T.pureL, T.pure, encL_pure]; rfl) rfl ((was_t sw sh spx _ [] (a - x + s.X) (b - y + s.Y) hw hh hl h1 h2 h3 h4).mono fun t H' ⟨k1, k2⟩ => by subst k1; exact Cv.eq rfl rfl)
  refine CallP.intro2 au_pu au_pu ?_
  refine CallT.intro tab_ok Tryz.func100 rfl (by kernel_rfl) (Nat.le_of_ble_eq_true rfl) ?_
  refine VC.reg tab_ok [] rfl ?_
  refine VX.meek rfl ?_
  refine VX.nil ?_
  refine VC.reg tab_ok [] rfl ?_
  first | refine VX.meek rfl ?_ | refine VX.loadI rfl rfl au_l ?_ | refine VX.loadP rfl rfl rfl au_l ?_
  refine VX.meek rfl ?_
  first | refine VX.meek rfl ?_ | refine VX.loadI rfl rfl au_l ?_ | refine VX.loadP rfl rfl rfl au_l ?_
  first | refine VX.sub rfl rfl (by omega) ?_ | refine VX.meek rfl ?_
  refine VX.meek rfl ?_
  first | refine VX.meek rfl ?_ | refine VX.loadI rfl rfl au_l ?_ | refine VX.loadP rfl rfl rfl au_l ?_
  first | refine VX.add rfl rfl (by omega) ?_ | refine VX.meek rfl ?_
  refine VX.meek rfl ?_
  first | refine VX.meek rfl ?_ | refine VX.loadI rfl rfl au_l ?_ | refine VX.loadP rfl rfl rfl au_l ?_
  first | refine VX.sub rfl rfl (by omega) ?_ | refine VX.meek rfl ?_
  refine VX.meek rfl ?_
  first | refine VX.meek rfl ?_ | refine VX.loadI rfl rfl au_l ?_ | refine VX.loadP rfl rfl rfl au_l ?_
  first | refine VX.add rfl rfl (by omega) ?_ | refine VX.meek rfl ?_
  refine VX.callP0 rfl rfl rfl (hwas) ?_
  refine VX.meek rfl ?_
  refine VX.nil ?_
  refine VC.ret ?_
  exact ⟨trivial, _, rfl, Cv.eq (by first | rfl | (simp [*]; done)) rfl⟩
end
section
open Go.ChangeShapes Go.WideShapes Go.ChangeAt Go.RowKit Go.WideElems
inductive Sh where
  | int (k : IntKind)
  | bool
  | str
  | st (l : List Sh)
  | sl (e : Sh)
mutual
def Sh.fits (P : Program) : Sh → TypeId → Bool
  | .int k, t => match P.underlying t with | some (.int k') => decide (k' = k) | _ => false
  | .bool, t => match P.underlying t with | some .bool => true | _ => false
  | .str, t => match P.underlying t with | some .string => true | _ => false
  | .st l, t => match P.underlying t with | some (.struct fs) => Sh.fitsL P l fs.toList 0 (P.cellsOf t) | _ => false
  | .sl e, t => match P.underlying t with | some (.slice u) => Sh.fits P e u && decide (0 < P.cellsOf u) && decide (P.cellsOf t = 1) | _ => false
def Sh.fitsL (P : Program) : List Sh → List Field → Nat → Nat → Bool
  | [], [], o, n => o == n
  | s :: l, f :: fs, o, n => f.offset == o && Sh.fits P s f.type && Sh.fitsL P l fs (o + P.cellsOf f.type) n
  | _, _, _, _ => false
end
def nth (p : List T → Prop) : Nat → List T → Prop
  | 0, xs => xs = []
  | n + 1, xs => ∃ a b, xs = a ++ b ∧ p a ∧ nth p n b
mutual
def Sh.wt : Sh → List T → Prop
  | .int k, ts => ∃ n, ts = [.v (.int k n)] ∧ (Lit.int k n).wf = true
  | .bool, ts => ∃ b, ts = [.v (.bool b)]
  | .str, ts => ∃ s : ByteArray, ts = [.v (.string s)] ∧ s.size ≤ maxLen
  | .st l, ts => Sh.wtL l ts
  | .sl e, ts => ∃ xs n, ts = [.islc xs n none] ∧ n ≤ maxLen ∧ nth (Sh.wt e) n xs
def Sh.wtL : List Sh → List T → Prop
  | [], ts => ts = []
  | s :: l, ts => ∃ a b, ts = a ++ b ∧ Sh.wt s a ∧ Sh.wtL l b
end
def inW (β : Nat → Option (Option (Nat × Nat))) (W : World) : Mp := ⟨β, fun _ => False, W⟩
theorem RepA.app {M : Mp} : ∀ {ts ss : List T} {a : Array Value} {j : Nat}, RepA M ts a j → RepA M ss a (j + ts.length) → RepA M (ts ++ ss) a j
  | [], ss, a, j, _, h => h
  | t :: ts, ss, a, j, ⟨u, h1, h2, h3⟩, h => ⟨u, h1, h2, RepA.app h3 (by rw [show j + 1 + ts.length = j + (t :: ts).length from by rw [List.length_cons]; omega]; exact h)⟩
theorem cell_block {W : World} {B o : Nat} {v : Value} (h : W.cell? ⟨B, o, none⟩ = some v) : ∃ a e f, W.heap[B]? = some (.cells a e f) := by
  unfold World.cell? at h
  split at h
  · rename_i c e f hh
    exact ⟨c, e, f, hh⟩
  · cases h
theorem cell_inW {W : World} {B o : Nat} {a : Array Value} {e : TypeId} {f : Nat × Nat} (h : W.heap[B]? = some (.cells a e f)) : W.cell? ⟨B, o, none⟩ = a[o]? := by
  unfold World.cell?
  rw [h]
  rfl
theorem add_n (B o i : Nat) : (Addr.add ⟨B, o, none⟩ i) = ⟨B, o + i, none⟩ := by
  unfold Addr.add
  split
  · subst_vars; rfl
  · rfl
section
variable {H : Type} {enc : TypeId × Value → H} {P : Program} {W : World} {sp : Nat → Bool} {held : Bool} {β : Nat → Option (Option (Nat × Nat))}
mutual
theorem open_sh : ∀ (s : Sh) {t : TypeId} {fuel : Nat} {cs : List Value} {x : DataW H × List MemPlace}, s.fits P t = true → DataW.trod enc P W 0 sp held fuel t cs = some x → cs.length = P.cellsOf t → ∃ ts, RepL (inW β W) ts cs ∧ s.wt ts
  | .int k, t, fuel, cs, x, hs, h, hl => by
    unfold Sh.fits at hs
    split at hs
    · rename_i k' hu
      obtain rfl : k' = k := of_decide_eq_true hs
      obtain ⟨n, rfl, _, hw⟩ := DataW.trod_int hu h
      exact ⟨[.v (.int k' n)], ⟨_, _, rfl, rfl, rfl⟩, n, rfl, hw⟩
    · cases hs
  | .bool, t, fuel, cs, x, hs, h, hl => by
    unfold Sh.fits at hs
    split at hs
    · rename_i hu
      cases fuel with
      | zero => simp [DataW.trod] at h
      | succ n =>
        unfold DataW.trod at h
        rw [hu] at h
        split at h <;> simp_all
        exact ⟨[.v (.bool _)], ⟨_, _, rfl, rfl, rfl⟩, _, rfl⟩
    · cases hs
  | .str, t, fuel, cs, x, hs, h, hl => by
    unfold Sh.fits at hs
    split at hs
    · rename_i hu
      obtain ⟨s, rfl, _, hw⟩ := DataW.trod_string hu h
      exact ⟨[.v (.string s)], ⟨_, _, rfl, rfl, rfl⟩, s, rfl, hw⟩
    · cases hs
  | .st l, t, fuel, cs, x, hs, h, hl => by
    unfold Sh.fits at hs
    split at hs
    · rename_i fs hu
      obtain ⟨xs, n, -, -, hc, hx, hf⟩ := DataW.trod_struct hu h
      have := open_shL l (fs := fs.toList) (o := 0) (n := P.cellsOf t) (cs := cs) (m := n) hs hc (fun f hm => by
        obtain ⟨i, hi⟩ := List.getElem?_of_mem hm
        have hi2 : fs[i]? = some f := by simpa using hi
        have h1 := hf i f hi2
        have hlt : i < xs.length := by rw [hx]; exact (Array.getElem?_eq_some_iff.1 hi2).1
        exact ⟨xs[i], by rw [h1, List.getElem?_eq_getElem hlt]⟩)
      rw [List.drop_zero] at this
      exact this
    · cases hs
  | .sl e, t, fuel, cs, x, hs, h, hl => by
    unfold Sh.fits at hs
    split at hs
    · rename_i u hu
      simp only [Bool.and_eq_true, decide_eq_true_eq] at hs
      obtain ⟨hs, -⟩ := hs
      rcases DataW.trod_slice hu h with ⟨rfl, -⟩ | ⟨a, len, cap, elems, rest, m, -, rfl, -, -, hle, hcap, hlen, hel, -, -⟩
      · exact ⟨[.islc [] 0 none], ⟨_, _, rfl, ⟨none, 0, rfl, Nat.le_refl _, Nat.zero_le _, fun q hq => (by cases hq), .inl ⟨rfl, rfl⟩⟩, rfl⟩, [], 0, rfl, Nat.zero_le _, rfl⟩
      · by_cases hn : len = 0
        · subst hn
          exact ⟨[.islc [] 0 none], ⟨_, _, rfl, ⟨some a, cap, rfl, Nat.zero_le _, hcap, fun q hq => (by cases hq), .inl ⟨rfl, rfl⟩⟩, rfl⟩, [], 0, rfl, Nat.zero_le _, rfl⟩
        · have h0 := hel 0 (by omega)
          have hsome : ∀ i, i < len → ∃ cs' y, W.cells? 0 (a.add (i * P.cellsOf u)) (P.cellsOf u) = some cs' ∧ DataW.trod enc P W 0 sp held m u cs' = some y := fun i hi => by
            have hq := hel i hi
            rw [List.getElem?_eq_getElem (by omega), Option.bind_eq_some_iff] at hq
            obtain ⟨cs', h1, h2⟩ := hq
            exact ⟨cs', _, h1, h2⟩
          obtain ⟨ab, ao, asx⟩ := a
          obtain ⟨cs0, y0, c1, -⟩ := hsome 0 (by omega)
          obtain ⟨-, c2, c3⟩ := World.cells?_some c1
          have c4 := c3 0 hs.2
          rw [List.getElem?_eq_getElem (by omega)] at c4
          have hspot : asx = none := by simpa [Addr.add] using World.cell?_spot c4
          subst hspot
          rw [add_n, add_n] at c4
          obtain ⟨arr, e1, f1, hB⟩ := cell_block c4
          have build : ∀ n i, i + n ≤ len → ∃ xs, nth e.wt n xs ∧ RepA (inW β W) xs arr (ao + i * P.cellsOf u) := by
            intro n
            induction n with
            | zero => exact fun i _ => ⟨[], rfl, trivial⟩
            | succ n ih =>
              intro i hi
              obtain ⟨xs, k1, k2⟩ := ih (i + 1) (by omega)
              obtain ⟨cs', y, g1, g2⟩ := hsome i (by omega)
              obtain ⟨-, g3, g4⟩ := World.cells?_some g1
              obtain ⟨ts, r1, r2⟩ := open_sh e hs.1 g2 g3
              have hlen' : ts.length = P.cellsOf u := by rw [← r1.length, g3]
              refine ⟨ts ++ xs, ⟨ts, xs, rfl, r2, k1⟩, RepA.app (repA_of fun j tj hj => ?_) (by rw [hlen', Nat.add_assoc, ← Nat.succ_mul]; exact k2)⟩
              obtain ⟨uj, q1, q2⟩ := r1.get j tj hj
              have hjl : j < P.cellsOf u := by rw [← g3]; exact (List.getElem?_eq_some_iff.1 q1).1
              refine ⟨uj, ?_, q2⟩
              rw [← q1, ← g4 j hjl, add_n, add_n, cell_inW hB]
          obtain ⟨xs, k1, k2⟩ := build len 0 (by omega)
          rw [Nat.zero_mul, Nat.add_zero] at k2
          refine ⟨[.islc xs len none], ⟨_, _, rfl, ⟨_, cap, rfl, hle, hcap, fun q hq => (by cases hq), .inr ⟨ab, ao, arr, rfl, ⟨fun hx => hx, e1, f1, hB⟩, k2⟩⟩, rfl⟩, xs, len, rfl, by omega, k1⟩
    · cases hs
theorem open_shL : ∀ (l : List Sh) {fs : List Field} {o n m : Nat} {cs : List Value}, Sh.fitsL P l fs o n = true → cs.length = n → (∀ f ∈ fs, ∃ x, DataW.trod enc P W 0 sp held m f.type ((cs.drop f.offset).take (P.cellsOf f.type)) = some x) → ∃ ts, RepL (inW β W) ts (cs.drop o) ∧ Sh.wtL l ts
  | [], [], o, n, m, cs, hs, hl, h => by
    have e : o = n := by unfold Sh.fitsL at hs; simpa using hs
    exact ⟨[], by show cs.drop o = []; rw [List.drop_eq_nil_iff]; omega, rfl⟩
  | [], f :: fs, o, n, m, cs, hs, hl, h => by unfold Sh.fitsL at hs; cases hs
  | s :: l, [], o, n, m, cs, hs, hl, h => by unfold Sh.fitsL at hs; cases hs
  | s :: l, f :: fs, o, n, m, cs, hs, hl, h => by
    unfold Sh.fitsL at hs
    simp only [Bool.and_eq_true, beq_iff_eq] at hs
    obtain ⟨⟨h1, h2⟩, h3⟩ := hs
    have hle := fitsL_le l h3
    obtain ⟨x, hx⟩ := h f (by simp)
    obtain ⟨a, a1, a2⟩ := open_sh s h2 hx (by rw [List.length_take, List.length_drop]; omega)
    obtain ⟨b, b1, b2⟩ := open_shL l h3 hl (fun g hg => h g (by simp [hg]))
    refine ⟨a ++ b, ?_, a, b, rfl, a2, b2⟩
    have e : cs.drop o = (cs.drop f.offset).take (P.cellsOf f.type) ++ cs.drop (o + P.cellsOf f.type) := by
      rw [h1, ← List.drop_drop, List.take_append_drop]
    rw [e]
    exact RepL.append a1 b1
theorem fitsL_le : ∀ (l : List Sh) {fs : List Field} {o n : Nat}, Sh.fitsL P l fs o n = true → o ≤ n
  | [], [], o, n, hs => by unfold Sh.fitsL at hs; simp at hs; omega
  | [], f :: fs, o, n, hs => by unfold Sh.fitsL at hs; cases hs
  | s :: l, [], o, n, hs => by unfold Sh.fitsL at hs; cases hs
  | s :: l, f :: fs, o, n, hs => by
    unfold Sh.fitsL at hs
    simp only [Bool.and_eq_true, beq_iff_eq] at hs
    have := fitsL_le l hs.2
    omega
end
def Sh.tree : Sh → List T → T
  | .st _, ts => .agg ts
  | _, ts => ts.headD (.tup [])
theorem open_arg {b0 : Nat} (s : Sh) {t : TypeId} {v : Value} {d : DataW H} {p : List MemPlace} (hs : s.fits P t = true) (hv : Value.okWide P W .any b0 t v) (h : DataW.Trod enc P W 0 sp held t v d p) :
    ∃ ts, Rep (inW β W) (s.tree ts) v ∧ s.wt ts := by
  obtain ⟨fuel, hf⟩ := h
  cases s with
  | int k =>
    have hs' := hs
    unfold Sh.fits at hs
    split at hs
    · rename_i k' hu
      obtain ⟨n, rfl⟩ := okWide_int hu hv
      obtain ⟨n', e, _, hw⟩ := DataW.trod_int hu hf
      simp [Value.cells] at e
      obtain ⟨rfl⟩ := e
      obtain rfl : k' = k := of_decide_eq_true hs
      exact ⟨[.v (.int k' n)], rfl, n, rfl, hw⟩
    · cases hs
  | bool =>
    unfold Sh.fits at hs
    split at hs
    · rename_i hu
      obtain ⟨n, rfl⟩ := okWide_bool hu hv
      exact ⟨[.v (.bool n)], rfl, n, rfl⟩
    · cases hs
  | str =>
    unfold Sh.fits at hs
    split at hs
    · rename_i hu
      obtain ⟨n, rfl⟩ := okWide_string hu hv
      obtain ⟨n', e, _, hw⟩ := DataW.trod_string hu hf
      simp [Value.cells] at e
      subst e
      exact ⟨[.v (.string n)], rfl, n, rfl, hw⟩
    · cases hs
  | st l =>
    have hs' := hs
    unfold Sh.fits at hs
    split at hs
    · rename_i fs hu
      obtain ⟨cs, rfl, hsz⟩ := okWide_struct hu hv
      obtain ⟨ts, r1, r2⟩ := open_sh (β := β) (.st l) hs' hf (by rw [← hsz]; rfl)
      exact ⟨ts, ⟨cs.toList, rfl, r1⟩, r2⟩
    · cases hs
  | sl e =>
    have hs' := hs
    unfold Sh.fits at hs
    split at hs
    · rename_i u hu
      obtain ⟨a, len, cap, rfl⟩ := okWide_slice hu hv
      have hl1 : P.cellsOf t = 1 := by
        simp only [Bool.and_eq_true, decide_eq_true_eq] at hs
        exact hs.2
      obtain ⟨ts, r1, r2⟩ := open_sh (β := β) (.sl e) hs' hf (by rw [hl1]; rfl)
      obtain ⟨xs, n, rfl, h1, h2⟩ := r2
      obtain ⟨w, r, e1, e2, e3⟩ := r1
      have e1' : [Value.slice a len cap] = w :: r := e1
      injection e1' with e4 e5
      subst e4
      exact ⟨[.islc xs n none], e2, xs, n, rfl, h1, h2⟩
    · cases hs
theorem law_run {f : FuncId} {args : List T} {vs : List Value} (h : CallP P f args (.v (.bool true))) (hr : RepL (inW (fun _ => none) W) args vs) :
    Calls P f vs.toArray W (fun e W' => e = .returned (.bool true) ∧ Below W.heap.size W W') :=
  (h.run (fun _ => False) (inW (fun _ => none) W) vs (fun B hB => hB.elim) hr).mono fun e W' ⟨u, h1, h2, h3, h4⟩ => by
    have h3' : u = .bool true := h3
    subst h3'
    exact ⟨h1, ⟨h2.os, h2.tape.1, h2.output, h2.size, h4⟩⟩
end
end
section
open Go.RowKit Go.Sort
set_option maxRecDepth 10000
def padL (P : List Int) (n : Nat) : List Int := (List.range n).map fun i => if i < P.length then P[i]! else 0
theorem padL_len (P : List Int) (n : Nat) : (padL P n).length = n := by simp [padL]
theorem padL_bd {P : List Int} (hb : ∀ v ∈ P, 0 ≤ v ∧ v < 256) (n : Nat) : ∀ v ∈ padL P n, 0 ≤ v ∧ v < 256 := fun v hv => by
  unfold padL at hv
  obtain ⟨i, hi, rfl⟩ := List.mem_map.1 hv
  split
  · exact bang_bd hb _
  · exact ⟨by decide, by decide⟩
theorem newPen_p : CallP Tryz.prog 60 [] (penT ⟨3, 255, 0, 1, 0, 0, 0, false, []⟩) := by
  refine CallP.intro2 au_pu au_pu ?_
  refine CallT.intro tab_ok Tryz.func60 rfl (by kernel_rfl) (Nat.le_of_ble_eq_true rfl) ?_
  refine VC.reg tab_ok [] rfl ?_
  refine VX.new rfl rfl ?_
  refine VX.nil ?_
  refine VC.reg tab_ok [] rfl ?_
  refine VX.meek rfl ?_
  refine VX.store rfl rfl rfl rfl rfl au_sR rfl ?_
  refine VX.nil ?_
  refine VC.ret ?_
  refine ⟨trivial, _, rfl, Cv.agg (CvL.cons (Cv.pure rfl) (CvL.cons (Cv.pure rfl) (CvL.cons (Cv.pure rfl) (CvL.cons (Cv.pure rfl) (CvL.cons (Cv.pure rfl) (CvL.cons (Cv.pure rfl) (CvL.cons (Cv.pure rfl) (CvL.cons (Cv.pure rfl) (CvL.cons (Cv.nil _ (.inl rfl)) CvL.nil)))))))))⟩
def paintD (w : Nat) (D : Int → Int → Bool) (f : Int → Int → Int → Int) (px : List Int) : List Int := (List.range px.length).map fun i => if D (i % w : Nat) (i / w : Nat) = true then f (i % w : Nat) (i / w : Nat) px[i]! else px[i]!
theorem paintL_dec {w : Nat} {V : Int → Int → Prop} {D : Int → Int → Bool} {f : Int → Int → Int → Int} {px : List Int} (h : ∀ x y, V x y ↔ D x y = true) : paintL w V f px = paintD w D f px := by
  unfold paintL paintD
  refine List.map_congr_left fun i _ => ?_
  by_cases hc : V (i % w : Nat) (i / w : Nat)
  · rw [if_pos hc, if_pos ((h _ _).1 hc)]
  · rw [if_neg hc, if_neg (fun k => hc ((h _ _).2 k))]
end
section
open Go.RowKit Go.Sort
abbrev shI : Sh := .int .i64
abbrev shU : Sh := .int .u8
abbrev shB : Sh := .int .i8
abbrev shCan : Sh := .st [shU, shU, .sl shU]
theorem lit_i64 {n : Int} (h : (Lit.int .i64 n).wf = true) : i64 n := by
  simp [Lit.wf, IntKind.min, IntKind.max, IntKind.signed, IntKind.bits] at h
  unfold i64; omega
theorem lit_u8 {n : Int} (h : (Lit.int .u8 n).wf = true) : 0 ≤ n ∧ n < 256 := by
  simp [Lit.wf, IntKind.min, IntKind.max, IntKind.signed, IntKind.bits] at h
  omega
theorem lit_i8 {n : Int} (h : (Lit.int .i8 n).wf = true) : -128 ≤ n ∧ n ≤ 127 := by
  simp [Lit.wf, IntKind.min, IntKind.max, IntKind.signed, IntKind.bits] at h
  omega
theorem wt_i64 {ts : List T} (h : shI.wt ts) : ∃ n, ts = [I64 n] ∧ i64 n := by
  obtain ⟨n, rfl, hw⟩ := h
  exact ⟨n, rfl, lit_i64 hw⟩
theorem wt_u8 {ts : List T} (h : shU.wt ts) : ∃ n, ts = [U8 n] ∧ 0 ≤ n ∧ n < 256 := by
  obtain ⟨n, rfl, hw⟩ := h
  exact ⟨n, rfl, lit_u8 hw⟩
theorem wt_i8 {ts : List T} (h : shB.wt ts) : ∃ n, ts = [.v (.int .i8 n)] ∧ -128 ≤ n ∧ n ≤ 127 := by
  obtain ⟨n, rfl, hw⟩ := h
  exact ⟨n, rfl, lit_i8 hw⟩
theorem nth_dec {α : Type} (c : Cd α) {p : List T → Prop} {Q : α → Prop} (h : ∀ a, p a → ∃ x, a = c.cells x ∧ Q x) : ∀ (n : Nat) {xs : List T}, nth p n xs → ∃ l : List α, xs = encL c l ∧ l.length = n ∧ ∀ x ∈ l, Q x
  | 0, xs, k => ⟨[], k, rfl, fun _ hx => by cases hx⟩
  | n + 1, xs, ⟨a, b, e, k1, k2⟩ => by
    obtain ⟨x, rfl, hx⟩ := h a k1
    obtain ⟨l, rfl, rfl, hl⟩ := nth_dec c h n k2
    exact ⟨x :: l, e, rfl, fun y hy => by
      rcases List.mem_cons.1 hy with rfl | hy
      · exact hx
      · exact hl y hy⟩
theorem wt_sl {α : Type} (c : Cd α) {s : Sh} {Q : α → Prop} (h : ∀ a, s.wt a → ∃ x, a = c.cells x ∧ Q x) {ts : List T} (k : (Sh.sl s).wt ts) : ∃ l : List α, ts = [.islc (encL c l) l.length none] ∧ l.length ≤ maxLen ∧ ∀ x ∈ l, Q x := by
  obtain ⟨xs, n, rfl, h1, h2⟩ := k
  obtain ⟨l, rfl, rfl, hl⟩ := nth_dec c h n h2
  exact ⟨l, rfl, h1, hl⟩
def rI (r : Rect) : Prop := i64 r.X ∧ i64 r.Y ∧ i64 r.W ∧ i64 r.H
theorem wt_bytes {ts : List T} (h : (Sh.sl shU).wt ts) : ∃ l : List Int, ts = [.islc (encL cU l) l.length none] ∧ l.length ≤ maxLen ∧ ∀ v ∈ l, 0 ≤ v ∧ v < 256 :=
  wt_sl cU (fun _ h => by
    obtain ⟨x, rfl, hx⟩ := wt_u8 h
    exact ⟨x, rfl, hx⟩) h
theorem wt_canvas {ts : List T} (h : shCan.wt ts) : ∃ (cw ch : Nat) (P : List Int), ts = [U8 cw, U8 ch, .islc (encL cU P) P.length none] ∧ cw < 256 ∧ ch < 256 ∧ ∀ v ∈ P, 0 ≤ v ∧ v < 256 := by
  obtain ⟨a, b, rfl, h1, c, d, rfl, h2, e, f, rfl, h3, rfl⟩ := h
  obtain ⟨x, rfl, hx⟩ := wt_u8 h1
  obtain ⟨y, rfl, hy⟩ := wt_u8 h2
  obtain ⟨P, rfl, -, hP⟩ := wt_bytes h3
  refine ⟨x.toNat, y.toNat, P, ?_, by omega, by omega, hP⟩
  rw [Int.toNat_of_nonneg hx.1, Int.toNat_of_nonneg hy.1]
  rfl
end
section
open Go.RowKit Go.Sort
set_option maxRecDepth 10000
set_option maxHeartbeats 1000000
abbrev rC (r : Rect) : List T := [I64 r.X, I64 r.Y, I64 r.W, I64 r.H]
theorem penC_pure0 (p : PenS) : T.pureL (penC p) = true := by simp only [T.pureL, T.pure, encL_pure]; rfl
theorem area_leaf {lb : Nat} {E : Env} {H : Hp} {w h sw sh : Nat} {px spx : List Int} {fr clip : List Rect} {s t : Rect} {x y : Int} {p : PenS} (a c : Nat) (hlb : lbOk lb 0 [some 0, some 1, some 2, some c])
    (h10 : E.get 10 = some (.iptr [.islc (encL cR fr) fr.length none] 0)) (h11 : E.get 11 = some (.iptr [.islc (encL cR clip) clip.length none] 0)) (h12 : E.get 12 = some (.iptr (rC s) 0))
    (h13 : E.get 13 = some (.iptr [I64 x] 0)) (h14 : E.get 14 = some (.iptr [I64 y] 0)) (h15 : E.get 15 = some (.iptr (penC p) 0)) (h16 : E.get 16 = some (.ptr 0 0)) (h17 : E.get 17 = some (.ptr 1 0)) (h18 : E.get 18 = some (.ptr 2 0)) (h19 : E.get 19 = some (.ptr a 0)) (h20 : E.get 20 = some (plT c w h px))
    (k0 : lookH H 0 = some [I64 0, I64 0, NIL]) (k1 : lookH H 1 = some [NIL]) (k2 : lookH H 2 = some (rC t)) (ka : lookH H a = some [plP sw sh spx]) (kc : lookH H c = some (encL cU px))
    (n0 : (decide (c ≠ 0) && decide (c ≠ 1) && decide (c ≠ 2) && decide (a ≠ 0) && decide (a ≠ 1) && decide (a ≠ 2) && decide (a ≠ c)) = true) :
    Conv lb E H ([(10, .iptr [.islc (encL cR fr) fr.length none] 0), (11, .iptr [.islc (encL cR clip) clip.length none] 0), (12, .iptr (rC s) 0), (13, .iptr [I64 x] 0), (14, .iptr [I64 y] 0), (15, .iptr (penC p) 0), (16, .ptr 0 0), (17, .ptr 1 0), (18, .ptr 2 0), (19, .iptr [plP sw sh spx] 0), (20, plT 3 w h px)] ++ []) [.c [I64 0, I64 0, NIL], .c [NIL], .c (rC t), .c (encL cU px)] := by
  simp only [Bool.and_eq_true, decide_eq_true_eq] at n0
  obtain ⟨⟨⟨⟨⟨⟨m1, m2⟩, m3⟩, m4⟩, m5⟩, m6⟩, m7⟩ := n0
  have e0 : Nat.beq 0 c = false := by cases c with | zero => exact absurd rfl m1 | succ c => rfl
  have e1 : Nat.beq 1 c = false := by match c, m2 with | 0, _ => rfl | 1, m => exact absurd rfl m | c + 2, _ => rfl
  have e2 : Nat.beq 2 c = false := by match c, m3 with | 0, _ => rfl | 1, _ => rfl | 2, m => exact absurd rfl m | c + 3, _ => rfl
  refine ⟨[some 0, some 1, some 2, some c], by simp [injB, noneIn, e0, e1, e2, show Nat.beq 0 1 = false from rfl, show Nat.beq 0 2 = false from rfl, show Nat.beq 1 2 = false from rfl], hlb, rfl, ?_, ?_⟩
  · refine CvE_cons h10 (Cv.pure (reg_pure fr)) (CvE_cons h11 (Cv.pure (reg_pure clip)) (CvE_cons h12 (Cv.pure rfl) (CvE_cons h13 (Cv.pure rfl) (CvE_cons h14 (Cv.pure rfl) (CvE_cons h15 (Cv.pure (penC_pure0 p)) (CvE_cons h16 (Cv.ptr rfl) (CvE_cons h17 (Cv.ptr rfl) (CvE_cons h18 (Cv.ptr rfl) (CvE_cons h19 ?_ (CvE_cons h20 ?_ trivial))))))))))
    · exact Cv.fptr ⟨ka, by simp; omega⟩ (CvL.pure (plP_pure sw sh spx))
    · exact Cv.iptr (cv_pl (Cv.pure (encL_pure cU _)) (Cv.slc rfl (.inl rfl)))
  · refine CvH_cons (CvB_c k0 (CvL.pure rfl)) (CvH_cons (CvB_c k1 (CvL.pure rfl)) (CvH_cons (CvB_c k2 (CvL.pure rfl)) (CvH_cons (CvB_c kc (CvL.pure (encL_pure cU _))) trivial)))
noncomputable def areaV (fr clip : List Rect) (s : Rect) (x y : Int) (sw sh w h : Nat) : List Rect := opL and (wantR clip (toR s x y) w h) (thereR fr s sw sh x y)
noncomputable def areaM (fr clip : List Rect) (s : Rect) (x y : Int) (sw sh w h : Nat) : List Rect := if noneB s x y = true then [] else opL subB (wantR clip (toR s x y) w h) (thereR fr s sw sh x y)
noncomputable def areaPx (fr clip : List Rect) (s : Rect) (x y : Int) (sw sh w h : Nat) (p : PenS) (spx px : List Int) : List Int := if noneB s x y = true then px else paintL w (inL (areaV fr clip s x y sw sh w h)) (moveF w px p (srcA sw spx s x y)) px
theorem countsB_bd {r : Rect} (h : countsB r = true) : -1048576 ≤ r.X ∧ r.X ≤ 1048576 ∧ -1048576 ≤ r.Y ∧ r.Y ≤ 1048576 := by
  unfold countsB fitsB at h
  simp only [Bool.and_eq_true, decide_eq_true_eq] at h
  omega
theorem blitArea_p {n m : Nat} (sw sh w h : Nat) (spx px : List Int) (fr clip : List Rect) (s : Rect) (x y : Int) (p : PenS) (hsw : sw ≤ 128) (hsh : sh ≤ 128) (hsl : spx.length = sw * sh) (hsb : ∀ v ∈ spx, 0 ≤ v ∧ v < 256) (hw : w ≤ 128) (hh : h ≤ 128) (hl : px.length = w * h) (hb : ∀ v ∈ px, 0 ≤ v ∧ v < 256)
    (hf : Reg n fr) (hc : Reg m clip) (hnm : n + m ≤ 480) (hs : rI s) (hx : i64 x) (hy : i64 y) (hok : PenOk p) (hpl : 0 ≤ p.pl ∧ p.pl < 256) :
    CallP Tryz.prog 35 [gT sw sh spx, gT w h px, regT fr, regT clip, rectT s, I64 x, I64 y, penT p] (.tup [gT w h (areaPx fr clip s x y sw sh w h p spx px), regT (areaM fr clip s x y sw sh w h)]) := by
  obtain ⟨hs1, hs2, hs3, hs4⟩ := hs
  have hcs := counts24_p s hs1 hs2 hs3 hs4
  have hct : CallP Tryz.prog 97 [rectT ⟨x, y, s.W, s.H⟩] (BL (countsB (toR s x y))) := counts24_p (toR s x y) hx hy hs3 hs4
  by_cases h0 : noneB s x y = true
  case pos =>
    have e1 : areaPx fr clip s x y sw sh w h p spx px = px := if_pos h0
    have e2 : areaM fr clip s x y sw sh w h = [] := if_pos h0
    rw [e1, e2]
    unfold noneB at h0
    refine CallP.intro2 au_pu au_pu ?_
    refine CallT.intro tab_ok Tryz.func35 rfl (by kernel_rfl) (Nat.le_of_ble_eq_true rfl) ?_
    refine VC.reg tab_ok [8, 9, 10, 11, 15] rfl ?_
    refine VX.newI rfl rfl ?_
    refine VX.newI rfl rfl ?_
    refine VX.newI rfl rfl ?_
    refine VX.newI rfl rfl ?_
    refine VX.new rfl rfl ?_
    refine VX.new rfl rfl ?_
    refine VX.new rfl rfl ?_
    refine VX.newI rfl rfl ?_
    refine VX.new rfl rfl ?_
    refine VX.new rfl rfl ?_
    refine VX.nil ?_
    refine VC.reg tab_ok [] rfl ?_
    first | refine VX.meek rfl ?_ | refine VX.loadI rfl rfl au_l ?_ | refine VX.loadP rfl rfl rfl au_l ?_
    first | refine VX.meek rfl ?_ | refine VX.loadI rfl rfl au_l ?_ | refine VX.loadP rfl rfl rfl au_l ?_
    refine VX.meek rfl ?_
    first | refine VX.meek rfl ?_ | refine VX.loadI rfl rfl au_l ?_ | refine VX.loadP rfl rfl rfl au_l ?_
    refine VX.meek rfl ?_
    first | refine VX.meek rfl ?_ | refine VX.loadI rfl rfl au_l ?_ | refine VX.loadP rfl rfl rfl au_l ?_
    refine VX.meek rfl ?_
    refine VX.new rfl rfl ?_
    refine VX.store rfl rfl rfl rfl rfl au_sR rfl ?_
    refine VX.nil ?_
    refine VC.seq ?_
    refine VC.reg tab_ok [] rfl ?_
    first | refine VX.meek rfl ?_ | refine VX.loadI rfl rfl au_l ?_ | refine VX.loadP rfl rfl rfl au_l ?_
    refine VX.callP0 rfl rfl rfl (check_p p hok) ?_
    iterate 2 refine VX.meek rfl ?_
    refine' VX.merge (d := 37) [_, _, _, _] rfl ?_ rfl ?_
    rotate_left
    · refine VX.guard rfl rfl (fun hb2_3 => ?_) (fun hb2_3 => ?_)
      · have ghb2_3 := hb2_3
        try simp only [au_std, Bool.not_true, Bool.not_false] at ghb2_3
        first | refine VX.meek rfl ?_ | refine VX.loadI rfl rfl au_l ?_ | refine VX.loadP rfl rfl rfl au_l ?_
        refine VX.guardT rfl rfl hb2_3 ?_
        refine VX.callP0 rfl rfl rfl (hcs) ?_
        refine VX.guardT rfl rfl hb2_3 ?_
        refine VX.meek rfl ?_
        refine VX.pickO rfl (fun _ => rfl) ?_
        exact VX.nil ⟨rfl, rfl⟩
      · refine VX.guardF rfl rfl hb2_3 ?_
        refine VX.guardF rfl rfl hb2_3 ?_
        exact VX.pickO rfl (fun h => absurd (h.symm.trans hb2_3) (by decide)) (VX.nil ⟨rfl, rfl⟩)
    refine VX.meek rfl ?_
    refine' VX.merge (d := 42) [_, _, _, _] rfl ?_ rfl ?_
    rotate_left
    · refine VX.guard rfl rfl (fun hb2_8 => ?_) (fun hb2_8 => ?_)
      · have ghb2_8 := hb2_8
        try simp only [au_std, Bool.not_true, Bool.not_false] at ghb2_8
        first | refine VX.meek rfl ?_ | refine VX.loadI rfl rfl au_l ?_ | refine VX.loadP rfl rfl rfl au_l ?_
        refine VX.guardT rfl rfl hb2_8 ?_
        refine VX.callP0 rfl rfl rfl (hct) ?_
        refine VX.guardT rfl rfl hb2_8 ?_
        refine VX.meek rfl ?_
        refine VX.pickO rfl (fun _ => rfl) ?_
        exact VX.nil ⟨rfl, rfl⟩
      · refine VX.guardF rfl rfl hb2_8 ?_
        refine VX.guardF rfl rfl hb2_8 ?_
        exact VX.pickO rfl (fun h => absurd (h.symm.trans hb2_8) (by decide)) (VX.nil ⟨rfl, rfl⟩)
    refine VX.nil ?_
    refine VC.cond rfl (fun hc0 => ?_) (fun hc0 => ?_)
    · (try simp only [au_std] at hc0)
      refine VC.reg tab_ok [] rfl ?_
      first | refine VX.meek rfl ?_ | refine VX.loadI rfl rfl au_l ?_ | refine VX.loadP rfl rfl rfl au_l ?_
      refine VX.meek rfl ?_
      refine VX.store rfl rfl rfl rfl rfl au_sR rfl ?_
      refine VX.store rfl rfl rfl rfl rfl au_sR rfl ?_
      refine VX.nil ?_
      refine VC.ret ?_
      exact ⟨trivial, _, rfl, Cv.tup (CvL.cons (Cv.agg (cv_g (Cv.pure (encL_pure cU _)))) (CvL.cons (Cv.agg (CvL.cons (Cv.nil _ (.inl rfl)) CvL.nil)) CvL.nil))⟩
    · exact absurd h0 (by simp at hc0; simp [hc0])
  case neg =>
    have e1 : areaPx fr clip s x y sw sh w h p spx px = paintL w (inL (areaV fr clip s x y sw sh w h)) (moveF w px p (srcA sw spx s x y)) px := if_neg h0
    have e2 : areaM fr clip s x y sw sh w h = opL subB (wantR clip (toR s x y) w h) (thereR fr s sw sh x y) := if_neg h0
    rw [e1, e2]
    have hcc : countsB s = true ∧ countsB (toR s x y) = true := by
      unfold noneB at h0
      cases k1 : countsB s <;> cases k2 : countsB (toR s x y) <;> simp [k1, k2] at h0 ⊢
    have b1 := countsB_bd hcc.1
    have b2 : -1048576 ≤ x ∧ x ≤ 1048576 ∧ -1048576 ≤ y ∧ y ≤ 1048576 := countsB_bd hcc.2
    have hwant := want_reg hc (toR s x y) w h
    have hthere := there_reg hf s sw sh x y
    have hv := opL_reg (k := and) rfl hwant hthere
    have hvin : ∀ a b, inL (areaV fr clip s x y sw sh w h) a b → inL (wantR clip (toR s x y) w h) a b ∧ inL (thereR fr s sw sh x y) a b := fun a b hi => (opL_and hwant hthere).1 hi
    have hlen : (areaV fr clip s x y sw sh w h).length ≤ 1048576 := Nat.le_trans hv.len (Nat.le_trans (Nat.mul_le_mul (show _ ≤ 500 by omega) (show _ ≤ 500 by omega)) (by decide))
    have w1 : CallP Tryz.prog 68 [regT clip, rectT ⟨x, y, s.W, s.H⟩] (regT (opL and clip (bandOf [toR s x y]))) := within_p hc (toR s x y) ⟨hx, hy⟩ (by omega)
    have r1 := opL_reg (k := and) rfl hc (Reg.of [toR s x y])
    have w2 : CallP Tryz.prog 68 [regT (opL and clip (bandOf [toR s x y])), rectT ⟨0, 0, w, h⟩] (regT (wantR clip (toR s x y) w h)) := within_p r1 ⟨0, 0, w, h⟩ ⟨by unfold i64; dsimp only; omega, by unfold i64; dsimp only; omega⟩ (by simp; omega)
    have r2 := opL_reg (k := and) rfl hf (Reg.of [s])
    have w3 : CallP Tryz.prog 68 [regT fr, rectT s] (regT (opL and fr (bandOf [s]))) := within_p hf s ⟨hs1, hs2⟩ (by omega)
    have w4 : CallP Tryz.prog 68 [regT (opL and fr (bandOf [s])), rectT ⟨0, 0, sw, sh⟩] (regT (opL and (opL and fr (bandOf [s])) (bandOf [⟨0, 0, (sw : Int), (sh : Int)⟩]))) := within_p r2 ⟨0, 0, sw, sh⟩ ⟨by unfold i64; dsimp only; omega, by unfold i64; dsimp only; omega⟩ (by simp; omega)
    have r3 := opL_reg (k := and) rfl r2 (Reg.of [⟨0, 0, (sw : Int), (sh : Int)⟩])
    have w5 : CallP Tryz.prog 98 [regT (opL and (opL and fr (bandOf [s])) (bandOf [⟨0, 0, (sw : Int), (sh : Int)⟩])), I64 (x - s.X), I64 (y - s.Y)] (regT (thereR fr s sw sh x y)) := shiftR_p r3 (by simp; omega) _ _
    have w6 : CallP Tryz.prog 58 [regT (wantR clip (toR s x y) w h), regT (thereR fr s sw sh x y)] (regT (areaV fr clip s x y sw sh w h)) := meet_p hwant hthere (by omega)
    have w7 := minus_p hwant hthere (show m + 2 + 2 + (n + 2 + 2 + 2) ≤ 500 by omega)
    have hin : ∀ a b, inL (areaV fr clip s x y sw sh w h) a b → 0 ≤ a ∧ a < w ∧ 0 ≤ b ∧ b < h := fun a b hi => ((want_in hc _ hw hh a b).1 (hvin a b hi).1).2
    have hth : ∀ a b, inL (areaV fr clip s x y sw sh w h) a b → (0 ≤ a - x + s.X ∧ a - x + s.X < sw ∧ 0 ≤ b - y + s.Y ∧ b - y + s.Y < sh) ∧ inQ a b := fun a b hi => by
      have := (there_in hf s hsw hsh x y a b).1 (hvin a b hi).2
      exact ⟨by omega, this.2⟩
    have hmv := move_t w h px px (areaV fr clip s x y sw sh w h) p 100 [.iptr [plP sw sh spx] 0, .iptr [I64 x] 0, .iptr (rC s) 0, .iptr [I64 y] 0] (srcA sw spx s x y) (fun v _ => CvL.pure (by simp only [T.pureL, T.pure, encL_pure]; rfl)) hw hh hl hl hv.canon hv.ok hlen hin hb hb hpl (fun a b _ => bang_bd hsb _)
      (fun q a b hq hi => ((area1_p sw sh spx s x y a b hsw hsh hsl (hth a b hi).1.1 (hth a b hi).1.2.1 (hth a b hi).1.2.2.1 (hth a b hi).1.2.2.2 ⟨b2.1, b2.2.1⟩ ⟨b2.2.2.1, b2.2.2.2⟩ ⟨b1.1, b1.2.1⟩ ⟨b1.2.2.1, b1.2.2.2⟩ (hth a b hi).2).callT _).mono fun t H' hh => hh)
    have hres : ∀ v ∈ paintL w (inL (areaV fr clip s x y sw sh w h)) (moveF w px p (srcA sw spx s x y)) px, 0 ≤ v ∧ v < 256 := paintL_bd hb (moveF_bd _ _ _ _)
    have hresl := (paintL_len w (inL (areaV fr clip s x y sw sh w h)) (moveF w px p (srcA sw spx s x y)) px).trans hl
    generalize wantR clip (toR s x y) w h = WA at *
    generalize thereR fr s sw sh x y = TH at *
    generalize areaV fr clip s x y sw sh w h = V at *
    refine CallP.intro2 au_pu au_pu ?_
    refine CallT.intro tab_ok Tryz.func35 rfl (by kernel_rfl) (Nat.le_of_ble_eq_true rfl) ?_
    refine VC.reg tab_ok [8, 9, 10, 11, 12, 13, 14, 15] rfl ?_
    refine VX.newI rfl rfl ?_
    refine VX.newI rfl rfl ?_
    refine VX.newI rfl rfl ?_
    refine VX.newI rfl rfl ?_
    refine VX.newI rfl rfl ?_
    refine VX.newI rfl rfl ?_
    refine VX.newI rfl rfl ?_
    refine VX.newI rfl rfl ?_
    refine VX.new rfl rfl ?_
    refine VX.new rfl rfl ?_
    refine VX.nil ?_
    refine VC.reg tab_ok [] rfl ?_
    first | refine VX.meek rfl ?_ | refine VX.loadI rfl rfl au_l ?_ | refine VX.loadP rfl rfl rfl au_l ?_
    first | refine VX.meek rfl ?_ | refine VX.loadI rfl rfl au_l ?_ | refine VX.loadP rfl rfl rfl au_l ?_
    refine VX.meek rfl ?_
    first | refine VX.meek rfl ?_ | refine VX.loadI rfl rfl au_l ?_ | refine VX.loadP rfl rfl rfl au_l ?_
    refine VX.meek rfl ?_
    first | refine VX.meek rfl ?_ | refine VX.loadI rfl rfl au_l ?_ | refine VX.loadP rfl rfl rfl au_l ?_
    refine VX.meek rfl ?_
    refine VX.new rfl rfl ?_
    refine VX.store rfl rfl rfl rfl rfl au_sR rfl ?_
    refine VX.nil ?_
    refine VC.view ([(16, .ptr 0 0), (17, .ptr 1 0), (18, .ptr 2 0)]) ([.c [I64 0, I64 0, NIL], .c [NIL], .c (rC ⟨x, y, s.W, s.H⟩)]) [8, 9, 10, 11, 12, 13, 14, 15] rfl (by refine ⟨[some 0, some 1, some 2], rfl, by first | trivial | decide, rfl, ?_, ?_⟩ <;> (repeat' first | exact trivial | exact CvB_n | exact CvB_d | refine CvE_app ?_ ?_ | refine CvE_cons rfl ?_ ?_ | refine CvH_cons ?_ ?_ | refine CvB_c rfl ?_ | fail) <;> first | exact au_v | (first | exact CvL.eq rfl rfl | exact CvL.pure rfl)) ?_
    refine VC.seq ?_
    refine VC.reg tab_ok [] rfl ?_
    first | refine VX.meek rfl ?_ | refine VX.loadI rfl rfl au_l ?_ | refine VX.loadP rfl rfl rfl au_l ?_
    refine VX.callP0 rfl rfl rfl (check_p p hok) ?_
    iterate 2 refine VX.meek rfl ?_
    refine' VX.merge (d := 37) [_, _, _, _] rfl ?_ rfl ?_
    rotate_left
    · refine VX.guard rfl rfl (fun hb2_3 => ?_) (fun hb2_3 => ?_)
      · have ghb2_3 := hb2_3
        try simp only [au_std, Bool.not_true, Bool.not_false] at ghb2_3
        first | refine VX.meek rfl ?_ | refine VX.loadI rfl rfl au_l ?_ | refine VX.loadP rfl rfl rfl au_l ?_
        refine VX.guardT rfl rfl hb2_3 ?_
        refine VX.callP0 rfl rfl rfl (hcs) ?_
        refine VX.guardT rfl rfl hb2_3 ?_
        refine VX.meek rfl ?_
        refine VX.pickO rfl (fun _ => rfl) ?_
        exact VX.nil ⟨rfl, rfl⟩
      · refine VX.guardF rfl rfl hb2_3 ?_
        refine VX.guardF rfl rfl hb2_3 ?_
        exact VX.pickO rfl (fun h => absurd (h.symm.trans hb2_3) (by decide)) (VX.nil ⟨rfl, rfl⟩)
    refine VX.meek rfl ?_
    refine' VX.merge (d := 42) [_, _, _, _] rfl ?_ rfl ?_
    rotate_left
    · refine VX.guard rfl rfl (fun hb2_8 => ?_) (fun hb2_8 => ?_)
      · have ghb2_8 := hb2_8
        try simp only [au_std, Bool.not_true, Bool.not_false] at ghb2_8
        first | refine VX.meek rfl ?_ | refine VX.loadI rfl rfl au_l ?_ | refine VX.loadP rfl rfl rfl au_l ?_
        refine VX.guardT rfl rfl hb2_8 ?_
        refine VX.callP0 rfl rfl rfl (hct) ?_
        refine VX.guardT rfl rfl hb2_8 ?_
        refine VX.meek rfl ?_
        refine VX.pickO rfl (fun _ => rfl) ?_
        exact VX.nil ⟨rfl, rfl⟩
      · refine VX.guardF rfl rfl hb2_8 ?_
        refine VX.guardF rfl rfl hb2_8 ?_
        exact VX.pickO rfl (fun h => absurd (h.symm.trans hb2_8) (by decide)) (VX.nil ⟨rfl, rfl⟩)
    refine VX.nil ?_
    refine VC.cond rfl (fun hc0 => ?_) (fun hc0 => ?_)
    · exact absurd hc0 (by simp [hcc.1, hcc.2])
    · (try simp only [au_std] at hc0)
      refine VC.skip ?_
      refine VC.drwAll tab_ok [] (by kernel_rfl) rfl ([(10, .iptr [.islc (encL cR fr) fr.length none] 0), (11, .iptr [.islc (encL cR clip) clip.length none] 0), (12, .iptr (rC s) 0), (13, .iptr [I64 x] 0), (14, .iptr [I64 y] 0), (15, .iptr (penC p) 0), (16, .ptr 0 0), (17, .ptr 1 0), (18, .ptr 2 0), (19, .iptr [plP sw sh spx] 0), (20, plT 3 w h px)]) ([.c [I64 0, I64 0, NIL], .c [NIL], .c (rC ⟨x, y, s.W, s.H⟩), .c (encL cU px)]) [] rfl ?_ ?_
      · refine AnyV.more [0, 2, 4] (by kernel_rfl) (by simp) ?_
        refine allI_cons ?_ ?_
        · refine anyV_op rfl ?_
          first | refine VX.meek rfl ?_ | refine VX.loadI rfl rfl au_l ?_ | refine VX.loadP rfl rfl rfl au_l ?_
          refine VX.nil ?_
          refine AnyV.more [1, 2, 4] (by kernel_rfl) (by simp) ?_
          refine allI_cons ?_ ?_
          · refine anyV_op rfl ?_
            refine VX.callP0 rfl rfl rfl (planeOf_p sw sh spx hsw hsh hsl hsb) ?_
            refine VX.nil ?_
            refine AnyV.more [2, 4] (by kernel_rfl) (by simp) ?_
            refine allI_cons ?_ ?_
            · refine anyV_op rfl ?_
              first | refine VX.meek rfl ?_ | refine VX.loadI rfl rfl au_l ?_ | refine VX.loadP rfl rfl rfl au_l ?_
              refine VX.nil ?_
              refine AnyV.more [3, 4] (by kernel_rfl) (by simp) ?_
              refine allI_cons ?_ ?_
              · refine anyV_op rfl ?_
                refine VX.callT rfl rfl (CallT.frame (planeOf_t w h px hw hh hl hb) [] rfl au_ci au_ci ?_)
                rintro _ _ ⟨rfl, rfl⟩
                refine frK au_co au_co ?_
                refine VX.nil ?_
                refine AnyV.more [4] (by kernel_rfl) (by simp) ?_
                refine allI_cons ?_ ?_
                · refine anyV_op rfl ?_
                  refine VX.new rfl rfl ?_
                  refine VX.nil ?_
                  refine AnyV.more [5] (by kernel_rfl) (by simp) ?_
                  refine allI_cons ?_ ?_
                  · refine anyV_op rfl ?_
                    refine VX.store rfl rfl rfl rfl rfl au_sR rfl ?_
                    refine VX.nil ?_
                    refine AnyV.more [6] (by kernel_rfl) (by simp) ?_
                    refine allI_cons ?_ ?_
                    · refine anyV_op rfl ?_
                      refine VX.meek rfl ?_
                      refine VX.nil ?_
                      exact AnyV.fin (by kernel_rfl) (area_leaf 4 3 trivial rfl rfl rfl rfl rfl rfl rfl rfl rfl rfl rfl rfl rfl rfl rfl rfl rfl)
                    exact trivial
                  exact trivial
                exact trivial
              refine allI_cons ?_ ?_
              · refine anyV_op rfl ?_
                refine VX.new rfl rfl ?_
                refine VX.nil ?_
                refine AnyV.more [3] (by kernel_rfl) (by simp) ?_
                refine allI_cons ?_ ?_
                · refine anyV_op rfl ?_
                  refine VX.callT rfl rfl (CallT.frame (planeOf_t w h px hw hh hl hb) [] rfl au_ci au_ci ?_)
                  rintro _ _ ⟨rfl, rfl⟩
                  refine frK au_co au_co ?_
                  refine VX.nil ?_
                  refine AnyV.more [5] (by kernel_rfl) (by simp) ?_
                  refine allI_cons ?_ ?_
                  · refine anyV_op rfl ?_
                    refine VX.store rfl rfl rfl rfl rfl au_sR rfl ?_
                    refine VX.nil ?_
                    refine AnyV.more [6] (by kernel_rfl) (by simp) ?_
                    refine allI_cons ?_ ?_
                    · refine anyV_op rfl ?_
                      refine VX.meek rfl ?_
                      refine VX.nil ?_
                      exact AnyV.fin (by kernel_rfl) (area_leaf 3 4 trivial rfl rfl rfl rfl rfl rfl rfl rfl rfl rfl rfl rfl rfl rfl rfl rfl rfl)
                    exact trivial
                  exact trivial
                exact trivial
              exact trivial
            refine allI_cons ?_ ?_
            · refine anyV_op rfl ?_
              refine VX.new rfl rfl ?_
              refine VX.nil ?_
              refine AnyV.more [2] (by kernel_rfl) (by simp) ?_
              refine allI_cons ?_ ?_
              · refine anyV_op rfl ?_
                first | refine VX.meek rfl ?_ | refine VX.loadI rfl rfl au_l ?_ | refine VX.loadP rfl rfl rfl au_l ?_
                refine VX.nil ?_
                refine AnyV.more [3] (by kernel_rfl) (by simp) ?_
                refine allI_cons ?_ ?_
                · refine anyV_op rfl ?_
                  refine VX.callT rfl rfl (CallT.frame (planeOf_t w h px hw hh hl hb) [] rfl au_ci au_ci ?_)
                  rintro _ _ ⟨rfl, rfl⟩
                  refine frK au_co au_co ?_
                  refine VX.nil ?_
                  refine AnyV.more [5] (by kernel_rfl) (by simp) ?_
                  refine allI_cons ?_ ?_
                  · refine anyV_op rfl ?_
                    refine VX.store rfl rfl rfl rfl rfl au_sR rfl ?_
                    refine VX.nil ?_
                    refine AnyV.more [6] (by kernel_rfl) (by simp) ?_
                    refine allI_cons ?_ ?_
                    · refine anyV_op rfl ?_
                      refine VX.meek rfl ?_
                      refine VX.nil ?_
                      exact AnyV.fin (by kernel_rfl) (area_leaf 3 4 trivial rfl rfl rfl rfl rfl rfl rfl rfl rfl rfl rfl rfl rfl rfl rfl rfl rfl)
                    exact trivial
                  exact trivial
                exact trivial
              exact trivial
            exact trivial
          refine allI_cons ?_ ?_
          · refine anyV_op rfl ?_
            first | refine VX.meek rfl ?_ | refine VX.loadI rfl rfl au_l ?_ | refine VX.loadP rfl rfl rfl au_l ?_
            refine VX.nil ?_
            refine AnyV.more [1, 4] (by kernel_rfl) (by simp) ?_
            refine allI_cons ?_ ?_
            · refine anyV_op rfl ?_
              refine VX.callP0 rfl rfl rfl (planeOf_p sw sh spx hsw hsh hsl hsb) ?_
              refine VX.nil ?_
              refine AnyV.more [3, 4] (by kernel_rfl) (by simp) ?_
              refine allI_cons ?_ ?_
              · refine anyV_op rfl ?_
                refine VX.callT rfl rfl (CallT.frame (planeOf_t w h px hw hh hl hb) [] rfl au_ci au_ci ?_)
                rintro _ _ ⟨rfl, rfl⟩
                refine frK au_co au_co ?_
                refine VX.nil ?_
                refine AnyV.more [4] (by kernel_rfl) (by simp) ?_
                refine allI_cons ?_ ?_
                · refine anyV_op rfl ?_
                  refine VX.new rfl rfl ?_
                  refine VX.nil ?_
                  refine AnyV.more [5] (by kernel_rfl) (by simp) ?_
                  refine allI_cons ?_ ?_
                  · refine anyV_op rfl ?_
                    refine VX.store rfl rfl rfl rfl rfl au_sR rfl ?_
                    refine VX.nil ?_
                    refine AnyV.more [6] (by kernel_rfl) (by simp) ?_
                    refine allI_cons ?_ ?_
                    · refine anyV_op rfl ?_
                      refine VX.meek rfl ?_
                      refine VX.nil ?_
                      exact AnyV.fin (by kernel_rfl) (area_leaf 4 3 trivial rfl rfl rfl rfl rfl rfl rfl rfl rfl rfl rfl rfl rfl rfl rfl rfl rfl)
                    exact trivial
                  exact trivial
                exact trivial
              refine allI_cons ?_ ?_
              · refine anyV_op rfl ?_
                refine VX.new rfl rfl ?_
                refine VX.nil ?_
                refine AnyV.more [3] (by kernel_rfl) (by simp) ?_
                refine allI_cons ?_ ?_
                · refine anyV_op rfl ?_
                  refine VX.callT rfl rfl (CallT.frame (planeOf_t w h px hw hh hl hb) [] rfl au_ci au_ci ?_)
                  rintro _ _ ⟨rfl, rfl⟩
                  refine frK au_co au_co ?_
                  refine VX.nil ?_
                  refine AnyV.more [5] (by kernel_rfl) (by simp) ?_
                  refine allI_cons ?_ ?_
                  · refine anyV_op rfl ?_
                    refine VX.store rfl rfl rfl rfl rfl au_sR rfl ?_
                    refine VX.nil ?_
                    refine AnyV.more [6] (by kernel_rfl) (by simp) ?_
                    refine allI_cons ?_ ?_
                    · refine anyV_op rfl ?_
                      refine VX.meek rfl ?_
                      refine VX.nil ?_
                      exact AnyV.fin (by kernel_rfl) (area_leaf 3 4 trivial rfl rfl rfl rfl rfl rfl rfl rfl rfl rfl rfl rfl rfl rfl rfl rfl rfl)
                    exact trivial
                  exact trivial
                exact trivial
              exact trivial
            refine allI_cons ?_ ?_
            · refine anyV_op rfl ?_
              refine VX.new rfl rfl ?_
              refine VX.nil ?_
              refine AnyV.more [1] (by kernel_rfl) (by simp) ?_
              refine allI_cons ?_ ?_
              · refine anyV_op rfl ?_
                refine VX.callP0 rfl rfl rfl (planeOf_p sw sh spx hsw hsh hsl hsb) ?_
                refine VX.nil ?_
                refine AnyV.more [3] (by kernel_rfl) (by simp) ?_
                refine allI_cons ?_ ?_
                · refine anyV_op rfl ?_
                  refine VX.callT rfl rfl (CallT.frame (planeOf_t w h px hw hh hl hb) [] rfl au_ci au_ci ?_)
                  rintro _ _ ⟨rfl, rfl⟩
                  refine frK au_co au_co ?_
                  refine VX.nil ?_
                  refine AnyV.more [5] (by kernel_rfl) (by simp) ?_
                  refine allI_cons ?_ ?_
                  · refine anyV_op rfl ?_
                    refine VX.store rfl rfl rfl rfl rfl au_sR rfl ?_
                    refine VX.nil ?_
                    refine AnyV.more [6] (by kernel_rfl) (by simp) ?_
                    refine allI_cons ?_ ?_
                    · refine anyV_op rfl ?_
                      refine VX.meek rfl ?_
                      refine VX.nil ?_
                      exact AnyV.fin (by kernel_rfl) (area_leaf 3 4 trivial rfl rfl rfl rfl rfl rfl rfl rfl rfl rfl rfl rfl rfl rfl rfl rfl rfl)
                    exact trivial
                  exact trivial
                exact trivial
              exact trivial
            exact trivial
          refine allI_cons ?_ ?_
          · refine anyV_op rfl ?_
            refine VX.new rfl rfl ?_
            refine VX.nil ?_
            refine AnyV.more [1, 2] (by kernel_rfl) (by simp) ?_
            refine allI_cons ?_ ?_
            · refine anyV_op rfl ?_
              refine VX.callP0 rfl rfl rfl (planeOf_p sw sh spx hsw hsh hsl hsb) ?_
              refine VX.nil ?_
              refine AnyV.more [2] (by kernel_rfl) (by simp) ?_
              refine allI_cons ?_ ?_
              · refine anyV_op rfl ?_
                first | refine VX.meek rfl ?_ | refine VX.loadI rfl rfl au_l ?_ | refine VX.loadP rfl rfl rfl au_l ?_
                refine VX.nil ?_
                refine AnyV.more [3] (by kernel_rfl) (by simp) ?_
                refine allI_cons ?_ ?_
                · refine anyV_op rfl ?_
                  refine VX.callT rfl rfl (CallT.frame (planeOf_t w h px hw hh hl hb) [] rfl au_ci au_ci ?_)
                  rintro _ _ ⟨rfl, rfl⟩
                  refine frK au_co au_co ?_
                  refine VX.nil ?_
                  refine AnyV.more [5] (by kernel_rfl) (by simp) ?_
                  refine allI_cons ?_ ?_
                  · refine anyV_op rfl ?_
                    refine VX.store rfl rfl rfl rfl rfl au_sR rfl ?_
                    refine VX.nil ?_
                    refine AnyV.more [6] (by kernel_rfl) (by simp) ?_
                    refine allI_cons ?_ ?_
                    · refine anyV_op rfl ?_
                      refine VX.meek rfl ?_
                      refine VX.nil ?_
                      exact AnyV.fin (by kernel_rfl) (area_leaf 3 4 trivial rfl rfl rfl rfl rfl rfl rfl rfl rfl rfl rfl rfl rfl rfl rfl rfl rfl)
                    exact trivial
                  exact trivial
                exact trivial
              exact trivial
            refine allI_cons ?_ ?_
            · refine anyV_op rfl ?_
              first | refine VX.meek rfl ?_ | refine VX.loadI rfl rfl au_l ?_ | refine VX.loadP rfl rfl rfl au_l ?_
              refine VX.nil ?_
              refine AnyV.more [1] (by kernel_rfl) (by simp) ?_
              refine allI_cons ?_ ?_
              · refine anyV_op rfl ?_
                refine VX.callP0 rfl rfl rfl (planeOf_p sw sh spx hsw hsh hsl hsb) ?_
                refine VX.nil ?_
                refine AnyV.more [3] (by kernel_rfl) (by simp) ?_
                refine allI_cons ?_ ?_
                · refine anyV_op rfl ?_
                  refine VX.callT rfl rfl (CallT.frame (planeOf_t w h px hw hh hl hb) [] rfl au_ci au_ci ?_)
                  rintro _ _ ⟨rfl, rfl⟩
                  refine frK au_co au_co ?_
                  refine VX.nil ?_
                  refine AnyV.more [5] (by kernel_rfl) (by simp) ?_
                  refine allI_cons ?_ ?_
                  · refine anyV_op rfl ?_
                    refine VX.store rfl rfl rfl rfl rfl au_sR rfl ?_
                    refine VX.nil ?_
                    refine AnyV.more [6] (by kernel_rfl) (by simp) ?_
                    refine allI_cons ?_ ?_
                    · refine anyV_op rfl ?_
                      refine VX.meek rfl ?_
                      refine VX.nil ?_
                      exact AnyV.fin (by kernel_rfl) (area_leaf 3 4 trivial rfl rfl rfl rfl rfl rfl rfl rfl rfl rfl rfl rfl rfl rfl rfl rfl rfl)
                    exact trivial
                  exact trivial
                exact trivial
              exact trivial
            exact trivial
          exact trivial
        refine allI_cons ?_ ?_
        · refine anyV_op rfl ?_
          first | refine VX.meek rfl ?_ | refine VX.loadI rfl rfl au_l ?_ | refine VX.loadP rfl rfl rfl au_l ?_
          refine VX.nil ?_
          refine AnyV.more [0, 4] (by kernel_rfl) (by simp) ?_
          refine allI_cons ?_ ?_
          · refine anyV_op rfl ?_
            first | refine VX.meek rfl ?_ | refine VX.loadI rfl rfl au_l ?_ | refine VX.loadP rfl rfl rfl au_l ?_
            refine VX.nil ?_
            refine AnyV.more [1, 4] (by kernel_rfl) (by simp) ?_
            refine allI_cons ?_ ?_
            · refine anyV_op rfl ?_
              refine VX.callP0 rfl rfl rfl (planeOf_p sw sh spx hsw hsh hsl hsb) ?_
              refine VX.nil ?_
              refine AnyV.more [3, 4] (by kernel_rfl) (by simp) ?_
              refine allI_cons ?_ ?_
              · refine anyV_op rfl ?_
                refine VX.callT rfl rfl (CallT.frame (planeOf_t w h px hw hh hl hb) [] rfl au_ci au_ci ?_)
                rintro _ _ ⟨rfl, rfl⟩
                refine frK au_co au_co ?_
                refine VX.nil ?_
                refine AnyV.more [4] (by kernel_rfl) (by simp) ?_
                refine allI_cons ?_ ?_
                · refine anyV_op rfl ?_
                  refine VX.new rfl rfl ?_
                  refine VX.nil ?_
                  refine AnyV.more [5] (by kernel_rfl) (by simp) ?_
                  refine allI_cons ?_ ?_
                  · refine anyV_op rfl ?_
                    refine VX.store rfl rfl rfl rfl rfl au_sR rfl ?_
                    refine VX.nil ?_
                    refine AnyV.more [6] (by kernel_rfl) (by simp) ?_
                    refine allI_cons ?_ ?_
                    · refine anyV_op rfl ?_
                      refine VX.meek rfl ?_
                      refine VX.nil ?_
                      exact AnyV.fin (by kernel_rfl) (area_leaf 4 3 trivial rfl rfl rfl rfl rfl rfl rfl rfl rfl rfl rfl rfl rfl rfl rfl rfl rfl)
                    exact trivial
                  exact trivial
                exact trivial
              refine allI_cons ?_ ?_
              · refine anyV_op rfl ?_
                refine VX.new rfl rfl ?_
                refine VX.nil ?_
                refine AnyV.more [3] (by kernel_rfl) (by simp) ?_
                refine allI_cons ?_ ?_
                · refine anyV_op rfl ?_
                  refine VX.callT rfl rfl (CallT.frame (planeOf_t w h px hw hh hl hb) [] rfl au_ci au_ci ?_)
                  rintro _ _ ⟨rfl, rfl⟩
                  refine frK au_co au_co ?_
                  refine VX.nil ?_
                  refine AnyV.more [5] (by kernel_rfl) (by simp) ?_
                  refine allI_cons ?_ ?_
                  · refine anyV_op rfl ?_
                    refine VX.store rfl rfl rfl rfl rfl au_sR rfl ?_
                    refine VX.nil ?_
                    refine AnyV.more [6] (by kernel_rfl) (by simp) ?_
                    refine allI_cons ?_ ?_
                    · refine anyV_op rfl ?_
                      refine VX.meek rfl ?_
                      refine VX.nil ?_
                      exact AnyV.fin (by kernel_rfl) (area_leaf 3 4 trivial rfl rfl rfl rfl rfl rfl rfl rfl rfl rfl rfl rfl rfl rfl rfl rfl rfl)
                    exact trivial
                  exact trivial
                exact trivial
              exact trivial
            refine allI_cons ?_ ?_
            · refine anyV_op rfl ?_
              refine VX.new rfl rfl ?_
              refine VX.nil ?_
              refine AnyV.more [1] (by kernel_rfl) (by simp) ?_
              refine allI_cons ?_ ?_
              · refine anyV_op rfl ?_
                refine VX.callP0 rfl rfl rfl (planeOf_p sw sh spx hsw hsh hsl hsb) ?_
                refine VX.nil ?_
                refine AnyV.more [3] (by kernel_rfl) (by simp) ?_
                refine allI_cons ?_ ?_
                · refine anyV_op rfl ?_
                  refine VX.callT rfl rfl (CallT.frame (planeOf_t w h px hw hh hl hb) [] rfl au_ci au_ci ?_)
                  rintro _ _ ⟨rfl, rfl⟩
                  refine frK au_co au_co ?_
                  refine VX.nil ?_
                  refine AnyV.more [5] (by kernel_rfl) (by simp) ?_
                  refine allI_cons ?_ ?_
                  · refine anyV_op rfl ?_
                    refine VX.store rfl rfl rfl rfl rfl au_sR rfl ?_
                    refine VX.nil ?_
                    refine AnyV.more [6] (by kernel_rfl) (by simp) ?_
                    refine allI_cons ?_ ?_
                    · refine anyV_op rfl ?_
                      refine VX.meek rfl ?_
                      refine VX.nil ?_
                      exact AnyV.fin (by kernel_rfl) (area_leaf 3 4 trivial rfl rfl rfl rfl rfl rfl rfl rfl rfl rfl rfl rfl rfl rfl rfl rfl rfl)
                    exact trivial
                  exact trivial
                exact trivial
              exact trivial
            exact trivial
          refine allI_cons ?_ ?_
          · refine anyV_op rfl ?_
            refine VX.new rfl rfl ?_
            refine VX.nil ?_
            refine AnyV.more [0] (by kernel_rfl) (by simp) ?_
            refine allI_cons ?_ ?_
            · refine anyV_op rfl ?_
              first | refine VX.meek rfl ?_ | refine VX.loadI rfl rfl au_l ?_ | refine VX.loadP rfl rfl rfl au_l ?_
              refine VX.nil ?_
              refine AnyV.more [1] (by kernel_rfl) (by simp) ?_
              refine allI_cons ?_ ?_
              · refine anyV_op rfl ?_
                refine VX.callP0 rfl rfl rfl (planeOf_p sw sh spx hsw hsh hsl hsb) ?_
                refine VX.nil ?_
                refine AnyV.more [3] (by kernel_rfl) (by simp) ?_
                refine allI_cons ?_ ?_
                · refine anyV_op rfl ?_
                  refine VX.callT rfl rfl (CallT.frame (planeOf_t w h px hw hh hl hb) [] rfl au_ci au_ci ?_)
                  rintro _ _ ⟨rfl, rfl⟩
                  refine frK au_co au_co ?_
                  refine VX.nil ?_
                  refine AnyV.more [5] (by kernel_rfl) (by simp) ?_
                  refine allI_cons ?_ ?_
                  · refine anyV_op rfl ?_
                    refine VX.store rfl rfl rfl rfl rfl au_sR rfl ?_
                    refine VX.nil ?_
                    refine AnyV.more [6] (by kernel_rfl) (by simp) ?_
                    refine allI_cons ?_ ?_
                    · refine anyV_op rfl ?_
                      refine VX.meek rfl ?_
                      refine VX.nil ?_
                      exact AnyV.fin (by kernel_rfl) (area_leaf 3 4 trivial rfl rfl rfl rfl rfl rfl rfl rfl rfl rfl rfl rfl rfl rfl rfl rfl rfl)
                    exact trivial
                  exact trivial
                exact trivial
              exact trivial
            exact trivial
          exact trivial
        refine allI_cons ?_ ?_
        · refine anyV_op rfl ?_
          refine VX.new rfl rfl ?_
          refine VX.nil ?_
          refine AnyV.more [0, 2] (by kernel_rfl) (by simp) ?_
          refine allI_cons ?_ ?_
          · refine anyV_op rfl ?_
            first | refine VX.meek rfl ?_ | refine VX.loadI rfl rfl au_l ?_ | refine VX.loadP rfl rfl rfl au_l ?_
            refine VX.nil ?_
            refine AnyV.more [1, 2] (by kernel_rfl) (by simp) ?_
            refine allI_cons ?_ ?_
            · refine anyV_op rfl ?_
              refine VX.callP0 rfl rfl rfl (planeOf_p sw sh spx hsw hsh hsl hsb) ?_
              refine VX.nil ?_
              refine AnyV.more [2] (by kernel_rfl) (by simp) ?_
              refine allI_cons ?_ ?_
              · refine anyV_op rfl ?_
                first | refine VX.meek rfl ?_ | refine VX.loadI rfl rfl au_l ?_ | refine VX.loadP rfl rfl rfl au_l ?_
                refine VX.nil ?_
                refine AnyV.more [3] (by kernel_rfl) (by simp) ?_
                refine allI_cons ?_ ?_
                · refine anyV_op rfl ?_
                  refine VX.callT rfl rfl (CallT.frame (planeOf_t w h px hw hh hl hb) [] rfl au_ci au_ci ?_)
                  rintro _ _ ⟨rfl, rfl⟩
                  refine frK au_co au_co ?_
                  refine VX.nil ?_
                  refine AnyV.more [5] (by kernel_rfl) (by simp) ?_
                  refine allI_cons ?_ ?_
                  · refine anyV_op rfl ?_
                    refine VX.store rfl rfl rfl rfl rfl au_sR rfl ?_
                    refine VX.nil ?_
                    refine AnyV.more [6] (by kernel_rfl) (by simp) ?_
                    refine allI_cons ?_ ?_
                    · refine anyV_op rfl ?_
                      refine VX.meek rfl ?_
                      refine VX.nil ?_
                      exact AnyV.fin (by kernel_rfl) (area_leaf 3 4 trivial rfl rfl rfl rfl rfl rfl rfl rfl rfl rfl rfl rfl rfl rfl rfl rfl rfl)
                    exact trivial
                  exact trivial
                exact trivial
              exact trivial
            refine allI_cons ?_ ?_
            · refine anyV_op rfl ?_
              first | refine VX.meek rfl ?_ | refine VX.loadI rfl rfl au_l ?_ | refine VX.loadP rfl rfl rfl au_l ?_
              refine VX.nil ?_
              refine AnyV.more [1] (by kernel_rfl) (by simp) ?_
              refine allI_cons ?_ ?_
              · refine anyV_op rfl ?_
                refine VX.callP0 rfl rfl rfl (planeOf_p sw sh spx hsw hsh hsl hsb) ?_
                refine VX.nil ?_
                refine AnyV.more [3] (by kernel_rfl) (by simp) ?_
                refine allI_cons ?_ ?_
                · refine anyV_op rfl ?_
                  refine VX.callT rfl rfl (CallT.frame (planeOf_t w h px hw hh hl hb) [] rfl au_ci au_ci ?_)
                  rintro _ _ ⟨rfl, rfl⟩
                  refine frK au_co au_co ?_
                  refine VX.nil ?_
                  refine AnyV.more [5] (by kernel_rfl) (by simp) ?_
                  refine allI_cons ?_ ?_
                  · refine anyV_op rfl ?_
                    refine VX.store rfl rfl rfl rfl rfl au_sR rfl ?_
                    refine VX.nil ?_
                    refine AnyV.more [6] (by kernel_rfl) (by simp) ?_
                    refine allI_cons ?_ ?_
                    · refine anyV_op rfl ?_
                      refine VX.meek rfl ?_
                      refine VX.nil ?_
                      exact AnyV.fin (by kernel_rfl) (area_leaf 3 4 trivial rfl rfl rfl rfl rfl rfl rfl rfl rfl rfl rfl rfl rfl rfl rfl rfl rfl)
                    exact trivial
                  exact trivial
                exact trivial
              exact trivial
            exact trivial
          refine allI_cons ?_ ?_
          · refine anyV_op rfl ?_
            first | refine VX.meek rfl ?_ | refine VX.loadI rfl rfl au_l ?_ | refine VX.loadP rfl rfl rfl au_l ?_
            refine VX.nil ?_
            refine AnyV.more [0] (by kernel_rfl) (by simp) ?_
            refine allI_cons ?_ ?_
            · refine anyV_op rfl ?_
              first | refine VX.meek rfl ?_ | refine VX.loadI rfl rfl au_l ?_ | refine VX.loadP rfl rfl rfl au_l ?_
              refine VX.nil ?_
              refine AnyV.more [1] (by kernel_rfl) (by simp) ?_
              refine allI_cons ?_ ?_
              · refine anyV_op rfl ?_
                refine VX.callP0 rfl rfl rfl (planeOf_p sw sh spx hsw hsh hsl hsb) ?_
                refine VX.nil ?_
                refine AnyV.more [3] (by kernel_rfl) (by simp) ?_
                refine allI_cons ?_ ?_
                · refine anyV_op rfl ?_
                  refine VX.callT rfl rfl (CallT.frame (planeOf_t w h px hw hh hl hb) [] rfl au_ci au_ci ?_)
                  rintro _ _ ⟨rfl, rfl⟩
                  refine frK au_co au_co ?_
                  refine VX.nil ?_
                  refine AnyV.more [5] (by kernel_rfl) (by simp) ?_
                  refine allI_cons ?_ ?_
                  · refine anyV_op rfl ?_
                    refine VX.store rfl rfl rfl rfl rfl au_sR rfl ?_
                    refine VX.nil ?_
                    refine AnyV.more [6] (by kernel_rfl) (by simp) ?_
                    refine allI_cons ?_ ?_
                    · refine anyV_op rfl ?_
                      refine VX.meek rfl ?_
                      refine VX.nil ?_
                      exact AnyV.fin (by kernel_rfl) (area_leaf 3 4 trivial rfl rfl rfl rfl rfl rfl rfl rfl rfl rfl rfl rfl rfl rfl rfl rfl rfl)
                    exact trivial
                  exact trivial
                exact trivial
              exact trivial
            exact trivial
          exact trivial
        exact trivial
      refine VC.reg tab_ok [] rfl ?_
      first | refine VX.meek rfl ?_ | refine VX.loadI rfl rfl au_l ?_ | refine VX.loadP rfl rfl rfl au_l ?_
      first | refine VX.meek rfl ?_ | refine VX.loadI rfl rfl au_l ?_ | refine VX.loadP rfl rfl rfl au_l ?_
      refine VX.callP0 rfl rfl rfl (w1) ?_
      refine VX.meek rfl ?_
      refine VX.callT rfl rfl (CallT.frame (prect_t w h px (encL cU px)) [3] rfl au_ci au_ci ?_)
      rintro _ _ ⟨rfl, rfl⟩
      refine frK au_co au_co ?_
      refine VX.callP0 rfl rfl rfl (w2) ?_
      refine VX.new rfl rfl ?_
      refine VX.store rfl rfl rfl rfl rfl au_sR rfl ?_
      refine VX.nil ?_
      refine VC.drw tab_ok [] [_, _, _, _, _, _, _, _, _, _, _, _, _, _, _, _] rfl (by kernel_rfl) (by kernel_rfl) ?_
      first | refine VX.meek rfl ?_ | refine VX.loadI rfl rfl au_l ?_ | refine VX.loadP rfl rfl rfl au_l ?_
      first | refine VX.meek rfl ?_ | refine VX.loadI rfl rfl au_l ?_ | refine VX.loadP rfl rfl rfl au_l ?_
      refine VX.callP0 rfl rfl rfl (w3) ?_
      first | refine VX.meek rfl ?_ | refine VX.loadI rfl rfl au_l ?_ | refine VX.loadP rfl rfl rfl au_l ?_
      refine VX.callP0 rfl rfl rfl (prectP_p sw sh spx) ?_
      refine VX.callP0 rfl rfl rfl (w4) ?_
      first | refine VX.meek rfl ?_ | refine VX.loadI rfl rfl au_l ?_ | refine VX.loadP rfl rfl rfl au_l ?_
      refine VX.meek rfl ?_
      first | refine VX.meek rfl ?_ | refine VX.loadI rfl rfl au_l ?_ | refine VX.loadP rfl rfl rfl au_l ?_
      first | refine VX.sub rfl rfl (by omega) ?_ | refine VX.meek rfl ?_
      first | refine VX.meek rfl ?_ | refine VX.loadI rfl rfl au_l ?_ | refine VX.loadP rfl rfl rfl au_l ?_
      refine VX.meek rfl ?_
      first | refine VX.meek rfl ?_ | refine VX.loadI rfl rfl au_l ?_ | refine VX.loadP rfl rfl rfl au_l ?_
      first | refine VX.sub rfl rfl (by omega) ?_ | refine VX.meek rfl ?_
      refine VX.callP0 rfl rfl rfl (w5) ?_
      refine VX.new rfl rfl ?_
      refine VX.nil ?_
      refine VX.store rfl rfl rfl rfl rfl au_sR rfl ?_
      refine VX.nil ?_
      refine VC.drw tab_ok [] [_, _, _, _, _, _] rfl (by kernel_rfl) (by kernel_rfl) ?_
      refine VX.meek rfl ?_
      first | refine VX.meek rfl ?_ | refine VX.loadI rfl rfl au_l ?_ | refine VX.loadP rfl rfl rfl au_l ?_
      first | refine VX.meek rfl ?_ | refine VX.loadI rfl rfl au_l ?_ | refine VX.loadP rfl rfl rfl au_l ?_
      refine VX.callP0 rfl rfl rfl (w6) ?_
      first | refine VX.meek rfl ?_ | refine VX.loadI rfl rfl au_l ?_ | refine VX.loadP rfl rfl rfl au_l ?_
      refine VX.meek rfl ?_
      refine VX.nil ?_
      refine VX.callT rfl rfl (CallT.frame (hmv) [3] rfl au_ci au_ci ?_)
      rintro _ _ ⟨rfl, rfl⟩
      refine frK au_co au_co ?_
      refine VX.nil ?_
      refine VC.view ([(20, .iptr (plC w h px (.islc (encL cU (paintL w (inL V) (moveF w px p (srcA sw spx s x y)) px)) px.length none)) 0), (16, .ptr 0 0), (17, .ptr 1 0), (21, .iptr [.islc (encL cR WA) WA.length none] 0), (22, .iptr [.islc (encL cR TH) TH.length none] 0)]) ([.c [I64 0, I64 0, NIL], .c [NIL]]) [] rfl (by refine ⟨[some 0, some 1], rfl, by first | trivial | decide, rfl, ?_, ?_⟩ <;> (repeat' first | exact trivial | exact CvB_n | exact CvB_d | refine CvE_app ?_ ?_ | refine CvE_cons rfl ?_ ?_ | refine CvH_cons ?_ ?_ | refine CvB_c rfl ?_ | fail) <;> first | exact au_v | (first | exact CvL.pure rfl | exact Cv.iptr (cv_pl (Cv.pure (encL_pure cU _)) (Cv.fslc0 ⟨rfl, by simp⟩ (CvL.pure (encL_pure cU _)))) | exact Cv.fptr ⟨rfl, by simp [outH, setH]⟩ (CvL.cons (Cv.pure (encL_pure cR _)) CvL.nil))) ?_
      refine VC.drw tab_ok [] [_, _, _, _, _] rfl (by kernel_rfl) (by kernel_rfl) ?_
      refine VX.meek rfl ?_
      refine VX.callP0 rfl rfl rfl (pgrid_n w h px _ px.length ((paintL_len _ _ _ _)) hw hh hl hresl hb hres) ?_
      first | refine VX.meek rfl ?_ | refine VX.loadI rfl rfl au_l ?_ | refine VX.loadP rfl rfl rfl au_l ?_
      first | refine VX.meek rfl ?_ | refine VX.loadI rfl rfl au_l ?_ | refine VX.loadP rfl rfl rfl au_l ?_
      refine VX.callP0 rfl rfl rfl (w7) ?_
      refine VX.nil ?_
      refine VX.store rfl rfl rfl rfl rfl au_sR rfl ?_
      refine VX.store rfl rfl rfl rfl rfl au_sR rfl ?_
      refine VX.nil ?_
      refine VC.ret ?_
      exact ⟨trivial, _, rfl, Cv.tup (CvL.cons (Cv.agg (cv_g (Cv.pure (encL_pure cU _)))) (CvL.cons (Cv.agg (CvL.cons (Cv.pure (encL_pure cR _)) CvL.nil)) CvL.nil))⟩
theorem blitWithin_w (w h : Nat) (px q : List Int) (fr clip mi : List Rect) (s : Rect) (x y : Int) (p : PenS) (hA : CallP Tryz.prog 35 [gT w h px, gT w h px, regT fr, regT clip, rectT s, I64 x, I64 y, penT p] (.tup [gT w h q, regT mi])) :
    CallP Tryz.prog 42 [gT w h px, regT fr, regT clip, rectT s, I64 x, I64 y, penT p] (.tup [gT w h q, regT mi]) := by
  refine CallP.intro2 au_pu au_pu ?_
  refine CallT.intro tab_ok Tryz.func42 rfl (by kernel_rfl) (Nat.le_of_ble_eq_true rfl) ?_
  refine VC.reg tab_ok [7, 8, 9, 10, 13] rfl ?_
  refine VX.newI rfl rfl ?_
  refine VX.newI rfl rfl ?_
  refine VX.newI rfl rfl ?_
  refine VX.newI rfl rfl ?_
  refine VX.newI rfl rfl ?_
  refine VX.new rfl rfl ?_
  refine VX.new rfl rfl ?_
  refine VX.nil ?_
  refine VC.reg tab_ok [] rfl ?_
  first | refine VX.meek rfl ?_ | refine VX.loadI rfl rfl au_l ?_ | refine VX.loadP rfl rfl rfl au_l ?_
  first | refine VX.meek rfl ?_ | refine VX.loadI rfl rfl au_l ?_ | refine VX.loadP rfl rfl rfl au_l ?_
  first | refine VX.meek rfl ?_ | refine VX.loadI rfl rfl au_l ?_ | refine VX.loadP rfl rfl rfl au_l ?_
  first | refine VX.meek rfl ?_ | refine VX.loadI rfl rfl au_l ?_ | refine VX.loadP rfl rfl rfl au_l ?_
  first | refine VX.meek rfl ?_ | refine VX.loadI rfl rfl au_l ?_ | refine VX.loadP rfl rfl rfl au_l ?_
  iterate 2 refine VX.meek rfl ?_
  first | refine VX.meek rfl ?_ | refine VX.loadI rfl rfl au_l ?_ | refine VX.loadP rfl rfl rfl au_l ?_
  refine VX.callP0 rfl rfl rfl (hA) ?_
  iterate 2 refine VX.meek rfl ?_
  refine VX.store rfl rfl rfl rfl rfl au_sR rfl ?_
  refine VX.store rfl rfl rfl rfl rfl au_sR rfl ?_
  refine VX.nil ?_
  refine VC.ret ?_
  exact ⟨trivial, _, rfl, Cv.tup (CvL.cons (Cv.agg (cv_g (Cv.pure (encL_pure cU _)))) (CvL.cons (Cv.agg (CvL.cons (Cv.pure (encL_pure cR _)) CvL.nil)) CvL.nil))⟩
end
section
open Go.RowKit Go.Sort
set_option maxRecDepth 10000
set_option maxHeartbeats 1000000
def srcS (w : Nat) (px : List Int) (dx dy : Int) : Int → Int → Int := fun a b => px[((b - dy) * w + (a - dx)).toNat]!
theorem scroll1_t (w h : Nat) (px q : List Int) (dx dy a b : Int) (hw : w ≤ 128) (hh : h ≤ 128) (hl : px.length = w * h) (h1 : 0 ≤ a - dx) (h2 : a - dx < w) (h3 : 0 ≤ b - dy) (h4 : b - dy < h) (ha : inQ a b) :
    CallT Tryz.prog 104 [I64 a, I64 b, .iptr [plT 0 w h px] 0, .iptr [I64 dx] 0, .iptr [I64 dy] 0] [.c (encL cU q)] (fun t H' => t = U8 (srcS w px dx dy a b) ∧ H' = [.c (encL cU q)]) := by
  unfold inQ at ha
  refine CallT.intro tab_ok Tryz.func104 rfl (by kernel_rfl) (Nat.le_of_ble_eq_true rfl) ?_
  refine VC.reg tab_ok [] rfl ?_
  refine VX.meek rfl ?_
  refine VX.nil ?_
  refine VC.reg tab_ok [] rfl ?_
  first | refine VX.meek rfl ?_ | refine VX.loadI rfl rfl au_l ?_ | refine VX.loadP rfl rfl rfl au_l ?_
  refine VX.meek rfl ?_
  first | refine VX.meek rfl ?_ | refine VX.loadI rfl rfl au_l ?_ | refine VX.loadP rfl rfl rfl au_l ?_
  first | refine VX.sub rfl rfl (by omega) ?_ | refine VX.meek rfl ?_
  refine VX.meek rfl ?_
  first | refine VX.meek rfl ?_ | refine VX.loadI rfl rfl au_l ?_ | refine VX.loadP rfl rfl rfl au_l ?_
  first | refine VX.sub rfl rfl (by omega) ?_ | refine VX.meek rfl ?_
  refine VX.callT rfl rfl (CallT.frame (was_t w h px (nwT 0 px.length) [.c (encL cU q)] (a - dx) (b - dy) hw hh hl h1 h2 h3 h4) [0] rfl au_ci au_ci ?_)
  rintro _ _ ⟨rfl, rfl⟩
  refine frK au_co au_co ?_
  refine VX.meek rfl ?_
  refine VX.nil ?_
  refine VC.ret ?_
  exact ⟨trivial, _, rfl, rfl, rfl⟩
noncomputable def scrA (clip : List Rect) (w h : Nat) : List Rect := opL and clip (bandOf [⟨0, 0, w, h⟩])
noncomputable def scrT (clip : List Rect) (w h : Nat) (dx dy : Int) : List Rect := shiftR (scrA clip w h) dx dy
noncomputable def scrV (clip : List Rect) (w h : Nat) (dx dy : Int) : List Rect := opL and (scrA clip w h) (scrT clip w h dx dy)
def scrFar (w h : Nat) (dx dy : Int) : Prop := dx ≤ -w ∨ dx ≥ w ∨ dy ≤ -h ∨ dy ≥ h
open Classical in
noncomputable def scrPx (clip : List Rect) (w h : Nat) (dx dy : Int) (p : PenS) (px : List Int) : List Int := if scrFar w h dx dy then px else paintL w (inL (scrV clip w h dx dy)) (moveF w px p (srcS w px dx dy)) px
open Classical in
noncomputable def scrM (clip : List Rect) (w h : Nat) (dx dy : Int) : List Rect := if scrFar w h dx dy then scrA clip w h else opL subB (scrA clip w h) (scrT clip w h dx dy)
theorem scrA_in {m : Nat} {clip : List Rect} (hc : Reg m clip) {w h : Nat} (hw : w ≤ 128) (hh : h ≤ 128) (x y : Int) : inL (scrA clip w h) x y ↔ inL clip x y ∧ 0 ≤ x ∧ x < w ∧ 0 ≤ y ∧ y < h := by
  unfold scrA; rw [opL_and hc (Reg.of _), in_plane0 hw hh]
theorem scroll_leaf {lb : Nat} {E : Env} {H : Hp} {w h : Nat} {px : List Int} {WA : List Rect} {dx dy : Int} {p : PenS} (a : Nat) (hlb : lbOk lb 0 [some 0, some 1, some 2])
    (h5 : E.get 5 = some (.iptr [I64 w, I64 h, .islc (encL cU px) px.length none] 0)) (h7 : E.get 7 = some (.iptr [I64 dx] 0)) (h8 : E.get 8 = some (.iptr [I64 dy] 0)) (h9 : E.get 9 = some (.iptr (penC p) 0))
    (h10 : E.get 10 = some (.ptr 0 0)) (h11 : E.get 11 = some (.ptr 1 0)) (h12 : E.get 12 = some (.iptr [plT 2 w h px] 0)) (h13 : E.get 13 = some (.ptr a 0))
    (k0 : lookH H 0 = some [I64 0, I64 0, NIL]) (k1 : lookH H 1 = some [NIL]) (k2 : lookH H 2 = some (encL cU px)) (ka : lookH H a = some [.islc (encL cR WA) WA.length none])
    (n0 : (decide (a ≠ 0) && decide (a ≠ 1) && decide (a ≠ 2)) = true) :
    Conv lb E H ([(5, .iptr [I64 w, I64 h, .islc (encL cU px) px.length none] 0), (7, .iptr [I64 dx] 0), (8, .iptr [I64 dy] 0), (9, .iptr (penC p) 0), (10, .ptr 0 0), (11, .ptr 1 0), (12, .iptr [plT 2 w h px] 0), (13, .iptr [.islc (encL cR WA) WA.length none] 0)] ++ []) [.c [I64 0, I64 0, NIL], .c [NIL], .c (encL cU px)] := by
  simp only [Bool.and_eq_true, decide_eq_true_eq] at n0
  obtain ⟨⟨m1, m2⟩, m3⟩ := n0
  have hgp : T.pureL [I64 w, I64 h, .islc (encL cU px) px.length none] = true := by simp only [T.pureL, T.pure, encL_pure, Bool.and_self]
  refine ⟨[some 0, some 1, some 2], by simp [injB, noneIn, show Nat.beq 0 1 = false from rfl, show Nat.beq 0 2 = false from rfl, show Nat.beq 1 2 = false from rfl], hlb, rfl, ?_, ?_⟩
  · refine CvE_cons h5 (Cv.pure hgp) (CvE_cons h7 (Cv.pure rfl) (CvE_cons h8 (Cv.pure rfl) (CvE_cons h9 (Cv.pure (penC_pure0 p)) (CvE_cons h10 (Cv.ptr rfl) (CvE_cons h11 (Cv.ptr rfl) (CvE_cons h12 ?_ (CvE_cons h13 ?_ trivial)))))))
    · exact Cv.iptr (CvL.cons (Cv.iptr (cv_pl (Cv.pure (encL_pure cU _)) (Cv.slc rfl (.inl rfl)))) CvL.nil)
    · exact Cv.fptr ⟨ka, by simp; omega⟩ (CvL.cons (Cv.pure (encL_pure cR _)) CvL.nil)
  · exact CvH_cons (CvB_c k0 (CvL.pure rfl)) (CvH_cons (CvB_c k1 (CvL.pure rfl)) (CvH_cons (CvB_c k2 (CvL.pure (encL_pure cU _))) trivial))
theorem blitScroll_p {m : Nat} (w h : Nat) (px : List Int) (clip : List Rect) (dx dy : Int) (p : PenS) (hw : 1 ≤ w ∧ w ≤ 128) (hh : 1 ≤ h ∧ h ≤ 128) (hl : px.length = w * h) (hb : ∀ v ∈ px, 0 ≤ v ∧ v < 256) (hc : Reg m clip) (hm : m ≤ 200) (hok : PenOk p) (hpl : 0 ≤ p.pl ∧ p.pl < 256) :
    CallP Tryz.prog 43 [gT w h px, regT clip, I64 dx, I64 dy, penT p] (.tup [gT w h (scrPx clip w h dx dy p px), regT (scrM clip w h dx dy)]) := by
  have w1 : CallP Tryz.prog 68 [regT clip, rectT ⟨0, 0, w, h⟩] (regT (scrA clip w h)) := within_p hc ⟨0, 0, w, h⟩ ⟨by unfold i64; dsimp only; omega, by unfold i64; dsimp only; omega⟩ (by omega)
  have hA := opL_reg (k := and) rfl hc (Reg.of [⟨0, 0, (w : Int), (h : Int)⟩])
  have hT := hA.shift dx dy
  have hv := opL_reg (k := and) rfl hA hT
  have hvin : ∀ a b, inL (scrV clip w h dx dy) a b → inL (scrA clip w h) a b ∧ inL (scrT clip w h dx dy) a b := fun a b hi => (opL_and hA hT).1 hi
  have hlen : (scrV clip w h dx dy).length ≤ 1048576 := Nat.le_trans hv.len (Nat.le_trans (Nat.mul_le_mul (show _ ≤ 500 by simp; omega) (show _ ≤ 500 by simp; omega)) (by decide))
  have w2 : CallP Tryz.prog 98 [regT (scrA clip w h), I64 dx, I64 dy] (regT (scrT clip w h dx dy)) := shiftR_p hA (by simp; omega) dx dy
  have w6 : CallP Tryz.prog 58 [regT (scrA clip w h), regT (scrT clip w h dx dy)] (regT (scrV clip w h dx dy)) := meet_p hA hT (by simp; omega)
  have w7 : CallP Tryz.prog 56 [regT (scrA clip w h), regT (scrT clip w h dx dy)] (regT (opL subB (scrA clip w h) (scrT clip w h dx dy))) := minus_p hA hT (by simp; omega)
  have hin : ∀ a b, inL (scrV clip w h dx dy) a b → 0 ≤ a ∧ a < w ∧ 0 ≤ b ∧ b < h := fun a b hi => ((scrA_in hc hw.2 hh.2 a b).1 (hvin a b hi).1).2
  have hth : ∀ a b, inL (scrV clip w h dx dy) a b → (0 ≤ a - dx ∧ a - dx < w ∧ 0 ≤ b - dy ∧ b - dy < h) ∧ inQ a b := fun a b hi => by
    have h1 := (shift_in hA.ok dx dy a b).1 (hvin a b hi).2
    have h2 := ((scrA_in hc hw.2 hh.2 (a - dx) (b - dy)).1 h1.1).2
    exact ⟨h2, h1.2⟩
  have hmv := move_t w h px px (scrV clip w h dx dy) p 104 [.iptr [plT 0 w h px] 0, .iptr [I64 dx] 0, .iptr [I64 dy] 0] (srcS w px dx dy) (fun v hv => cv_caps hv rfl) hw.2 hh.2 hl hl hv.canon hv.ok hlen hin hb hb hpl (fun a b _ => bang_bd hb _)
    (fun q a b hq hi => scroll1_t w h px q dx dy a b hw.2 hh.2 hl (hth a b hi).1.1 (hth a b hi).1.2.1 (hth a b hi).1.2.2.1 (hth a b hi).1.2.2.2 (hth a b hi).2)
  have hres : ∀ v ∈ paintL w (inL (scrV clip w h dx dy)) (moveF w px p (srcS w px dx dy)) px, 0 ≤ v ∧ v < 256 := paintL_bd hb (moveF_bd _ _ _ _)
  have hresl := (paintL_len w (inL (scrV clip w h dx dy)) (moveF w px p (srcS w px dx dy)) px).trans hl
  have e1 : scrFar w h dx dy → scrPx clip w h dx dy p px = px ∧ scrM clip w h dx dy = scrA clip w h := fun hf => ⟨if_pos hf, if_pos hf⟩
  have e2 : ¬ scrFar w h dx dy → scrPx clip w h dx dy p px = paintL w (inL (scrV clip w h dx dy)) (moveF w px p (srcS w px dx dy)) px ∧ scrM clip w h dx dy = opL subB (scrA clip w h) (scrT clip w h dx dy) := fun hf => ⟨if_neg hf, if_neg hf⟩
  have hlA := hA.len
  clear hvin hth hv hT hA hin hlen
  generalize scrPx clip w h dx dy p px = RP at *
  generalize scrM clip w h dx dy = RM at *
  generalize scrV clip w h dx dy = V at *
  generalize scrT clip w h dx dy = TH at *
  generalize scrA clip w h = WA at *
  have hpr : T.pure (.tup [gT w h RP, regT RM]) = true := by simp only [T.pureL, T.pure, encL_pure]; rfl
  refine CallP.intro2 au_pu au_pu ?_
  refine CallT.intro tab_ok Tryz.func43 rfl (by kernel_rfl) (Nat.le_of_ble_eq_true rfl) ?_
  refine VC.reg tab_ok [5, 6, 7, 8, 9] rfl ?_
  refine VX.newI rfl rfl ?_
  refine VX.newI rfl rfl ?_
  refine VX.newI rfl rfl ?_
  refine VX.newI rfl rfl ?_
  refine VX.newI rfl rfl ?_
  refine VX.new rfl rfl ?_
  refine VX.new rfl rfl ?_
  refine VX.nil ?_
  refine VC.seq ?_
  refine VC.reg tab_ok [] rfl ?_
  first | refine VX.meek rfl ?_ | refine VX.loadI rfl rfl au_l ?_ | refine VX.loadP rfl rfl rfl au_l ?_
  refine VX.callP0 rfl rfl rfl (check_p p hok) ?_
  refine VX.meek rfl ?_
  refine VX.nil ?_
  refine VC.cond rfl (fun hc0 => ?_) (fun hc0 => ?_)
  · exact absurd hc0 (by simp)
  · (try simp only [au_std] at hc0)
    refine VC.skip ?_
    refine VC.reg tab_ok [] rfl ?_
    first | refine VX.meek rfl ?_ | refine VX.loadI rfl rfl au_l ?_ | refine VX.loadP rfl rfl rfl au_l ?_
    refine VX.callT rfl rfl (CallT.frame (planeOf_t w h px hw.2 hh.2 hl hb) [] rfl au_ci au_ci ?_)
    rintro _ _ ⟨rfl, rfl⟩
    refine frK au_co au_co ?_
    refine VX.new rfl rfl ?_
    refine VX.store rfl rfl rfl rfl rfl au_sR rfl ?_
    refine VX.nil ?_
    refine VC.view ([(10, .ptr 0 0), (11, .ptr 1 0), (12, .iptr [plT 2 w h px] 0)]) ([.c [I64 0, I64 0, NIL], .c [NIL], .c (encL cU px)]) [5, 6, 7, 8, 9] rfl (by refine ⟨[some 0, some 1, some 2], rfl, by first | trivial | decide, rfl, ?_, ?_⟩ <;> (repeat' first | exact trivial | exact CvB_n | exact CvB_d | refine CvE_app ?_ ?_ | refine CvE_cons rfl ?_ ?_ | refine CvH_cons ?_ ?_ | refine CvB_c rfl ?_ | fail) <;> first | exact au_v | (first | exact CvL.pure rfl | exact Cv.fptr ⟨rfl, by simp [outH, setH]⟩ (CvL.cons (Cv.iptr (cv_pl (Cv.pure (encL_pure cU _)) (Cv.slc rfl (.inl rfl)))) CvL.nil))) ?_
    refine VC.drwAll tab_ok [] (by kernel_rfl) rfl ([(5, .iptr [I64 w, I64 h, .islc (encL cU px) px.length none] 0), (7, .iptr [I64 dx] 0), (8, .iptr [I64 dy] 0), (9, .iptr (penC p) 0), (10, .ptr 0 0), (11, .ptr 1 0), (12, .iptr [plT 2 w h px] 0), (13, .iptr [.islc (encL cR WA) WA.length none] 0)]) ([.c [I64 0, I64 0, NIL], .c [NIL], .c (encL cU px)]) [] rfl ?_ ?_
    · refine AnyV.more [0, 1, 4] (by kernel_rfl) (by simp) ?_
      refine allI_cons ?_ ?_
      · refine anyV_op rfl ?_
        first | refine VX.meek rfl ?_ | refine VX.loadI rfl rfl au_l ?_ | refine VX.loadP rfl rfl rfl au_l ?_
        refine VX.nil ?_
        refine AnyV.more [1, 4] (by kernel_rfl) (by simp) ?_
        refine allI_cons ?_ ?_
        · refine anyV_op rfl ?_
          first | refine VX.meek rfl ?_ | refine VX.loadI rfl rfl au_l ?_ | refine VX.loadP rfl rfl rfl au_l ?_
          refine VX.nil ?_
          refine AnyV.more [2, 4] (by kernel_rfl) (by simp) ?_
          refine allI_cons ?_ ?_
          · refine anyV_op rfl ?_
            refine VX.callT rfl rfl (CallT.frame (prect_t w h px (encL cU px)) [2] rfl au_ci au_ci ?_)
            rintro _ _ ⟨rfl, rfl⟩
            refine frK au_co au_co ?_
            refine VX.nil ?_
            refine AnyV.more [3, 4] (by kernel_rfl) (by simp) ?_
            refine allI_cons ?_ ?_
            · refine anyV_op rfl ?_
              refine VX.callP0 rfl rfl rfl (w1) ?_
              refine VX.nil ?_
              refine AnyV.more [4] (by kernel_rfl) (by simp) ?_
              refine allI_cons ?_ ?_
              · refine anyV_op rfl ?_
                refine VX.new rfl rfl ?_
                refine VX.nil ?_
                refine AnyV.more [5] (by kernel_rfl) (by simp) ?_
                refine allI_cons ?_ ?_
                · refine anyV_op rfl ?_
                  refine VX.store rfl rfl rfl rfl rfl au_sR rfl ?_
                  refine VX.nil ?_
                  exact AnyV.fin (by kernel_rfl) (scroll_leaf 4 trivial rfl rfl rfl rfl rfl rfl rfl rfl rfl rfl rfl rfl rfl)
                exact trivial
              exact trivial
            refine allI_cons ?_ ?_
            · refine anyV_op rfl ?_
              refine VX.new rfl rfl ?_
              refine VX.nil ?_
              refine AnyV.more [3] (by kernel_rfl) (by simp) ?_
              refine allI_cons ?_ ?_
              · refine anyV_op rfl ?_
                refine VX.callP0 rfl rfl rfl (w1) ?_
                refine VX.nil ?_
                refine AnyV.more [5] (by kernel_rfl) (by simp) ?_
                refine allI_cons ?_ ?_
                · refine anyV_op rfl ?_
                  refine VX.store rfl rfl rfl rfl rfl au_sR rfl ?_
                  refine VX.nil ?_
                  exact AnyV.fin (by kernel_rfl) (scroll_leaf 4 trivial rfl rfl rfl rfl rfl rfl rfl rfl rfl rfl rfl rfl rfl)
                exact trivial
              exact trivial
            exact trivial
          refine allI_cons ?_ ?_
          · refine anyV_op rfl ?_
            refine VX.new rfl rfl ?_
            refine VX.nil ?_
            refine AnyV.more [2] (by kernel_rfl) (by simp) ?_
            refine allI_cons ?_ ?_
            · refine anyV_op rfl ?_
              refine VX.callT rfl rfl (CallT.frame (prect_t w h px (encL cU px)) [2] rfl au_ci au_ci ?_)
              rintro _ _ ⟨rfl, rfl⟩
              refine frK au_co au_co ?_
              refine VX.nil ?_
              refine AnyV.more [3] (by kernel_rfl) (by simp) ?_
              refine allI_cons ?_ ?_
              · refine anyV_op rfl ?_
                refine VX.callP0 rfl rfl rfl (w1) ?_
                refine VX.nil ?_
                refine AnyV.more [5] (by kernel_rfl) (by simp) ?_
                refine allI_cons ?_ ?_
                · refine anyV_op rfl ?_
                  refine VX.store rfl rfl rfl rfl rfl au_sR rfl ?_
                  refine VX.nil ?_
                  exact AnyV.fin (by kernel_rfl) (scroll_leaf 3 trivial rfl rfl rfl rfl rfl rfl rfl rfl rfl rfl rfl rfl rfl)
                exact trivial
              exact trivial
            exact trivial
          exact trivial
        refine allI_cons ?_ ?_
        · refine anyV_op rfl ?_
          refine VX.new rfl rfl ?_
          refine VX.nil ?_
          refine AnyV.more [1] (by kernel_rfl) (by simp) ?_
          refine allI_cons ?_ ?_
          · refine anyV_op rfl ?_
            first | refine VX.meek rfl ?_ | refine VX.loadI rfl rfl au_l ?_ | refine VX.loadP rfl rfl rfl au_l ?_
            refine VX.nil ?_
            refine AnyV.more [2] (by kernel_rfl) (by simp) ?_
            refine allI_cons ?_ ?_
            · refine anyV_op rfl ?_
              refine VX.callT rfl rfl (CallT.frame (prect_t w h px (encL cU px)) [2] rfl au_ci au_ci ?_)
              rintro _ _ ⟨rfl, rfl⟩
              refine frK au_co au_co ?_
              refine VX.nil ?_
              refine AnyV.more [3] (by kernel_rfl) (by simp) ?_
              refine allI_cons ?_ ?_
              · refine anyV_op rfl ?_
                refine VX.callP0 rfl rfl rfl (w1) ?_
                refine VX.nil ?_
                refine AnyV.more [5] (by kernel_rfl) (by simp) ?_
                refine allI_cons ?_ ?_
                · refine anyV_op rfl ?_
                  refine VX.store rfl rfl rfl rfl rfl au_sR rfl ?_
                  refine VX.nil ?_
                  exact AnyV.fin (by kernel_rfl) (scroll_leaf 3 trivial rfl rfl rfl rfl rfl rfl rfl rfl rfl rfl rfl rfl rfl)
                exact trivial
              exact trivial
            exact trivial
          exact trivial
        exact trivial
      refine allI_cons ?_ ?_
      · refine anyV_op rfl ?_
        first | refine VX.meek rfl ?_ | refine VX.loadI rfl rfl au_l ?_ | refine VX.loadP rfl rfl rfl au_l ?_
        refine VX.nil ?_
        refine AnyV.more [0, 2, 4] (by kernel_rfl) (by simp) ?_
        refine allI_cons ?_ ?_
        · refine anyV_op rfl ?_
          first | refine VX.meek rfl ?_ | refine VX.loadI rfl rfl au_l ?_ | refine VX.loadP rfl rfl rfl au_l ?_
          refine VX.nil ?_
          refine AnyV.more [2, 4] (by kernel_rfl) (by simp) ?_
          refine allI_cons ?_ ?_
          · refine anyV_op rfl ?_
            refine VX.callT rfl rfl (CallT.frame (prect_t w h px (encL cU px)) [2] rfl au_ci au_ci ?_)
            rintro _ _ ⟨rfl, rfl⟩
            refine frK au_co au_co ?_
            refine VX.nil ?_
            refine AnyV.more [3, 4] (by kernel_rfl) (by simp) ?_
            refine allI_cons ?_ ?_
            · refine anyV_op rfl ?_
              refine VX.callP0 rfl rfl rfl (w1) ?_
              refine VX.nil ?_
              refine AnyV.more [4] (by kernel_rfl) (by simp) ?_
              refine allI_cons ?_ ?_
              · refine anyV_op rfl ?_
                refine VX.new rfl rfl ?_
                refine VX.nil ?_
                refine AnyV.more [5] (by kernel_rfl) (by simp) ?_
                refine allI_cons ?_ ?_
                · refine anyV_op rfl ?_
                  refine VX.store rfl rfl rfl rfl rfl au_sR rfl ?_
                  refine VX.nil ?_
                  exact AnyV.fin (by kernel_rfl) (scroll_leaf 4 trivial rfl rfl rfl rfl rfl rfl rfl rfl rfl rfl rfl rfl rfl)
                exact trivial
              exact trivial
            refine allI_cons ?_ ?_
            · refine anyV_op rfl ?_
              refine VX.new rfl rfl ?_
              refine VX.nil ?_
              refine AnyV.more [3] (by kernel_rfl) (by simp) ?_
              refine allI_cons ?_ ?_
              · refine anyV_op rfl ?_
                refine VX.callP0 rfl rfl rfl (w1) ?_
                refine VX.nil ?_
                refine AnyV.more [5] (by kernel_rfl) (by simp) ?_
                refine allI_cons ?_ ?_
                · refine anyV_op rfl ?_
                  refine VX.store rfl rfl rfl rfl rfl au_sR rfl ?_
                  refine VX.nil ?_
                  exact AnyV.fin (by kernel_rfl) (scroll_leaf 4 trivial rfl rfl rfl rfl rfl rfl rfl rfl rfl rfl rfl rfl rfl)
                exact trivial
              exact trivial
            exact trivial
          refine allI_cons ?_ ?_
          · refine anyV_op rfl ?_
            refine VX.new rfl rfl ?_
            refine VX.nil ?_
            refine AnyV.more [2] (by kernel_rfl) (by simp) ?_
            refine allI_cons ?_ ?_
            · refine anyV_op rfl ?_
              refine VX.callT rfl rfl (CallT.frame (prect_t w h px (encL cU px)) [2] rfl au_ci au_ci ?_)
              rintro _ _ ⟨rfl, rfl⟩
              refine frK au_co au_co ?_
              refine VX.nil ?_
              refine AnyV.more [3] (by kernel_rfl) (by simp) ?_
              refine allI_cons ?_ ?_
              · refine anyV_op rfl ?_
                refine VX.callP0 rfl rfl rfl (w1) ?_
                refine VX.nil ?_
                refine AnyV.more [5] (by kernel_rfl) (by simp) ?_
                refine allI_cons ?_ ?_
                · refine anyV_op rfl ?_
                  refine VX.store rfl rfl rfl rfl rfl au_sR rfl ?_
                  refine VX.nil ?_
                  exact AnyV.fin (by kernel_rfl) (scroll_leaf 3 trivial rfl rfl rfl rfl rfl rfl rfl rfl rfl rfl rfl rfl rfl)
                exact trivial
              exact trivial
            exact trivial
          exact trivial
        refine allI_cons ?_ ?_
        · refine anyV_op rfl ?_
          refine VX.callT rfl rfl (CallT.frame (prect_t w h px (encL cU px)) [2] rfl au_ci au_ci ?_)
          rintro _ _ ⟨rfl, rfl⟩
          refine frK au_co au_co ?_
          refine VX.nil ?_
          refine AnyV.more [0, 4] (by kernel_rfl) (by simp) ?_
          refine allI_cons ?_ ?_
          · refine anyV_op rfl ?_
            first | refine VX.meek rfl ?_ | refine VX.loadI rfl rfl au_l ?_ | refine VX.loadP rfl rfl rfl au_l ?_
            refine VX.nil ?_
            refine AnyV.more [3, 4] (by kernel_rfl) (by simp) ?_
            refine allI_cons ?_ ?_
            · refine anyV_op rfl ?_
              refine VX.callP0 rfl rfl rfl (w1) ?_
              refine VX.nil ?_
              refine AnyV.more [4] (by kernel_rfl) (by simp) ?_
              refine allI_cons ?_ ?_
              · refine anyV_op rfl ?_
                refine VX.new rfl rfl ?_
                refine VX.nil ?_
                refine AnyV.more [5] (by kernel_rfl) (by simp) ?_
                refine allI_cons ?_ ?_
                · refine anyV_op rfl ?_
                  refine VX.store rfl rfl rfl rfl rfl au_sR rfl ?_
                  refine VX.nil ?_
                  exact AnyV.fin (by kernel_rfl) (scroll_leaf 4 trivial rfl rfl rfl rfl rfl rfl rfl rfl rfl rfl rfl rfl rfl)
                exact trivial
              exact trivial
            refine allI_cons ?_ ?_
            · refine anyV_op rfl ?_
              refine VX.new rfl rfl ?_
              refine VX.nil ?_
              refine AnyV.more [3] (by kernel_rfl) (by simp) ?_
              refine allI_cons ?_ ?_
              · refine anyV_op rfl ?_
                refine VX.callP0 rfl rfl rfl (w1) ?_
                refine VX.nil ?_
                refine AnyV.more [5] (by kernel_rfl) (by simp) ?_
                refine allI_cons ?_ ?_
                · refine anyV_op rfl ?_
                  refine VX.store rfl rfl rfl rfl rfl au_sR rfl ?_
                  refine VX.nil ?_
                  exact AnyV.fin (by kernel_rfl) (scroll_leaf 4 trivial rfl rfl rfl rfl rfl rfl rfl rfl rfl rfl rfl rfl rfl)
                exact trivial
              exact trivial
            exact trivial
          refine allI_cons ?_ ?_
          · refine anyV_op rfl ?_
            refine VX.new rfl rfl ?_
            refine VX.nil ?_
            refine AnyV.more [0] (by kernel_rfl) (by simp) ?_
            refine allI_cons ?_ ?_
            · refine anyV_op rfl ?_
              first | refine VX.meek rfl ?_ | refine VX.loadI rfl rfl au_l ?_ | refine VX.loadP rfl rfl rfl au_l ?_
              refine VX.nil ?_
              refine AnyV.more [3] (by kernel_rfl) (by simp) ?_
              refine allI_cons ?_ ?_
              · refine anyV_op rfl ?_
                refine VX.callP0 rfl rfl rfl (w1) ?_
                refine VX.nil ?_
                refine AnyV.more [5] (by kernel_rfl) (by simp) ?_
                refine allI_cons ?_ ?_
                · refine anyV_op rfl ?_
                  refine VX.store rfl rfl rfl rfl rfl au_sR rfl ?_
                  refine VX.nil ?_
                  exact AnyV.fin (by kernel_rfl) (scroll_leaf 4 trivial rfl rfl rfl rfl rfl rfl rfl rfl rfl rfl rfl rfl rfl)
                exact trivial
              exact trivial
            exact trivial
          exact trivial
        refine allI_cons ?_ ?_
        · refine anyV_op rfl ?_
          refine VX.new rfl rfl ?_
          refine VX.nil ?_
          refine AnyV.more [0, 2] (by kernel_rfl) (by simp) ?_
          refine allI_cons ?_ ?_
          · refine anyV_op rfl ?_
            first | refine VX.meek rfl ?_ | refine VX.loadI rfl rfl au_l ?_ | refine VX.loadP rfl rfl rfl au_l ?_
            refine VX.nil ?_
            refine AnyV.more [2] (by kernel_rfl) (by simp) ?_
            refine allI_cons ?_ ?_
            · refine anyV_op rfl ?_
              refine VX.callT rfl rfl (CallT.frame (prect_t w h px (encL cU px)) [2] rfl au_ci au_ci ?_)
              rintro _ _ ⟨rfl, rfl⟩
              refine frK au_co au_co ?_
              refine VX.nil ?_
              refine AnyV.more [3] (by kernel_rfl) (by simp) ?_
              refine allI_cons ?_ ?_
              · refine anyV_op rfl ?_
                refine VX.callP0 rfl rfl rfl (w1) ?_
                refine VX.nil ?_
                refine AnyV.more [5] (by kernel_rfl) (by simp) ?_
                refine allI_cons ?_ ?_
                · refine anyV_op rfl ?_
                  refine VX.store rfl rfl rfl rfl rfl au_sR rfl ?_
                  refine VX.nil ?_
                  exact AnyV.fin (by kernel_rfl) (scroll_leaf 3 trivial rfl rfl rfl rfl rfl rfl rfl rfl rfl rfl rfl rfl rfl)
                exact trivial
              exact trivial
            exact trivial
          refine allI_cons ?_ ?_
          · refine anyV_op rfl ?_
            refine VX.callT rfl rfl (CallT.frame (prect_t w h px (encL cU px)) [2] rfl au_ci au_ci ?_)
            rintro _ _ ⟨rfl, rfl⟩
            refine frK au_co au_co ?_
            refine VX.nil ?_
            refine AnyV.more [0] (by kernel_rfl) (by simp) ?_
            refine allI_cons ?_ ?_
            · refine anyV_op rfl ?_
              first | refine VX.meek rfl ?_ | refine VX.loadI rfl rfl au_l ?_ | refine VX.loadP rfl rfl rfl au_l ?_
              refine VX.nil ?_
              refine AnyV.more [3] (by kernel_rfl) (by simp) ?_
              refine allI_cons ?_ ?_
              · refine anyV_op rfl ?_
                refine VX.callP0 rfl rfl rfl (w1) ?_
                refine VX.nil ?_
                refine AnyV.more [5] (by kernel_rfl) (by simp) ?_
                refine allI_cons ?_ ?_
                · refine anyV_op rfl ?_
                  refine VX.store rfl rfl rfl rfl rfl au_sR rfl ?_
                  refine VX.nil ?_
                  exact AnyV.fin (by kernel_rfl) (scroll_leaf 3 trivial rfl rfl rfl rfl rfl rfl rfl rfl rfl rfl rfl rfl rfl)
                exact trivial
              exact trivial
            exact trivial
          exact trivial
        exact trivial
      refine allI_cons ?_ ?_
      · refine anyV_op rfl ?_
        refine VX.new rfl rfl ?_
        refine VX.nil ?_
        refine AnyV.more [0, 1] (by kernel_rfl) (by simp) ?_
        refine allI_cons ?_ ?_
        · refine anyV_op rfl ?_
          first | refine VX.meek rfl ?_ | refine VX.loadI rfl rfl au_l ?_ | refine VX.loadP rfl rfl rfl au_l ?_
          refine VX.nil ?_
          refine AnyV.more [1] (by kernel_rfl) (by simp) ?_
          refine allI_cons ?_ ?_
          · refine anyV_op rfl ?_
            first | refine VX.meek rfl ?_ | refine VX.loadI rfl rfl au_l ?_ | refine VX.loadP rfl rfl rfl au_l ?_
            refine VX.nil ?_
            refine AnyV.more [2] (by kernel_rfl) (by simp) ?_
            refine allI_cons ?_ ?_
            · refine anyV_op rfl ?_
              refine VX.callT rfl rfl (CallT.frame (prect_t w h px (encL cU px)) [2] rfl au_ci au_ci ?_)
              rintro _ _ ⟨rfl, rfl⟩
              refine frK au_co au_co ?_
              refine VX.nil ?_
              refine AnyV.more [3] (by kernel_rfl) (by simp) ?_
              refine allI_cons ?_ ?_
              · refine anyV_op rfl ?_
                refine VX.callP0 rfl rfl rfl (w1) ?_
                refine VX.nil ?_
                refine AnyV.more [5] (by kernel_rfl) (by simp) ?_
                refine allI_cons ?_ ?_
                · refine anyV_op rfl ?_
                  refine VX.store rfl rfl rfl rfl rfl au_sR rfl ?_
                  refine VX.nil ?_
                  exact AnyV.fin (by kernel_rfl) (scroll_leaf 3 trivial rfl rfl rfl rfl rfl rfl rfl rfl rfl rfl rfl rfl rfl)
                exact trivial
              exact trivial
            exact trivial
          exact trivial
        refine allI_cons ?_ ?_
        · refine anyV_op rfl ?_
          first | refine VX.meek rfl ?_ | refine VX.loadI rfl rfl au_l ?_ | refine VX.loadP rfl rfl rfl au_l ?_
          refine VX.nil ?_
          refine AnyV.more [0, 2] (by kernel_rfl) (by simp) ?_
          refine allI_cons ?_ ?_
          · refine anyV_op rfl ?_
            first | refine VX.meek rfl ?_ | refine VX.loadI rfl rfl au_l ?_ | refine VX.loadP rfl rfl rfl au_l ?_
            refine VX.nil ?_
            refine AnyV.more [2] (by kernel_rfl) (by simp) ?_
            refine allI_cons ?_ ?_
            · refine anyV_op rfl ?_
              refine VX.callT rfl rfl (CallT.frame (prect_t w h px (encL cU px)) [2] rfl au_ci au_ci ?_)
              rintro _ _ ⟨rfl, rfl⟩
              refine frK au_co au_co ?_
              refine VX.nil ?_
              refine AnyV.more [3] (by kernel_rfl) (by simp) ?_
              refine allI_cons ?_ ?_
              · refine anyV_op rfl ?_
                refine VX.callP0 rfl rfl rfl (w1) ?_
                refine VX.nil ?_
                refine AnyV.more [5] (by kernel_rfl) (by simp) ?_
                refine allI_cons ?_ ?_
                · refine anyV_op rfl ?_
                  refine VX.store rfl rfl rfl rfl rfl au_sR rfl ?_
                  refine VX.nil ?_
                  exact AnyV.fin (by kernel_rfl) (scroll_leaf 3 trivial rfl rfl rfl rfl rfl rfl rfl rfl rfl rfl rfl rfl rfl)
                exact trivial
              exact trivial
            exact trivial
          refine allI_cons ?_ ?_
          · refine anyV_op rfl ?_
            refine VX.callT rfl rfl (CallT.frame (prect_t w h px (encL cU px)) [2] rfl au_ci au_ci ?_)
            rintro _ _ ⟨rfl, rfl⟩
            refine frK au_co au_co ?_
            refine VX.nil ?_
            refine AnyV.more [0] (by kernel_rfl) (by simp) ?_
            refine allI_cons ?_ ?_
            · refine anyV_op rfl ?_
              first | refine VX.meek rfl ?_ | refine VX.loadI rfl rfl au_l ?_ | refine VX.loadP rfl rfl rfl au_l ?_
              refine VX.nil ?_
              refine AnyV.more [3] (by kernel_rfl) (by simp) ?_
              refine allI_cons ?_ ?_
              · refine anyV_op rfl ?_
                refine VX.callP0 rfl rfl rfl (w1) ?_
                refine VX.nil ?_
                refine AnyV.more [5] (by kernel_rfl) (by simp) ?_
                refine allI_cons ?_ ?_
                · refine anyV_op rfl ?_
                  refine VX.store rfl rfl rfl rfl rfl au_sR rfl ?_
                  refine VX.nil ?_
                  exact AnyV.fin (by kernel_rfl) (scroll_leaf 3 trivial rfl rfl rfl rfl rfl rfl rfl rfl rfl rfl rfl rfl rfl)
                exact trivial
              exact trivial
            exact trivial
          exact trivial
        exact trivial
      exact trivial
    refine VC.seq ?_
    refine VC.drw tab_ok [] [_, _, _, _, _, _, _, _, _, _, _, _, _, _, _, _, _, _, _, _, _, _, _, _, _, _, _, _, _, _, _, _] rfl (by kernel_rfl) (by kernel_rfl) ?_
    first | refine VX.meek rfl ?_ | refine VX.loadI rfl rfl au_l ?_ | refine VX.loadP rfl rfl rfl au_l ?_
    first | refine VX.meek rfl ?_ | refine VX.loadI rfl rfl au_l ?_ | refine VX.loadP rfl rfl rfl au_l ?_
    iterate 2 refine VX.meek rfl ?_
    first | refine VX.meek rfl ?_ | refine VX.loadI rfl rfl au_l ?_ | refine VX.loadP rfl rfl rfl au_l ?_
    iterate 3 refine VX.meek rfl ?_
    refine' VX.merge (d := 40) [_, _, _, _, _, _, _] rfl ?_ rfl ?_
    rotate_left
    · refine VX.guard rfl rfl (fun hb5_7 => ?_) (fun hb5_7 => ?_)
      · have ghb5_7 := hb5_7
        try simp only [au_std, Bool.not_true, Bool.not_false] at ghb5_7
        first | refine VX.meek rfl ?_ | refine VX.loadI rfl rfl au_l ?_ | refine VX.loadP rfl rfl rfl au_l ?_
        refine VX.guardT rfl rfl hb5_7 ?_
        first | refine VX.meek rfl ?_ | refine VX.loadI rfl rfl au_l ?_ | refine VX.loadP rfl rfl rfl au_l ?_
        refine VX.guardT rfl rfl hb5_7 ?_
        refine VX.meek rfl ?_
        refine VX.guardT rfl rfl hb5_7 ?_
        refine VX.meek rfl ?_
        refine VX.guardT rfl rfl hb5_7 ?_
        first | refine VX.meek rfl ?_ | refine VX.loadI rfl rfl au_l ?_ | refine VX.loadP rfl rfl rfl au_l ?_
        refine VX.guardT rfl rfl hb5_7 ?_
        refine VX.meek rfl ?_
        refine VX.pickO rfl (fun _ => rfl) ?_
        exact VX.nil ⟨rfl, rfl⟩
      · refine VX.guardF rfl rfl hb5_7 ?_
        refine VX.guardF rfl rfl hb5_7 ?_
        refine VX.guardF rfl rfl hb5_7 ?_
        refine VX.guardF rfl rfl hb5_7 ?_
        refine VX.guardF rfl rfl hb5_7 ?_
        exact VX.pickO rfl (fun h => absurd (h.symm.trans hb5_7) (by decide)) (VX.nil ⟨rfl, rfl⟩)
    refine VX.meek rfl ?_
    refine' VX.merge (d := 49) [_, _, _, _, _, _, _, _] rfl ?_ rfl ?_
    rotate_left
    · refine VX.guard rfl rfl (fun hb5_15 => ?_) (fun hb5_15 => ?_)
      · have ghb5_15 := hb5_15
        try simp only [au_std, Bool.not_true, Bool.not_false] at ghb5_15
        first | refine VX.meek rfl ?_ | refine VX.loadI rfl rfl au_l ?_ | refine VX.loadP rfl rfl rfl au_l ?_
        refine VX.guardT rfl rfl hb5_15 ?_
        first | refine VX.meek rfl ?_ | refine VX.loadI rfl rfl au_l ?_ | refine VX.loadP rfl rfl rfl au_l ?_
        refine VX.guardT rfl rfl hb5_15 ?_
        refine VX.meek rfl ?_
        refine VX.guardT rfl rfl hb5_15 ?_
        refine VX.meek rfl ?_
        refine VX.guardT rfl rfl hb5_15 ?_
        first | refine VX.meek rfl ?_ | refine VX.loadI rfl rfl au_l ?_ | refine VX.loadP rfl rfl rfl au_l ?_
        refine VX.guardT rfl rfl hb5_15 ?_
        refine VX.meek rfl ?_
        refine VX.guardT rfl rfl hb5_15 ?_
        refine VX.meek rfl ?_
        refine VX.pickO rfl (fun _ => rfl) ?_
        exact VX.nil ⟨rfl, rfl⟩
      · refine VX.guardF rfl rfl hb5_15 ?_
        refine VX.guardF rfl rfl hb5_15 ?_
        refine VX.guardF rfl rfl hb5_15 ?_
        refine VX.guardF rfl rfl hb5_15 ?_
        refine VX.guardF rfl rfl hb5_15 ?_
        refine VX.guardF rfl rfl hb5_15 ?_
        exact VX.pickO rfl (fun h => absurd (h.symm.trans hb5_15) (by decide)) (VX.nil ⟨rfl, rfl⟩)
    refine VX.meek rfl ?_
    refine' VX.merge (d := 57) [_, _, _, _, _, _, _] rfl ?_ rfl ?_
    rotate_left
    · refine VX.guard rfl rfl (fun hb5_24 => ?_) (fun hb5_24 => ?_)
      · have ghb5_24 := hb5_24
        try simp only [au_std, Bool.not_true, Bool.not_false] at ghb5_24
        first | refine VX.meek rfl ?_ | refine VX.loadI rfl rfl au_l ?_ | refine VX.loadP rfl rfl rfl au_l ?_
        refine VX.guardT rfl rfl hb5_24 ?_
        first | refine VX.meek rfl ?_ | refine VX.loadI rfl rfl au_l ?_ | refine VX.loadP rfl rfl rfl au_l ?_
        refine VX.guardT rfl rfl hb5_24 ?_
        refine VX.meek rfl ?_
        refine VX.guardT rfl rfl hb5_24 ?_
        refine VX.meek rfl ?_
        refine VX.guardT rfl rfl hb5_24 ?_
        first | refine VX.meek rfl ?_ | refine VX.loadI rfl rfl au_l ?_ | refine VX.loadP rfl rfl rfl au_l ?_
        refine VX.guardT rfl rfl hb5_24 ?_
        refine VX.meek rfl ?_
        refine VX.pickO rfl (fun _ => rfl) ?_
        exact VX.nil ⟨rfl, rfl⟩
      · refine VX.guardF rfl rfl hb5_24 ?_
        refine VX.guardF rfl rfl hb5_24 ?_
        refine VX.guardF rfl rfl hb5_24 ?_
        refine VX.guardF rfl rfl hb5_24 ?_
        refine VX.guardF rfl rfl hb5_24 ?_
        exact VX.pickO rfl (fun h => absurd (h.symm.trans hb5_24) (by decide)) (VX.nil ⟨rfl, rfl⟩)
    refine VX.nil ?_
    refine VX.nil ?_
    refine VC.cond rfl (fun hc1 => ?_) (fun hc1 => ?_)
    · (try simp only [au_std] at hc1); have hfar : scrFar w h dx dy := (by rw [wrap_in (by omega), wrap_in (by omega)] at hc1; unfold scrFar; omega); obtain ⟨q1, q2⟩ := e1 hfar; subst q1 q2
      refine VC.drwS tab_ok [] [_, _, _] (_) rfl (by kernel_rfl) (by kernel_rfl) (by kernel_rfl) (seen_kill (b := 0) (seen_refl _) (by simp)) ?_
      refine VS.seg (l1 := [_, _]) rfl ?_
      first | refine VX.meek rfl ?_ | refine VX.loadI rfl rfl au_l ?_ | refine VX.loadP rfl rfl rfl au_l ?_
      first | refine VX.meek rfl ?_ | refine VX.loadI rfl rfl au_l ?_ | refine VX.loadP rfl rfl rfl au_l ?_
      refine VX.nil ?_
      refine VS.sto rfl rfl rfl rfl ?_
      refine VS.nil (⟨rfl, Nat.le_of_ble_eq_true rfl, rfl, trivial⟩) ?_
      refine VX.store rfl rfl rfl rfl rfl au_sR rfl ?_
      refine VX.nil ?_
      refine VC.ret ?_
      exact ⟨trivial, _, rfl, Cv.tup (CvL.cons (Cv.agg (cv_g (Cv.pure (encL_pure cU _)))) (CvL.cons (Cv.agg (CvL.cons (Cv.pure (encL_pure cR _)) CvL.nil)) CvL.nil))⟩
    · (try simp only [au_std] at hc1); have hfar : ¬ scrFar w h dx dy := (by rw [wrap_in (by omega), wrap_in (by omega)] at hc1; unfold scrFar; omega); obtain ⟨q1, q2⟩ := e2 hfar; subst q1 q2
      refine VC.skip ?_
      refine VC.reg tab_ok [] rfl ?_
      first | refine VX.meek rfl ?_ | refine VX.loadI rfl rfl au_l ?_ | refine VX.loadP rfl rfl rfl au_l ?_
      first | refine VX.meek rfl ?_ | refine VX.loadI rfl rfl au_l ?_ | refine VX.loadP rfl rfl rfl au_l ?_
      first | refine VX.meek rfl ?_ | refine VX.loadI rfl rfl au_l ?_ | refine VX.loadP rfl rfl rfl au_l ?_
      refine VX.callP0 rfl rfl rfl (w2) ?_
      refine VX.new rfl rfl ?_
      refine VX.store rfl rfl rfl rfl rfl au_sR rfl ?_
      refine VX.nil ?_
      refine VC.view ([(10, .ptr 0 0), (11, .ptr 1 0), (12, .iptr [plT 2 w h px] 0), (14, .iptr [.islc (encL cR TH) TH.length none] 0)]) ([.c [I64 0, I64 0, NIL], .c [NIL], .c (encL cU px)]) [7, 8, 9, 13] rfl (by refine ⟨[some 0, some 1, some 2], rfl, by first | trivial | decide, rfl, ?_, ?_⟩ <;> (repeat' first | exact trivial | exact CvB_n | exact CvB_d | refine CvE_app ?_ ?_ | refine CvE_cons rfl ?_ ?_ | refine CvH_cons ?_ ?_ | refine CvB_c rfl ?_ | fail) <;> first | exact au_v | (first | exact CvL.pure rfl | exact Cv.iptr (CvL.cons (Cv.iptr (cv_pl (Cv.pure (encL_pure cU _)) (Cv.slc rfl (.inl rfl)))) CvL.nil) | exact Cv.fptr ⟨rfl, by simp [outH, setH]⟩ (CvL.cons (Cv.pure (encL_pure cR _)) CvL.nil))) ?_
      refine VC.drw tab_ok [] [_, _, _, _, _, _] rfl (by kernel_rfl) (by kernel_rfl) ?_
      first | refine VX.meek rfl ?_ | refine VX.loadI rfl rfl au_l ?_ | refine VX.loadP rfl rfl rfl au_l ?_
      first | refine VX.meek rfl ?_ | refine VX.loadI rfl rfl au_l ?_ | refine VX.loadP rfl rfl rfl au_l ?_
      first | refine VX.meek rfl ?_ | refine VX.loadI rfl rfl au_l ?_ | refine VX.loadP rfl rfl rfl au_l ?_
      refine VX.callP0 rfl rfl rfl (w6) ?_
      first | refine VX.meek rfl ?_ | refine VX.loadI rfl rfl au_l ?_ | refine VX.loadP rfl rfl rfl au_l ?_
      refine VX.meek rfl ?_
      refine VX.nil ?_
      refine VX.callT rfl rfl (CallT.frame (hmv) [2] rfl au_ci au_ci ?_)
      rintro _ _ ⟨rfl, rfl⟩
      refine frK au_co au_co ?_
      refine VX.nil ?_
      refine VC.view ([(12, .iptr [.iptr (plC w h px (.islc (encL cU (paintL w (inL V) (moveF w px p (srcS w px dx dy)) px)) px.length none)) 0] 0), (10, .ptr 0 0), (11, .ptr 1 0)]) ([.c [I64 0, I64 0, NIL], .c [NIL]]) [13, 14] rfl (by refine ⟨[some 0, some 1], rfl, by first | trivial | decide, rfl, ?_, ?_⟩ <;> (repeat' first | exact trivial | exact CvB_n | exact CvB_d | refine CvE_app ?_ ?_ | refine CvE_cons rfl ?_ ?_ | refine CvH_cons ?_ ?_ | refine CvB_c rfl ?_ | fail) <;> first | exact au_v | (first | exact CvL.pure rfl | exact Cv.iptr (CvL.cons (Cv.iptr (cv_pl (Cv.pure (encL_pure cU _)) (Cv.fslc0 ⟨rfl, by simp⟩ (CvL.pure (encL_pure cU _))))) CvL.nil))) ?_
      refine VC.drw tab_ok [] [_, _, _, _, _] rfl (by kernel_rfl) (by kernel_rfl) ?_
      first | refine VX.meek rfl ?_ | refine VX.loadI rfl rfl au_l ?_ | refine VX.loadP rfl rfl rfl au_l ?_
      refine VX.callP0 rfl rfl rfl (pgrid_n w h px _ px.length ((paintL_len _ _ _ _)) hw.2 hh.2 hl hresl hb hres) ?_
      first | refine VX.meek rfl ?_ | refine VX.loadI rfl rfl au_l ?_ | refine VX.loadP rfl rfl rfl au_l ?_
      first | refine VX.meek rfl ?_ | refine VX.loadI rfl rfl au_l ?_ | refine VX.loadP rfl rfl rfl au_l ?_
      refine VX.callP0 rfl rfl rfl (w7) ?_
      refine VX.nil ?_
      refine VX.store rfl rfl rfl rfl rfl au_sR rfl ?_
      refine VX.store rfl rfl rfl rfl rfl au_sR rfl ?_
      refine VX.nil ?_
      refine VC.ret ?_
      exact ⟨trivial, _, rfl, Cv.tup (CvL.cons (Cv.agg (cv_g (Cv.pure (encL_pure cU _)))) (CvL.cons (Cv.agg (CvL.cons (Cv.pure (encL_pure cR _)) CvL.nil)) CvL.nil))⟩
end
section
open Go.RowKit Go.Sort
set_option maxRecDepth 10000
theorem padL_bang (P : List Int) (n j : Nat) : (padL P n)[j]! = if j < n ∧ j < P.length then P[j]! else 0 := by
  by_cases hj : j < n
  · rw [getElem!_pos (padL P n) j (by rw [padL_len]; exact hj)]
    unfold padL
    rw [List.getElem_map, List.getElem_range]
    by_cases h2 : j < P.length
    · rw [if_pos h2, if_pos ⟨hj, h2⟩]
    · rw [if_neg h2, if_neg (fun h => h2 h.2)]
  · rw [if_neg (fun h => hj h.1), List.getElem!_eq_getElem?_getD, List.getElem?_eq_none (by rw [padL_len]; omega)]; rfl
theorem padL_nil (n : Nat) : padL [] n = List.replicate n 0 := by
  refine listI_ext (by rw [padL_len, List.length_replicate]) fun i hi => ?_
  rw [padL_bang, if_neg (by simp), repl_at]
theorem take_bang {P : List Int} {i j : Nat} (h : j < i) : (P.take i)[j]! = P[j]! := by
  rw [List.getElem!_eq_getElem?_getD, List.getElem!_eq_getElem?_getD, List.getElem?_take_of_lt h]
theorem padL_set {P : List Int} {n i : Nat} (hi : i < n) (hP : i < P.length) : (padL (P.take i) n).set i P[i]! = padL (P.take (i + 1)) n := by
  refine listI_ext (by rw [List.length_set, padL_len, padL_len]) fun j hj => ?_
  rw [List.length_set, padL_len] at hj
  rw [bang_set, padL_bang, padL_bang, padL_len, List.length_take, List.length_take]
  by_cases e : i = j
  · subst e
    rw [if_pos ⟨rfl, hi⟩, if_pos ⟨hi, by omega⟩, take_bang (by omega)]
  · rw [if_neg (fun h => e h.1)]
    by_cases h : j < i
    · rw [if_pos ⟨hj, by omega⟩, if_pos ⟨hj, by omega⟩, take_bang h, take_bang (by omega)]
    · rw [if_neg (by omega), if_neg (by omega)]
theorem padL_skip {P : List Int} {n i : Nat} (hi : ¬ i < n) : padL (P.take i) n = padL (P.take (i + 1)) n := by
  refine listI_ext (by rw [padL_len, padL_len]) fun j hj => ?_
  rw [padL_len] at hj
  rw [padL_bang, padL_bang, List.length_take, List.length_take]
  by_cases h : j < P.length
  · rw [if_pos ⟨hj, by omega⟩, if_pos ⟨hj, by omega⟩, take_bang (by omega), take_bang (by omega)]
  · rw [if_neg (by omega), if_neg (by omega)]
abbrev plane17T (cw ch : Nat) (P : List Int) : T := .agg [U8 cw, U8 ch, .islc (encL cU P) P.length none]
theorem make17_p (cw ch : Nat) (P : List Int) (hcw : cw < 256) (hch : ch < 256) (hn : P.length ≤ 1048576) (hb : ∀ v ∈ P, 0 ≤ v ∧ v < 256) : CallP Tryz.prog 36 [plane17T cw ch P] (gT (cw % 16 + 1) (ch % 16 + 1) (padL P ((cw % 16 + 1) * (ch % 16 + 1)))) := by
  have hwh : (cw % 16 + 1) * (ch % 16 + 1) ≤ 16 * 16 := Nat.mul_le_mul (by omega) (by omega)
  generalize hW : cw % 16 + 1 = W at *
  generalize hH : ch % 16 + 1 = H at *
  have hm : (W : Int) * (H : Int) = ((W * H : Nat) : Int) := (Int.natCast_mul W H).symm
  have hw16 : 1 ≤ W ∧ W ≤ 16 := by omega
  have hh16 : 1 ≤ H ∧ H ≤ 16 := by omega
  refine CallP.intro2 au_pu au_pu ?_
  refine CallT.intro tab_ok Tryz.func36 rfl (by kernel_rfl) (Nat.le_of_ble_eq_true rfl) ?_
  refine VC.reg tab_ok [1] rfl ?_
  refine VX.newI rfl rfl ?_
  refine VX.new rfl rfl ?_
  refine VX.nil ?_
  refine VC.drw tab_ok [] [_, _, _, _, _, _, _, _, _, _, _, _] rfl (by kernel_rfl) (by kernel_rfl) ?_
  refine VX.meek rfl ?_
  first | refine VX.meek rfl ?_ | refine VX.loadI rfl rfl au_l ?_ | refine VX.loadP rfl rfl rfl au_l ?_
  refine VX.remU rfl rfl (by omega) (by omega) ?_
  refine VX.meek (t := I64 ((cw : Int) % 16)) (by show some (T.v (.int .i64 (IntKind.i64.wrap ((cw : Int) % 16))), (none : Option (Nat × List T))) = _; rw [wrap_in (by omega)]) ?_
  refine VX.add rfl rfl (by omega) ?_; rw [show (cw : Int) % 16 + 1 = (W : Int) from by omega]
  refine VX.meek rfl ?_
  first | refine VX.meek rfl ?_ | refine VX.loadI rfl rfl au_l ?_ | refine VX.loadP rfl rfl rfl au_l ?_
  refine VX.remU rfl rfl (by omega) (by omega) ?_
  refine VX.meek (t := I64 ((ch : Int) % 16)) (by show some (T.v (.int .i64 (IntKind.i64.wrap ((ch : Int) % 16))), (none : Option (Nat × List T))) = _; rw [wrap_in (by omega)]) ?_
  refine VX.add rfl rfl (by omega) ?_; rw [show (ch : Int) % 16 + 1 = (H : Int) from by omega]
  iterate 2 refine VX.meek rfl ?_
  refine VX.nil ?_
  refine VX.nil ?_
  refine VC.reg tab_ok [] rfl ?_
  iterate 2 refine VX.meek rfl ?_
  refine VX.callP0 rfl rfl rfl (gnew_p W H 0 ⟨by omega, by omega⟩ ⟨by omega, by omega⟩) ?_
  iterate 3 refine VX.meek rfl ?_
  refine VX.new rfl rfl ?_
  refine VX.store rfl rfl rfl rfl rfl au_sS rfl ?_
  refine VX.meek rfl ?_
  refine VX.nil ?_
  refine VC.seq ?_
  refine VC.reg tab_ok [] rfl ?_
  refine VX.meek rfl ?_
  first | refine VX.meek rfl ?_ | refine VX.loadI rfl rfl au_l ?_ | refine VX.loadP rfl rfl rfl au_l ?_
  iterate 2 refine VX.meek rfl ?_
  refine VX.nil ?_
  refine VC.block ?_
  refine VC.loopS (σ := Nat) (fun i => P.length - i) (fun i => i ≤ P.length) (fun i => [(28, I64 i), (2, .ptr 0 0), (5, .ptr 1 0)]) (fun i => [.c [I64 0, I64 0, NIL], .c [I64 W, I64 H, .islc (encL cU (padL (P.take i) (W * H))) (W * H) none]]) [3, 4, 26, 27] rfl (0) ?_ ?_ ?_
  · refine ⟨[some 0, some 1], rfl, by first | trivial | decide, rfl, ?_, ?_⟩ <;> (repeat' first | exact trivial | exact CvB_n | exact CvB_d | refine CvE_app ?_ ?_ | refine CvE_cons rfl ?_ ?_ | refine CvH_cons ?_ ?_ | refine CvB_c rfl ?_ | fail) <;> first | exact au_v | (first | exact CvL.pure rfl | (refine cv_g (Cv.eq ?_ (encL_pure cU _)); rw [List.take_zero, padL_nil, List.length_replicate]))
  · (try dsimp only); omega
  rintro i hi
  refine VC.reg tab_ok [] rfl ?_
  refine VX.meek rfl ?_
  refine VX.nil ?_
  refine VC.seq ?_
  refine VC.cond rfl (fun hc0 => ?_) (fun hc0 => ?_)
  · (try simp only [au_std] at hc0); have hil : i < P.length := (by omega); have hpl := padL_len (P.take i) (W * H)
    refine VC.skip ?_
    refine VC.seq ?_
    refine VC.block ?_
    refine VC.reg tab_ok [] rfl ?_
    refine VX.meek rfl ?_
    first | refine VX.idxI rfl rfl rfl rfl rfl rfl (by omega) ?_ | refine VX.idxO0 rfl rfl rfl rfl rfl rfl rfl (by omega) ?_ | refine VX.idxO0 rfl rfl rfl rfl rfl rfl au_z (by omega) ?_ | refine VX.idxO rfl rfl rfl rfl rfl rfl rfl (by omega) ?_ | refine VX.idxI rfl rfl rfl rfl rfl au_z (by omega) ?_ | refine VX.idxO rfl rfl rfl rfl rfl rfl au_z (by omega) ?_ | refine VX.meek rfl ?_
    first | refine VX.meek rfl ?_ | refine VX.loadI rfl rfl au_l ?_ | refine VX.loadP rfl rfl rfl au_l ?_
    iterate 2 refine VX.meek rfl ?_
    refine VX.nil ?_
    refine VC.reg tab_ok [] rfl ?_
    iterate 3 refine VX.meek rfl ?_
    first | refine VX.mul rfl rfl (by omega) ?_ | refine VX.meek rfl ?_
    refine VX.meek rfl ?_
    refine VX.nil ?_
    refine VC.cond rfl (fun hc1 => ?_) (fun hc1 => ?_)
    · (try simp only [au_std] at hc1); have hin : i < W * H := (by omega)
      have hxm : (i : Int) % (W : Int) = ((i % W : Nat) : Int) := (Int.natCast_emod i W).symm
      have hyd : (i : Int) / (W : Int) = ((i / W : Nat) : Int) := (Int.natCast_ediv i W).symm
      have hx1 : i % W < W := Nat.mod_lt _ (by omega)
      have hy1 : i / W < H := Nat.div_lt_of_lt_mul hin
      have hidx : ((i : Int) / (W : Int) * (W : Int) + (i : Int) % (W : Int)).toNat = i := (by rw [hxm, hyd, idx_nat, Nat.div_add_mod'])
      have hst := padL_set (P := P) hin hil
      have hX : 0 ≤ (i : Int) % (W : Int) ∧ (i : Int) % (W : Int) < W := ⟨by rw [hxm]; exact Int.natCast_nonneg _, by rw [hxm]; exact Int.ofNat_lt.2 hx1⟩
      have hY : 0 ≤ (i : Int) / (W : Int) ∧ (i : Int) / (W : Int) < H := ⟨by rw [hyd]; exact Int.natCast_nonneg _, by rw [hyd]; exact Int.ofNat_lt.2 hy1⟩
      refine VC.drwN tab_ok [] [_, _, _, _, _, _, _, _, _] rfl (by kernel_rfl) (by kernel_rfl) ?_
      first | refine VX.meek rfl ?_ | refine VX.loadI rfl rfl au_l ?_ | refine VX.loadP rfl rfl rfl au_l ?_
      iterate 2 refine VX.meek rfl ?_
      refine VX.rem rfl rfl (by omega) (by omega) ?_
      iterate 2 refine VX.meek rfl ?_
      refine VX.quo rfl rfl (by omega) (by omega) (by omega) ?_
      refine VX.meek rfl ?_
      refine VX.callP0 rfl rfl rfl (hidx ▸ gset_n W H (padL (P.take i) (W * H)) (W * H) hpl ((i : Int) % (W : Int)) ((i : Int) / (W : Int)) P[i]! (by omega) (by omega) hpl (padL_bd (fun v hv => hb v (List.mem_of_mem_take hv)) _) hX hY) ?_
      refine VX.nil ?_
      refine VX.store rfl rfl rfl rfl rfl au_sS rfl ?_
      refine VX.nil ?_
      refine VC.regN tab_ok [] rfl ?_
      first | refine VX.add rfl rfl (by omega) ?_ | refine VX.meek rfl ?_
      refine VX.meek rfl ?_
      refine VX.nil ?_
      refine ⟨i + 1, by (try dsimp only); omega, ?_, (by refine ⟨[some 0, some 1], rfl, by first | trivial | decide, rfl, ?_, ?_⟩ <;> (repeat' first | exact trivial | exact CvB_n | exact CvB_d | refine CvE_app ?_ ?_ | refine CvE_cons rfl ?_ ?_ | refine CvH_cons ?_ ?_ | refine CvB_c rfl ?_ | fail) <;> first | exact au_v | (first | exact CvL.pure rfl | (rw [← hst]; exact cv_g (Cv.pure (encL_pure cU _)))))⟩
      (try dsimp only); omega
    · (try simp only [au_std] at hc1); have hst := padL_skip (P := P) (n := W * H) (i := i) (by omega)
      refine VC.skip ?_
      refine VC.regN tab_ok [] rfl ?_
      first | refine VX.add rfl rfl (by omega) ?_ | refine VX.meek rfl ?_
      refine VX.meek rfl ?_
      refine VX.nil ?_
      refine ⟨i + 1, by (try dsimp only); omega, ?_, (by refine ⟨[some 0, some 1], rfl, by first | trivial | decide, rfl, ?_, ?_⟩ <;> (repeat' first | exact trivial | exact CvB_n | exact CvB_d | refine CvE_app ?_ ?_ | refine CvE_cons rfl ?_ ?_ | refine CvH_cons ?_ ?_ | refine CvB_c rfl ?_ | fail) <;> first | exact au_v | (first | exact CvL.pure rfl | (rw [← hst]; exact cv_g (Cv.pure (encL_pure cU _)))))⟩
      (try dsimp only); omega
  · (try simp only [au_std] at hc0); obtain rfl : i = P.length := (by omega); rw [List.take_length]
    refine VC.exit ?_
    refine VC.reg tab_ok [] rfl ?_
    first | refine VX.meek rfl ?_ | refine VX.loadI rfl rfl au_l ?_ | refine VX.loadP rfl rfl rfl au_l ?_
    refine VX.store rfl rfl rfl rfl rfl au_sS rfl ?_
    refine VX.nil ?_
    refine VC.ret ?_
    refine ⟨trivial, _, rfl, Cv.agg (cv_g (Cv.eq (by rw [padL_len]) (encL_pure cU _)))⟩
theorem cells_putT {s : List Int} {tl : List T} {m : Nat} {v : Int} (h : m < s.length) : putL (encL cU s ++ tl) (m * 1) [U8 v] = encL cU (s.set m v) ++ tl := by
  have e := cells_put (v := v) h
  have hl : (encL cU s).length = s.length := by rw [encL_len, cU_sz, Nat.mul_one]
  have h2 : m * 1 + [U8 v].length ≤ (encL cU s).length := by rw [hl]; simp; omega
  unfold putL at e ⊢
  rw [List.take_append_of_le_length (by omega), List.drop_append_of_le_length h2, ← List.append_assoc, e]
theorem new17_t (w h : Nat) (hw : w ≤ 128) (hh : h ≤ 128) : CallT Tryz.prog 103 [I64 w, I64 h, U8 0] [] (fun t H' => ∃ tl, T.pureL tl = true ∧ t = .agg [I64 w, I64 h, .slc 2 0 (w * h) 1 none] ∧ H' = [.c [I64 w, I64 h, .slc 2 0 (w * h) 1 none], .c [I64 w, I64 h, .slc 2 0 (w * h) 1 none], .c (encL cU (List.replicate (w * h) 0) ++ tl)]) := by
  have hwh : w * h ≤ 128 * 128 := Nat.mul_le_mul hw hh
  have hm : (w : Int) * (h : Int) = ((w * h : Nat) : Int) := (Int.natCast_mul w h).symm
  refine CallT.intro tab_ok Tryz.func103 rfl (by kernel_rfl) (Nat.le_of_ble_eq_true rfl) ?_
  refine VC.reg tab_ok [] rfl ?_
  refine VX.new rfl rfl ?_
  refine VX.nil ?_
  refine VC.reg tab_ok [] rfl ?_
  iterate 3 refine VX.meek rfl ?_
  refine VX.new rfl rfl ?_
  refine VX.store rfl rfl rfl rfl rfl au_sS rfl ?_
  refine VX.nil ?_
  refine VC.view ([(6, .ptr 0 0), (7, .ptr 1 0)]) ([.c [I64 0, I64 0, NIL], .c [I64 w, I64 h, NIL]]) [0, 1, 2] rfl (by refine ⟨[some 0, some 1], rfl, by first | trivial | decide, rfl, ?_, ?_⟩ <;> (repeat' first | exact trivial | exact CvB_n | exact CvB_d | refine CvE_app ?_ ?_ | refine CvE_cons rfl ?_ ?_ | refine CvH_cons ?_ ?_ | refine CvB_c rfl ?_ | fail) <;> first | exact au_v | (exact CvL.eq rfl rfl)) ?_
  refine VC.seq ?_
  refine VC.reg tab_ok [] rfl ?_
  refine VX.meek rfl ?_
  refine VX.nil ?_
  refine VC.block ?_
  refine VC.loopS2 (σ1 := Nat) (σ2 := List T) (fun i _ => w * h - i) (fun i tl => i ≤ w * h ∧ T.pureL tl = true) (fun i _ => [(8, I64 i), (6, .ptr 0 0), (7, .ptr 1 0)]) (fun i tl => [.c [I64 0, I64 0, NIL], .c [I64 w, I64 h, .slc 2 0 i 1 none], .c (encL cU (List.replicate i 0) ++ tl)]) [0, 1, 2] rfl (0) ([]) ?_ ?_ ?_
  · refine ⟨[some 0, some 1, none], rfl, by first | trivial | decide, rfl, ?_, ?_⟩ <;> (repeat' first | exact trivial | exact CvB_n | exact CvB_d | refine CvE_app ?_ ?_ | refine CvE_cons rfl ?_ ?_ | refine CvH_cons ?_ ?_ | refine CvB_c rfl ?_ | fail) <;> first | exact au_v | (first | exact CvL.pure rfl | exact CvL.cons (Cv.pure rfl) (CvL.cons (Cv.pure rfl) (CvL.cons (Cv.nilv rfl) CvL.nil)))
  · exact ⟨by omega, rfl⟩
  rintro i tl ⟨hi, htl⟩
  refine VC.seq ?_
  refine VC.reg tab_ok [] rfl ?_
  iterate 3 refine VX.meek rfl ?_
  first | refine VX.mul rfl rfl (by omega) ?_ | refine VX.meek rfl ?_
  refine VX.meek rfl ?_
  refine VX.nil ?_
  refine VC.cond rfl (fun hc0 => ?_) (fun hc0 => ?_)
  · (try simp only [au_std] at hc0); have hil : i < w * h := (by omega); have hrl : (List.replicate i (0 : Int)).length = i := List.length_replicate; have hcl : (encL cU (List.replicate i (0 : Int)) ++ tl).length = i + tl.length := (by rw [List.length_append, encL_len, cU_sz, hrl, Nat.mul_one])
    have hsn : List.replicate (i + 1) (0 : Int) = List.replicate i 0 ++ [0] := List.replicate_succ'
    refine VC.skip ?_
    refine VC.seq ?_
    refine VC.block ?_
    refine VC.regN tab_ok [22] rfl ?_
    refine VX.meek rfl ?_
    first | refine VX.meek rfl ?_ | refine VX.loadI rfl rfl au_l ?_ | refine VX.loadP rfl rfl rfl au_l ?_
    refine VX.meek rfl ?_
    refine VX.newI rfl rfl ?_
    refine VX.append rfl rfl rfl rfl rfl rfl rfl rfl (by rw [hcl]; omega) (by dsimp only; omega) (by omega) rfl rfl ?_
    refine VX.meek rfl ?_
    refine VX.store rfl rfl rfl rfl rfl au_sS rfl ?_
    refine VX.nil ?_
    refine VC.regN tab_ok [] rfl ?_
    refine VX.meek rfl ?_
    first | refine VX.add rfl rfl (by omega) ?_ | refine VX.meek rfl ?_
    refine VX.meek rfl ?_
    refine VX.nil ?_
    refine ⟨i + 1, [], by (try dsimp only); omega, ?_, (by refine ⟨[some 0, some 1, some 3], rfl, by first | trivial | decide, rfl, ?_, ?_⟩ <;> (repeat' first | exact trivial | exact CvB_n | exact CvB_d | refine CvE_app ?_ ?_ | refine CvE_cons rfl ?_ ?_ | refine CvH_cons ?_ ?_ | refine CvB_c rfl ?_ | fail) <;> first | exact au_v | (first | exact CvL.pure rfl | (refine cv_g (Cv.slcE rfl rfl (.inl rfl))) | (refine CvL.eq ?_ ?_; (rw [hsn]; exact app_one cU hrl.symm rfl rfl); (rw [List.append_nil]; exact encL_pure cU _))))⟩
    exact ⟨by omega, rfl⟩
  · (try simp only [au_std] at hc0); obtain rfl : i = w * h := (by omega)
    refine VC.exit ?_
    refine VC.reg tab_ok [] rfl ?_
    first | refine VX.meek rfl ?_ | refine VX.loadI rfl rfl au_l ?_ | refine VX.loadP rfl rfl rfl au_l ?_
    refine VX.store rfl rfl rfl rfl rfl au_sS rfl ?_
    refine VX.nil ?_
    refine VC.ret ?_
    exact ⟨trivial, _, rfl, tl, htl, rfl, rfl⟩
theorem ref17_p (cw ch : Nat) (P : List Int) (hcw : cw < 256) (hch : ch < 256) (hn : P.length ≤ 1048576) (hb : ∀ v ∈ P, 0 ≤ v ∧ v < 256) : CallP Tryz.prog 41 [plane17T cw ch P] (gT (cw % 16 + 1) (ch % 16 + 1) (padL P ((cw % 16 + 1) * (ch % 16 + 1)))) := by
  have hwh : (cw % 16 + 1) * (ch % 16 + 1) ≤ 16 * 16 := Nat.mul_le_mul (by omega) (by omega)
  generalize hW : cw % 16 + 1 = W at *
  generalize hH : ch % 16 + 1 = H at *
  have hw16 : 1 ≤ W ∧ W ≤ 16 := by omega
  have hh16 : 1 ≤ H ∧ H ≤ 16 := by omega
  refine CallP.intro2 au_pu au_pu ?_
  refine CallT.intro tab_ok Tryz.func41 rfl (by kernel_rfl) (Nat.le_of_ble_eq_true rfl) ?_
  refine VC.reg tab_ok [1] rfl ?_
  refine VX.newI rfl rfl ?_
  refine VX.new rfl rfl ?_
  refine VX.nil ?_
  refine VC.reg tab_ok [] rfl ?_
  refine VX.meek rfl ?_
  first | refine VX.meek rfl ?_ | refine VX.loadI rfl rfl au_l ?_ | refine VX.loadP rfl rfl rfl au_l ?_
  refine VX.remU rfl rfl (by omega) (by omega) ?_
  refine VX.meek (t := I64 ((cw : Int) % 16)) (by show some (T.v (.int .i64 (IntKind.i64.wrap ((cw : Int) % 16))), (none : Option (Nat × List T))) = _; rw [wrap_in (by omega)]) ?_
  refine VX.add rfl rfl (by omega) ?_; rw [show (cw : Int) % 16 + 1 = (W : Int) from by omega]
  refine VX.meek rfl ?_
  first | refine VX.meek rfl ?_ | refine VX.loadI rfl rfl au_l ?_ | refine VX.loadP rfl rfl rfl au_l ?_
  refine VX.remU rfl rfl (by omega) (by omega) ?_
  refine VX.meek (t := I64 ((ch : Int) % 16)) (by show some (T.v (.int .i64 (IntKind.i64.wrap ((ch : Int) % 16))), (none : Option (Nat × List T))) = _; rw [wrap_in (by omega)]) ?_
  refine VX.add rfl rfl (by omega) ?_; rw [show (ch : Int) % 16 + 1 = (H : Int) from by omega]
  refine VX.callT rfl rfl (CallT.frame (new17_t W H (by omega) (by omega)) [] rfl au_ci au_ci ?_)
  rintro _ _ ⟨tl, htl, rfl, rfl⟩
  refine frK au_co au_co ?_
  refine VX.new rfl rfl ?_
  refine VX.store rfl rfl rfl rfl rfl au_sS rfl ?_
  refine VX.nil ?_
  refine VC.seq ?_
  refine VC.reg tab_ok [] rfl ?_
  refine VX.meek rfl ?_
  first | refine VX.meek rfl ?_ | refine VX.loadI rfl rfl au_l ?_ | refine VX.loadP rfl rfl rfl au_l ?_
  iterate 2 refine VX.meek rfl ?_
  refine VX.nil ?_
  refine VC.block ?_
  refine VC.loopS (σ := Nat) (fun i => P.length - i) (fun i => i ≤ P.length) (fun i => [(20, I64 i), (2, .ptr 0 0), (3, .ptr 1 0)]) (fun i => [.c [I64 0, I64 0, NIL], .c [I64 W, I64 H, .slc 2 0 (W * H) 1 none], .c (encL cU (padL (P.take i) (W * H)) ++ tl)]) [18, 19] rfl (0) ?_ ?_ ?_
  · refine ⟨[some 0, some 4, some 3], rfl, by first | trivial | decide, rfl, ?_, ?_⟩ <;> (repeat' first | exact trivial | exact CvB_n | exact CvB_d | refine CvE_app ?_ ?_ | refine CvE_cons rfl ?_ ?_ | refine CvH_cons ?_ ?_ | refine CvB_c rfl ?_ | fail) <;> first | exact au_v | (first | exact CvL.pure rfl | (rw [List.take_zero, padL_nil]; exact CvL.pure (pureL_append (encL_pure cU _) htl)) | exact cv_g (Cv.slc rfl (.inl rfl)))
  · (try dsimp only); omega
  rintro i hi
  refine VC.reg tab_ok [] rfl ?_
  refine VX.meek rfl ?_
  refine VX.nil ?_
  refine VC.seq ?_
  refine VC.cond rfl (fun hc0 => ?_) (fun hc0 => ?_)
  · (try simp only [au_std] at hc0); have hil : i < P.length := (by omega); have hpl := padL_len (P.take i) (W * H)
    refine VC.skip ?_
    refine VC.seq ?_
    refine VC.block ?_
    refine VC.reg tab_ok [] rfl ?_
    refine VX.meek rfl ?_
    first | refine VX.idxI rfl rfl rfl rfl rfl rfl (by omega) ?_ | refine VX.idxO0 rfl rfl rfl rfl rfl rfl rfl (by omega) ?_ | refine VX.idxO0 rfl rfl rfl rfl rfl rfl au_z (by omega) ?_ | refine VX.idxO rfl rfl rfl rfl rfl rfl rfl (by omega) ?_ | refine VX.idxI rfl rfl rfl rfl rfl au_z (by omega) ?_ | refine VX.idxO rfl rfl rfl rfl rfl rfl au_z (by omega) ?_ | refine VX.meek rfl ?_
    first | refine VX.meek rfl ?_ | refine VX.loadI rfl rfl au_l ?_ | refine VX.loadP rfl rfl rfl au_l ?_
    iterate 2 refine VX.meek rfl ?_
    refine VX.nil ?_
    refine VC.reg tab_ok [] rfl ?_
    iterate 2 refine VX.meek rfl ?_
    first | refine VX.meek rfl ?_ | refine VX.loadI rfl rfl au_l ?_ | refine VX.loadP rfl rfl rfl au_l ?_
    iterate 2 refine VX.meek rfl ?_
    refine VX.nil ?_
    refine VC.cond rfl (fun hc1 => ?_) (fun hc1 => ?_)
    · (try simp only [au_std] at hc1); have hin : i < W * H := (by omega); have hst := padL_set (P := P) hin hil
      refine VC.regN tab_ok [] rfl ?_
      refine VX.meek rfl ?_
      first | refine VX.meek rfl ?_ | refine VX.loadI rfl rfl au_l ?_ | refine VX.loadP rfl rfl rfl au_l ?_
      iterate 2 refine VX.meek rfl ?_
      first | refine VX.idxI rfl rfl rfl rfl rfl rfl (by omega) ?_ | refine VX.idxO0 rfl rfl rfl rfl rfl rfl rfl (by omega) ?_ | refine VX.idxO0 rfl rfl rfl rfl rfl rfl au_z (by omega) ?_ | refine VX.idxO rfl rfl rfl rfl rfl rfl rfl (by omega) ?_ | refine VX.idxI rfl rfl rfl rfl rfl au_z (by omega) ?_ | refine VX.idxO rfl rfl rfl rfl rfl rfl au_z (by omega) ?_ | refine VX.meek rfl ?_
      refine VX.store rfl rfl rfl rfl rfl (by rw [List.length_append, encL_len, cU_sz, hpl]; dsimp only; omega) rfl ?_
      refine VX.nil ?_
      refine VC.regN tab_ok [] rfl ?_
      first | refine VX.add rfl rfl (by omega) ?_ | refine VX.meek rfl ?_
      refine VX.meek rfl ?_
      refine VX.nil ?_
      refine ⟨i + 1, by (try dsimp only); omega, ?_, (by refine ⟨[some 0, some 1, some 2], rfl, by first | trivial | decide, rfl, ?_, ?_⟩ <;> (repeat' first | exact trivial | exact CvB_n | exact CvB_d | refine CvE_app ?_ ?_ | refine CvE_cons rfl ?_ ?_ | refine CvH_cons ?_ ?_ | refine CvB_c rfl ?_ | fail) <;> first | exact au_v | (first | exact CvL.pure rfl | exact cv_g (Cv.slc rfl (.inl rfl)) | (rw [← hst]; exact CvL.eq (cells_putT (by omega)) (pureL_append (encL_pure cU _) htl))))⟩
      (try dsimp only); omega
    · (try simp only [au_std] at hc1); have hst := padL_skip (P := P) (n := W * H) (i := i) (by omega)
      refine VC.skip ?_
      refine VC.regN tab_ok [] rfl ?_
      first | refine VX.add rfl rfl (by omega) ?_ | refine VX.meek rfl ?_
      refine VX.meek rfl ?_
      refine VX.nil ?_
      refine ⟨i + 1, by (try dsimp only); omega, ?_, (by refine ⟨[some 0, some 1, some 2], rfl, by first | trivial | decide, rfl, ?_, ?_⟩ <;> (repeat' first | exact trivial | exact CvB_n | exact CvB_d | refine CvE_app ?_ ?_ | refine CvE_cons rfl ?_ ?_ | refine CvH_cons ?_ ?_ | refine CvB_c rfl ?_ | fail) <;> first | exact au_v | (first | exact CvL.pure rfl | exact cv_g (Cv.slc rfl (.inl rfl)) | (rw [← hst]; exact CvL.pure (pureL_append (encL_pure cU _) htl))))⟩
      (try dsimp only); omega
  · (try simp only [au_std] at hc0); obtain rfl : i = P.length := (by omega); rw [List.take_length]
    refine VC.exit ?_
    refine VC.reg tab_ok [] rfl ?_
    first | refine VX.meek rfl ?_ | refine VX.loadI rfl rfl au_l ?_ | refine VX.loadP rfl rfl rfl au_l ?_
    refine VX.store rfl rfl rfl rfl rfl au_sS rfl ?_
    refine VX.nil ?_
    refine VC.ret ?_
    refine ⟨trivial, _, rfl, Cv.agg (cv_g ?_)⟩; rw [padL_len]; exact Cv.fslcA ⟨rfl, by simp⟩ (CvL.pure (encL_pure cU _))
theorem in17g_p (w h : Nat) (px : List Int) (x y : Int) : CallP Tryz.prog 46 [gT w h px, I64 x, I64 y] (BL (inB' w h x y)) := by
  refine CallP.intro2 au_pu au_pu ?_
  refine CallT.intro tab_ok Tryz.func46 rfl (by kernel_rfl) (Nat.le_of_ble_eq_true rfl) ?_
  refine VC.reg tab_ok [3] rfl ?_
  refine VX.newI rfl rfl ?_
  refine VX.meek rfl ?_
  refine VX.nil ?_
  refine VC.reg tab_ok [] rfl ?_
  iterate 3 refine VX.meek rfl ?_
  refine' VX.merge (d := 14) [_, _, _, _, _] rfl ?_ rfl ?_
  rotate_left
  · refine VX.guard rfl rfl (fun hb1_2 => ?_) (fun hb1_2 => ?_)
    · have ghb1_2 := hb1_2
      try simp only [au_std, Bool.not_true, Bool.not_false] at ghb1_2
      refine VX.meek rfl ?_
      refine VX.guardT rfl rfl hb1_2 ?_
      refine VX.meek rfl ?_
      refine VX.guardT rfl rfl hb1_2 ?_
      first | refine VX.meek rfl ?_ | refine VX.loadI rfl rfl au_l ?_ | refine VX.loadP rfl rfl rfl au_l ?_
      refine VX.guardT rfl rfl hb1_2 ?_
      refine VX.meek rfl ?_
      refine VX.pickA rfl (fun _ => rfl) ?_
      exact VX.nil ⟨rfl, rfl⟩
    · refine VX.guardF rfl rfl hb1_2 ?_
      refine VX.guardF rfl rfl hb1_2 ?_
      refine VX.guardF rfl rfl hb1_2 ?_
      exact VX.pickA rfl (fun h => absurd (h.symm.trans hb1_2) (by decide)) (VX.nil ⟨rfl, rfl⟩)
  refine VX.meek rfl ?_
  refine' VX.merge (d := 18) [_, _, _] rfl ?_ rfl ?_
  rotate_left
  · refine VX.guard rfl rfl (fun hb1_8 => ?_) (fun hb1_8 => ?_)
    · have ghb1_8 := hb1_8
      try simp only [au_std, Bool.not_true, Bool.not_false] at ghb1_8
      refine VX.meek rfl ?_
      refine VX.guardT rfl rfl hb1_8 ?_
      refine VX.meek rfl ?_
      refine VX.pickA rfl (fun _ => rfl) ?_
      exact VX.nil ⟨rfl, rfl⟩
    · refine VX.guardF rfl rfl hb1_8 ?_
      exact VX.pickA rfl (fun h => absurd (h.symm.trans hb1_8) (by decide)) (VX.nil ⟨rfl, rfl⟩)
  refine VX.meek rfl ?_
  refine' VX.merge (d := 24) [_, _, _, _, _] rfl ?_ rfl ?_
  rotate_left
  · refine VX.guard rfl rfl (fun hb1_12 => ?_) (fun hb1_12 => ?_)
    · have ghb1_12 := hb1_12
      try simp only [au_std, Bool.not_true, Bool.not_false] at ghb1_12
      refine VX.meek rfl ?_
      refine VX.guardT rfl rfl hb1_12 ?_
      refine VX.meek rfl ?_
      refine VX.guardT rfl rfl hb1_12 ?_
      first | refine VX.meek rfl ?_ | refine VX.loadI rfl rfl au_l ?_ | refine VX.loadP rfl rfl rfl au_l ?_
      refine VX.guardT rfl rfl hb1_12 ?_
      refine VX.meek rfl ?_
      refine VX.pickA rfl (fun _ => rfl) ?_
      exact VX.nil ⟨rfl, rfl⟩
    · refine VX.guardF rfl rfl hb1_12 ?_
      refine VX.guardF rfl rfl hb1_12 ?_
      refine VX.guardF rfl rfl hb1_12 ?_
      exact VX.pickA rfl (fun h => absurd (h.symm.trans hb1_12) (by decide)) (VX.nil ⟨rfl, rfl⟩)
  refine VX.meek rfl ?_
  refine VX.nil ?_
  refine VC.ret ?_
  exact ⟨trivial, _, rfl, Cv.eq (congrArg BL (by rw [Bool.eq_iff_iff, inB_iff]; simp; omega)) rfl⟩
theorem at17_p (w h : Nat) (px : List Int) (x y : Int) (hw : w ≤ 128) (hh : h ≤ 128) (hl : px.length = w * h) : CallP Tryz.prog 44 [gT w h px, I64 x, I64 y] (U8 (atG w h px x y)) := by
  refine CallP.intro2 au_pu au_pu ?_
  refine CallT.intro tab_ok Tryz.func44 rfl (by kernel_rfl) (Nat.le_of_ble_eq_true rfl) ?_
  refine VC.reg tab_ok [3] rfl ?_
  refine VX.newI rfl rfl ?_
  refine VX.meek rfl ?_
  refine VX.nil ?_
  refine VC.seq ?_
  refine VC.reg tab_ok [] rfl ?_
  first | refine VX.meek rfl ?_ | refine VX.loadI rfl rfl au_l ?_ | refine VX.loadP rfl rfl rfl au_l ?_
  iterate 2 refine VX.meek rfl ?_
  refine VX.callP0 rfl rfl rfl (in17g_p w h px x y) ?_
  refine VX.meek rfl ?_
  refine VX.nil ?_
  refine VC.cond rfl (fun hc0 => ?_) (fun hc0 => ?_)
  · (try simp only [au_std] at hc0); have hres : atG w h px x y = 0 := (by unfold atG; rw [hc0]; rfl); rw [hres]
    refine VC.reg tab_ok [] rfl ?_
    refine VX.meek rfl ?_
    refine VX.nil ?_
    refine VC.ret ?_
    exact ⟨trivial, _, rfl, Cv.eq (by first | rfl | (simp [*]; done)) rfl⟩
  · (try simp only [au_std] at hc0); have hin' := inB_iff.1 hc0; have hin := in_place (x := x) (y := y) hw hh (by omega) (by omega) (by omega) (by omega); have hres : atG w h px x y = px[(y * w + x).toNat]! := if_pos hc0; rw [hres]
    refine VC.skip ?_
    refine VC.reg tab_ok [] rfl ?_
    refine VX.meek rfl ?_
    first | refine VX.meek rfl ?_ | refine VX.loadI rfl rfl au_l ?_ | refine VX.loadP rfl rfl rfl au_l ?_
    iterate 2 refine VX.meek rfl ?_
    first | refine VX.meek rfl ?_ | refine VX.loadI rfl rfl au_l ?_ | refine VX.loadP rfl rfl rfl au_l ?_
    first | refine VX.mul rfl rfl (by omega) ?_ | refine VX.meek rfl ?_
    refine VX.meek rfl ?_
    first | refine VX.add rfl rfl (by omega) ?_ | refine VX.meek rfl ?_
    first | refine VX.idxI rfl rfl rfl rfl rfl rfl (by omega) ?_ | refine VX.idxO0 rfl rfl rfl rfl rfl rfl rfl (by omega) ?_ | refine VX.idxO0 rfl rfl rfl rfl rfl rfl au_z (by omega) ?_ | refine VX.idxO rfl rfl rfl rfl rfl rfl rfl (by omega) ?_ | refine VX.idxI rfl rfl rfl rfl rfl au_z (by omega) ?_ | refine VX.idxO rfl rfl rfl rfl rfl rfl au_z (by omega) ?_ | refine VX.meek rfl ?_
    first | refine VX.meek rfl ?_ | refine VX.loadI rfl rfl au_l ?_ | refine VX.loadP rfl rfl rfl au_l ?_
    refine VX.meek rfl ?_
    refine VX.nil ?_
    refine VC.ret ?_
    exact ⟨trivial, _, rfl, Cv.eq (by first | rfl | (simp [*]; done)) rfl⟩
end
section
open Go.RowKit Go.Sort
def cntR (p : Int → Bool) : Nat → Nat
  | 0 => 0
  | n + 1 => cntR p n + (if p n = true then 1 else 0)
def cntG (p : Int → Int → Bool) (w : Nat) : Nat → Nat
  | 0 => 0
  | j + 1 => cntG p w j + cntR (fun x => p x j) w
theorem cntR_congr {p q : Int → Bool} : ∀ {n : Nat}, (∀ i : Nat, i < n → p i = q i) → cntR p n = cntR q n
  | 0, _ => rfl
  | n + 1, h => by
    show cntR p n + _ = cntR q n + _
    rw [cntR_congr fun i hi => h i (by omega), h n (by omega)]
theorem cntG_congr {p q : Int → Int → Bool} {w : Nat} : ∀ {h : Nat}, (∀ i j : Nat, i < w → j < h → p i j = q i j) → cntG p w h = cntG q w h
  | 0, _ => rfl
  | j + 1, h => by
    show cntG p w j + _ = cntG q w j + _
    rw [cntG_congr fun i k hi hk => h i k hi (by omega), cntR_congr (p := fun x => p x j) (q := fun x => q x j) fun i hi => h i j hi (by omega)]
theorem cntR_le (p : Int → Bool) : ∀ n, cntR p n ≤ n
  | 0 => Nat.le_refl _
  | n + 1 => by show cntR p n + _ ≤ n + 1; have := cntR_le p n; split <;> omega
theorem cntG_le (p : Int → Int → Bool) (w : Nat) : ∀ h, cntG p w h ≤ h * w
  | 0 => by simp [cntG]
  | j + 1 => by show cntG p w j + _ ≤ (j + 1) * w; have h1 := cntG_le p w j; have h2 := cntR_le (fun x => p x j) w; rw [Nat.add_mul, Nat.one_mul]; omega
theorem cntR_or {p q : Int → Bool} : ∀ {n : Nat}, (∀ i : Nat, i < n → ¬ (p i = true ∧ q i = true)) → cntR (fun i => p i || q i) n = cntR p n + cntR q n
  | 0, _ => rfl
  | n + 1, h => by
    show cntR _ n + _ = (cntR p n + _) + (cntR q n + _)
    rw [cntR_or fun i hi => h i (by omega)]
    have := h n (by omega)
    cases h1 : p n <;> cases h2 : q n <;> simp_all <;> omega
theorem cntG_or {p q : Int → Int → Bool} {w : Nat} : ∀ {h : Nat}, (∀ i j : Nat, i < w → j < h → ¬ (p i j = true ∧ q i j = true)) → cntG (fun i j => p i j || q i j) w h = cntG p w h + cntG q w h
  | 0, _ => rfl
  | j + 1, h => by
    show cntG _ w j + _ = (cntG p w j + _) + (cntG q w j + _)
    rw [cntG_or fun i k hi hk => h i k hi (by omega), cntR_or fun i hi => h i j hi (by omega)]
    omega
theorem cntR_seg (a b : Int) : ∀ n : Nat, 0 ≤ a → a ≤ b → b ≤ n → (cntR (fun i => decide (a ≤ i) && decide (i < b)) n : Int) = b - a
  | 0, h1, h2, h3 => by show ((0 : Nat) : Int) = _; omega
  | n + 1, h1, h2, h3 => by
    show ((cntR _ n + _ : Nat) : Int) = _
    by_cases hb : b ≤ n
    · have ih := cntR_seg a b n h1 h2 hb
      rw [if_neg (by simp; omega)]; simpa using ih
    · by_cases ha : a ≤ n
      · have ih := cntR_seg a n n h1 ha (Int.le_refl _)
        have e : cntR (fun i => decide (a ≤ i) && decide (i < b)) n = cntR (fun i => decide (a ≤ i) && decide (i < (n : Int))) n := cntR_congr fun i hi => by
          rw [Bool.eq_iff_iff]; simp; omega
        rw [e, if_pos (by simp; omega)]
        push_cast
        rw [ih]; omega
      · have e : cntR (fun i => decide (a ≤ i) && decide (i < b)) n = cntR (fun _ => false) n := cntR_congr fun i hi => by simp; omega
        have e0 : ∀ m, cntR (fun _ => false) m = 0 := fun m => by induction m with
          | zero => rfl
          | succ m ih => show cntR _ m + _ = 0; rw [ih]; rfl
        rw [e, e0, if_neg (by simp; omega)]
        omega
theorem cntR_false : ∀ m, cntR (fun _ => false) m = 0
  | 0 => rfl
  | m + 1 => by show cntR _ m + _ = 0; rw [cntR_false m]; rfl
theorem cntG_false (w : Nat) : ∀ m, cntG (fun _ _ => false) w m = 0
  | 0 => rfl
  | m + 1 => by show cntG _ w m + _ = 0; rw [cntG_false w m, cntR_false]
theorem cntG_rect {w : Nat} (r : Rect) (hx : 0 ≤ r.X) (hw : 0 ≤ r.W) (hxw : r.X + r.W ≤ w) (hy : 0 ≤ r.Y) (hh : 0 ≤ r.H) : ∀ h : Nat, (cntG (fun x y => decide (r.has x y)) w h : Int) = r.W * (min (r.Y + r.H) (max h r.Y) - r.Y)
  | 0 => by
    show ((0 : Nat) : Int) = _
    rw [Int.max_eq_right (by omega), Int.min_eq_right (by omega)]; simp
  | h + 1 => by
    show ((cntG _ w h + cntR _ w : Nat) : Int) = _
    have ih := cntG_rect r hx hw hxw hy hh h
    push_cast
    rw [ih]
    by_cases c : r.Y ≤ h ∧ (h : Int) < r.Y + r.H
    · have e : cntR (fun x => decide (r.has x h)) w = cntR (fun i => decide (r.X ≤ i) && decide (i < r.X + r.W)) w := cntR_congr fun i hi => by
        rw [Bool.eq_iff_iff]; simp only [decide_eq_true_eq, Bool.and_eq_true]; unfold Rect.has; omega
      rw [e, cntR_seg r.X (r.X + r.W) w hx (by omega) hxw]
      rw [show (min (r.Y + r.H) (max ((h : Int) + 1) r.Y) - r.Y) = (min (r.Y + r.H) (max (h : Int) r.Y) - r.Y) + 1 from by omega, Int.mul_add]
      omega
    · have e : cntR (fun x => decide (r.has x h)) w = cntR (fun _ => false) w := cntR_congr fun i hi => by
        exact decide_eq_false (fun hh => by unfold Rect.has at hh; omega)
      rw [e, cntR_false]
      rw [show (min (r.Y + r.H) (max ((h : Int) + 1) r.Y) - r.Y) = (min (r.Y + r.H) (max (h : Int) r.Y) - r.Y) from by omega]
      simp
theorem area_cnt {w h : Nat} {l : List Rect} (hc : Canon l) (hr : ∀ r ∈ l, rok r) (hin : ∀ x y, inL l x y → 0 ≤ x ∧ x < w ∧ 0 ≤ y ∧ y < h) : ∀ k, k ≤ l.length → areaL (l.take k) = cntG (fun x y => decide (inL (l.take k) x y)) w h
  | 0, _ => by
    have e : cntG (fun x y => decide (inL (l.take 0) x y)) w h = cntG (fun _ _ => false) w h := cntG_congr fun i j _ _ => decide_eq_false inL_nil
    rw [e, cntG_false]; rfl
  | k + 1, hk => by
    have hkl : k < l.length := by omega
    have hmk : l[k]! ∈ l := List.mem_iff_getElem?.2 ⟨k, getE hkl⟩
    have hrk := hr _ hmk
    unfold rok at hrk
    have ih := area_cnt hc hr hin k (by omega)
    rw [take_snoc hkl, areaL_app, ih]
    have hik : ∀ x y, l[k]!.has x y → 0 ≤ x ∧ x < w ∧ 0 ≤ y ∧ y < h := fun x y hh => hin x y ⟨_, hmk, hh⟩
    have c1 := hik l[k]!.X l[k]!.Y (by unfold Rect.has; omega)
    have c2 := hik (l[k]!.X + l[k]!.W - 1) (l[k]!.Y + l[k]!.H - 1) (by unfold Rect.has; omega)
    have e : cntG (fun x y => decide (inL (l.take k ++ [l[k]!]) x y)) w h = cntG (fun x y => decide (inL (l.take k) x y) || decide (l[k]!.has x y)) w h := cntG_congr fun i j _ _ => by
      rw [Bool.eq_iff_iff, decide_eq_true_eq, inL_append, inL_cons]
      simp only [Bool.or_eq_true, decide_eq_true_eq]
      have : ¬ inL [] (i : Int) (j : Int) := inL_nil
      constructor
      · rintro (h | h | h)
        · exact .inl h
        · exact .inr h
        · exact absurd h this
      · rintro (h | h)
        · exact .inl h
        · exact .inr (.inl h)
    rw [e, cntG_or fun i j _ _ hh => by
      simp only [decide_eq_true_eq] at hh
      exact canon_disj hc hkl hh.2 hh.1]
    have := cntG_rect (w := w) l[k]! (by omega) (by omega) (by omega) (by omega) (by omega) h
    push_cast
    rw [this, Int.max_eq_left (by omega), Int.min_eq_left (by omega)]
    simp only [areaL, areaR, Int.add_zero]
    congr 2
    omega
theorem area_all {w h : Nat} {l : List Rect} (hc : Canon l) (hr : ∀ r ∈ l, rok r) (hin : ∀ x y, inL l x y → 0 ≤ x ∧ x < w ∧ 0 ≤ y ∧ y < h) : areaL l = cntG (fun x y => decide (inL l x y)) w h := by
  have := area_cnt hc hr hin l.length (Nat.le_refl _)
  rwa [List.take_length] at this
theorem area_any {n : Nat} {w h : Nat} {l : List Rect} (hc : Reg n l) (hn : n ≤ 300) (hwh : w * h ≤ 1048576) (hin : ∀ x y, inL l x y → 0 ≤ x ∧ x < w ∧ 0 ≤ y ∧ y < h) : CallP Tryz.prog 50 [regT l] (I64 (cntG (fun x y => decide (inL l x y)) w h)) := by
  rw [← area_all hc.canon hc.ok hin]
  have hb : ∀ p : Int → Int → Bool, (cntG p w h : Int) ≤ 1048576 := fun p => by have := cntG_le p w h; rw [Nat.mul_comm] at this; omega
  refine area_p l (Nat.le_trans hc.len (Nat.le_trans (Nat.mul_le_mul hn hn) (by decide))) (fun k hk => ?_) (fun r hr => ?_)
  · rw [area_cnt hc.canon hc.ok hin k hk]
    have := hb (fun x y => decide (inL (l.take k) x y))
    omega
  · have hrk := hc.ok r hr
    unfold rok at hrk
    unfold areaR
    have h1 : 0 ≤ r.W * r.H := Int.mul_nonneg (by omega) (by omega)
    have h2 : r.W * r.H ≤ 2097152 * 2097152 := Int.mul_le_mul (by omega) (by omega) (by omega) (by omega)
    omega
end
section
open Go.RowKit Go.Sort
set_option maxRecDepth 10000
set_option maxHeartbeats 1000000
structure PcS where
  f : Int
  pl : Int
  x : Int
  y : Int
  cl : Bool
  c : List Rect
abbrev pcC (p : PcS) : List T := [U8 p.f, U8 p.pl, I8 p.x, I8 p.y, BL p.cl, .islc (encL cS p.c) p.c.length none]
def PcS.Ok (p : PcS) : Prop := (0 ≤ p.f ∧ p.f < 256) ∧ (0 ≤ p.pl ∧ p.pl < 256) ∧ (-128 ≤ p.x ∧ p.x ≤ 127) ∧ (-128 ≤ p.y ∧ p.y ≤ 127) ∧ ∀ s ∈ p.c, smOk s
def penOf (p : PcS) : PenS := ⟨p.f % 16, p.pl, 0, 1, 0, p.x, p.y, p.cl, if p.cl = true then p.c.map smR else []⟩
theorem penOf_ok {p : PcS} (h : p.Ok) (hn : p.c.length ≤ 10) : PenOk (penOf p) := by
  obtain ⟨h1, h2, h3, h4, h5⟩ := h
  refine ⟨?_, ?_, ?_, ?_, ?_, ?_⟩
  · unfold ropKnown penOf; simp; omega
  · unfold placeB penOf; simp; omega
  · unfold placeB penOf; simp; omega
  · unfold penOf; dsimp only; cases p.cl <;> simp
  · unfold penOf; dsimp only; split
    · rw [List.length_map]; omega
    · exact Nat.zero_le _
  · intro r hr
    unfold penOf at hr
    dsimp only at hr
    split at hr
    · obtain ⟨s, hs, rfl⟩ := List.mem_map.1 hr
      have := small_bd (h5 s hs)
      unfold placeB sdB
      simp; omega
    · cases hr
theorem pencil_p (p : PcS) (h : p.Ok) (hn : p.c.length ≤ 1048576) : CallP Tryz.prog 39 [.agg (pcC p)] (penT (penOf p)) := by
  obtain ⟨h1, h2, h3, h4, h5⟩ := h
  refine CallP.intro2 au_pu au_pu ?_
  refine CallT.intro tab_ok Tryz.func39 rfl (by kernel_rfl) (Nat.le_of_ble_eq_true rfl) ?_
  refine VC.reg tab_ok [1] rfl ?_
  refine VX.newI rfl rfl ?_
  refine VX.new rfl rfl ?_
  refine VX.nil ?_
  refine VC.reg tab_ok [] rfl ?_
  refine VX.callP0 rfl rfl rfl (newPen_p) ?_
  refine VX.new rfl rfl ?_
  refine VX.store rfl rfl rfl rfl rfl au_sS rfl ?_
  refine VX.nil ?_
  refine VC.view ([(2, .ptr 0 0), (3, .ptr 1 0)]) ([.c [I64 0, U8 0, U8 0, U8 0, .v (.int .u32 0), I64 0, I64 0, BL false, NIL], .c [I64 3, U8 255, U8 0, U8 1, .v (.int .u32 0), I64 0, I64 0, BL false, .islc [] 0 none]]) [1] rfl (by refine ⟨[some 0, some 1], rfl, by first | trivial | decide, rfl, ?_, ?_⟩ <;> (repeat' first | exact trivial | exact CvB_n | exact CvB_d | refine CvE_app ?_ ?_ | refine CvE_cons rfl ?_ ?_ | refine CvH_cons ?_ ?_ | refine CvB_c rfl ?_ | fail) <;> first | exact au_v | (exact CvL.eq rfl rfl)) ?_
  refine VC.drwS tab_ok [] [_, _, _, _, _, _, _, _, _, _, _, _, _, _, _, _, _, _, _, _, _, _] (_) rfl (by kernel_rfl) (by kernel_rfl) (by kernel_rfl) (seen_kill (b := 1) (seen_refl _) (by simp)) ?_
  refine VS.seg (l1 := [_, _, _, _, _, _, _, _, _, _, _, _, _, _, _]) rfl ?_
  refine VX.meek rfl ?_
  first | refine VX.meek rfl ?_ | refine VX.loadI rfl rfl au_l ?_ | refine VX.loadP rfl rfl rfl au_l ?_
  refine VX.remU rfl rfl (by omega) (by omega) ?_
  refine VX.meek (t := I64 (p.f % 16)) (by show some (T.v (.int .i64 (IntKind.i64.wrap (p.f % 16))), (none : Option (Nat × List T))) = _; rw [wrap_in (by omega)]) ?_
  refine VX.meek rfl ?_
  first | refine VX.meek rfl ?_ | refine VX.loadI rfl rfl au_l ?_ | refine VX.loadP rfl rfl rfl au_l ?_
  refine VX.meek rfl ?_
  first | refine VX.meek rfl ?_ | refine VX.loadI rfl rfl au_l ?_ | refine VX.loadP rfl rfl rfl au_l ?_
  refine VX.meek (t := I64 p.x) (by show some (T.v (.int .i64 (IntKind.i64.wrap p.x)), (none : Option (Nat × List T))) = _; rw [wrap_in (by omega)]) ?_
  refine VX.meek rfl ?_
  first | refine VX.meek rfl ?_ | refine VX.loadI rfl rfl au_l ?_ | refine VX.loadP rfl rfl rfl au_l ?_
  refine VX.meek (t := I64 p.y) (by show some (T.v (.int .i64 (IntKind.i64.wrap p.y)), (none : Option (Nat × List T))) = _; rw [wrap_in (by omega)]) ?_
  refine VX.meek rfl ?_
  first | refine VX.meek rfl ?_ | refine VX.loadI rfl rfl au_l ?_ | refine VX.loadP rfl rfl rfl au_l ?_
  refine VX.meek rfl ?_
  refine VX.nil ?_
  refine VS.sto rfl rfl rfl rfl ?_
  refine VS.seg (l1 := [_]) rfl ?_
  refine VX.meek rfl ?_
  refine VX.nil ?_
  refine VS.sto rfl rfl rfl rfl ?_
  refine VS.seg (l1 := [_]) rfl ?_
  refine VX.meek rfl ?_
  refine VX.nil ?_
  refine VS.sto rfl rfl rfl rfl ?_
  refine VS.seg (l1 := [_]) rfl ?_
  refine VX.meek rfl ?_
  refine VX.nil ?_
  refine VS.sto rfl rfl rfl rfl ?_
  refine VS.nil (⟨rfl, Nat.le_of_ble_eq_true rfl, rfl, ⟨rfl, Nat.le_of_ble_eq_true rfl, rfl, ⟨rfl, Nat.le_of_ble_eq_true rfl, rfl, ⟨rfl, Nat.le_of_ble_eq_true rfl, rfl, trivial⟩⟩⟩⟩) ?_
  refine VX.meek rfl ?_
  refine VX.store rfl rfl rfl rfl rfl au_sS rfl ?_
  refine VX.nil ?_
  refine VC.seq ?_
  refine VC.reg tab_ok [] rfl ?_
  refine VX.meek rfl ?_
  first | refine VX.meek rfl ?_ | refine VX.loadI rfl rfl au_l ?_ | refine VX.loadP rfl rfl rfl au_l ?_
  refine VX.nil ?_
  refine VC.cond rfl (fun hc0 => ?_) (fun hc0 => ?_)
  · (try simp only [au_std] at hc0); have hp : penT (penOf p) = .agg [I64 (p.f % 16), U8 p.pl, U8 0, U8 1, .v (.int .u32 0), I64 p.x, I64 p.y, BL p.cl, .islc (encL cR (p.c.map smR)) (p.c.map smR).length none] := (by unfold penOf; rw [if_pos hc0]); rw [hp]
    refine VC.regN tab_ok [] rfl ?_
    refine VX.meek rfl ?_
    first | refine VX.meek rfl ?_ | refine VX.loadI rfl rfl au_l ?_ | refine VX.loadP rfl rfl rfl au_l ?_
    refine VX.callP0 rfl rfl rfl (rects17_p p.c hn h5) ?_
    refine VX.meek rfl ?_
    refine VX.store rfl rfl rfl rfl rfl au_sS rfl ?_
    refine VX.nil ?_
    refine VC.reg tab_ok [] rfl ?_
    first | refine VX.meek rfl ?_ | refine VX.loadI rfl rfl au_l ?_ | refine VX.loadP rfl rfl rfl au_l ?_
    refine VX.store rfl rfl rfl rfl rfl au_sS rfl ?_
    refine VX.nil ?_
    refine VC.ret ?_
    exact ⟨trivial, _, rfl, Cv.eq rfl (by first | rfl | (simp only [T.pure, T.pureL, encL_pure]; rfl))⟩
  · (try simp only [au_std] at hc0); have hp : penT (penOf p) = .agg [I64 (p.f % 16), U8 p.pl, U8 0, U8 1, .v (.int .u32 0), I64 p.x, I64 p.y, BL p.cl, .islc [] 0 none] := (by unfold penOf; rw [if_neg (by rw [hc0]; decide)]; rfl); rw [hp]
    refine VC.skip ?_
    refine VC.reg tab_ok [] rfl ?_
    first | refine VX.meek rfl ?_ | refine VX.loadI rfl rfl au_l ?_ | refine VX.loadP rfl rfl rfl au_l ?_
    refine VX.store rfl rfl rfl rfl rfl au_sS rfl ?_
    refine VX.nil ?_
    refine VC.ret ?_
    exact ⟨trivial, _, rfl, Cv.eq rfl (by first | rfl | (simp only [T.pure, T.pureL, encL_pure]; rfl))⟩
structure AllS where
  sw : Nat
  sh : Nat
  sP : List Int
  dw : Nat
  dh : Nat
  dP : List Int
  fr : List Rect
  clip : List Rect
  s : Rect
  x : Int
  y : Int
  p : PcS
def AllS.Ok (a : AllS) : Prop := (a.sw < 256 ∧ a.sh < 256 ∧ ∀ v ∈ a.sP, 0 ≤ v ∧ v < 256) ∧ (a.dw < 256 ∧ a.dh < 256 ∧ ∀ v ∈ a.dP, 0 ≤ v ∧ v < 256) ∧ (∀ s ∈ a.fr, smOk s) ∧ (∀ s ∈ a.clip, smOk s) ∧ smOk a.s ∧ (-128 ≤ a.x ∧ a.x ≤ 127) ∧ (-128 ≤ a.y ∧ a.y ≤ 127) ∧ a.p.Ok
theorem smR_in {l : List Rect} (hl : ∀ s ∈ l, smOk s) (x y : Int) : inL ((l.map smR).filter countsB) x y ↔ inL (l.map smR) x y := by
  constructor
  · rintro ⟨r, h1, h2⟩; exact ⟨r, (List.mem_filter.1 h1).1, h2⟩
  · rintro ⟨r, h1, h2⟩
    refine ⟨r, List.mem_filter.2 ⟨h1, ?_⟩, h2⟩
    obtain ⟨s, hs, rfl⟩ := List.mem_map.1 h1
    have := small_bd (hl s hs)
    unfold Rect.has at h2
    unfold countsB fitsB
    simp only [Bool.and_eq_true, decide_eq_true_eq]; omega
theorem smR_rI {s : Rect} (h : smOk s) : rI (smR s) := by
  have := small_bd h
  unfold rI i64; omega
theorem smRs_rI {l : List Rect} (hl : ∀ s ∈ l, smOk s) : ∀ r ∈ l.map smR, rI r := fun r hr => by
  obtain ⟨s, hs, rfl⟩ := List.mem_map.1 hr
  exact smR_rI (hl s hs)
theorem atG_bd {w h : Nat} {px : List Int} (hb : ∀ v ∈ px, 0 ≤ v ∧ v < 256) (x y : Int) : 0 ≤ atG w h px x y ∧ atG w h px x y < 256 := by
  unfold atG; split
  · exact bang_bd hb _
  · exact ⟨by decide, by decide⟩
end
section
open Go.RowKit Go.Sort
set_option maxRecDepth 10000
theorem inL_filter1 {l : List Rect} {x y : Int} : inL (l.filter countsB) x y ↔ ∃ r ∈ l, countsB r = true ∧ r.has x y := by
  unfold inL; simp only [List.mem_filter]
  constructor
  · rintro ⟨r, ⟨h1, h2⟩, h3⟩; exact ⟨r, h1, h2, h3⟩
  · rintro ⟨r, h1, h2, h3⟩; exact ⟨r, ⟨h1, h2⟩, h3⟩
theorem one_in {r : Rect} {x y : Int} : inL ([r].filter countsB) x y ↔ countsB r = true ∧ r.has x y := by
  rw [inL_filter1]
  constructor
  · rintro ⟨q, h1, h2⟩; rw [List.mem_singleton] at h1; subst h1; exact h2
  · intro h; exact ⟨r, List.mem_singleton.2 rfl, h⟩
theorem opL_sub {n m : Nat} {a b : List Rect} (ha : Reg n a) (hb : Reg m b) {x y : Int} : inL (opL subB a b) x y ↔ inL a x y ∧ ¬ inL b x y := by
  rw [opL_in (k := subB) rfl ha.1 hb.1 ha.2 hb.2 x y]
  unfold subB
  simp
theorem areaV_in {n m : Nat} {fr clip : List Rect} (hf : Reg n fr) (hc : Reg m clip) (s : Rect) (x y : Int) (sw sh w h : Nat) (a b : Int) : inL (areaV fr clip s x y sw sh w h) a b ↔ inL (wantR clip (toR s x y) w h) a b ∧ inL (thereR fr s sw sh x y) a b :=
  opL_and (want_reg hc _ w h) (there_reg hf s sw sh x y)
theorem areaM_in {n m : Nat} {fr clip : List Rect} (hf : Reg n fr) (hc : Reg m clip) (s : Rect) (x y : Int) (sw sh w h : Nat) (a b : Int) : inL (areaM fr clip s x y sw sh w h) a b ↔ noneB s x y = false ∧ inL (wantR clip (toR s x y) w h) a b ∧ ¬ inL (thereR fr s sw sh x y) a b := by
  unfold areaM
  split
  · rename_i h0
    exact ⟨fun k => absurd k inL_nil, fun k => by rw [h0] at k; exact absurd k.1 (by decide)⟩
  · rename_i h0
    rw [opL_sub (want_reg hc _ w h) (there_reg hf s sw sh x y)]
    exact ⟨fun k => ⟨by simpa using h0, k⟩, fun k => k.2⟩
theorem areaM_reg {n m : Nat} {fr clip : List Rect} (hf : Reg n fr) (hc : Reg m clip) (s : Rect) (x y : Int) (sw sh w h : Nat) : Reg (n + m + 10) (areaM fr clip s x y sw sh w h) := by
  unfold areaM
  split
  · exact Reg.nil.mono (Nat.zero_le _)
  · exact (opL_reg (k := subB) rfl (want_reg hc _ w h) (there_reg hf s sw sh x y)).mono (by omega)

end
end Go.Proofs.YtelhkfdpkjkpjaaGreat
