/-
  The proof's lemmas, part 4.
-/
import Derived.Test.YtofmninnienjhaaGreatDoorEdmc
namespace Go.Proofs.YtofmninnienjhaaGreatDoor
set_option linter.unusedSimpArgs false
set_option linter.unusedVariables false
section
open Go.RowKit
set_option maxRecDepth 100000
set_option maxHeartbeats 1000000
section
variable {P : Program}
theorem CallT.out [Dr] {f : FuncId} {args : List T} {H : Hp} {Q : T → Hp → Prop}
    (h : CallT P f args H (fun t H' => ∃ r H2 ρ, Q r H2 ∧ injB ρ = true ∧ lbOk H.length 0 ρ ∧ noO H2 = true ∧ Cv (vwL H' ρ) t r ∧ CvH (vwL H' ρ) H' ρ H2)) : CallT P f args H Q := by
  refine ⟨h.1, fun X0 M us hS hrep => (h.2 X0 M us hS hrep).mono ?_⟩
  rintro e w' ⟨u, t, H', M', rfl, rfl, ⟨r, H2, ρ, hq, hi, hl, hO, hc, hH⟩, h4, h5, h6⟩
  obtain ⟨k1, k2, k3⟩ := view_ok h5 hi hO hH
  refine ⟨u, r, H2, viewM M' X0 H2 ρ, rfl, rfl, hq, ⟨fun b p hp => ?_, fun B hB hx h => h4.nox B hB hx (k3 B h), h4.keep, h4.shape, h4.os, h4.tape, h4.output, h4.size⟩, k2, hc.rep k1 u h6⟩
  rcases Nat.lt_or_ge b H.length with hb | hb
  · have h7 := lbOk_at hl b hb
    rw [Nat.zero_add] at h7
    exact (k1.r b b h7).trans (h4.at_ b p hp)
  · have := hS.dom b (by omega)
    rw [this] at hp; cases hp
end
section
variable {P : Program}
theorem setH_self : ∀ (H : Hp) (b : Nat), b < H.length → setH H b (blkH H b) = H
  | [], b, h => by simp at h
  | x :: H, 0, _ => rfl
  | x :: H, b + 1, h => congrArg (List.cons x) (setH_self H b (by simpa using h))
structure LookT [Dr] (P : Program) (f : FuncId) (args : List T) (r : T) (cs : List T) : Prop where
  pc : T.pureL cs = true
  pa : T.pureL args = true
  pr : r.pure = true
  ct : CallT P f (.ptr 0 0 :: args) [.c cs] (fun t H' => t = r ∧ H' = [.c cs])
theorem LookT.at [Dr] {f : FuncId} {args : List T} {r : T} {cs : List T} (h : LookT P f args r cs) {G : Hp} {b : Nat} (hb : lookH G b = some cs) : CallT P f (.ptr b 0 :: args) G (fun t H' => t = r ∧ H' = G) := by
  refine CallT.frame h.ct [b] rfl (CvIn_cons hb (CvL.pure h.pc) CvIn_nil) (CvL.cons (Cv.ptr rfl) (CvL.pure h.pa)) ?_
  rintro t Hl' ⟨rfl, rfl⟩
  refine frK (Cv.pure h.pr) (CvOut_c (CvL.pure h.pc) CvOut_nil) ⟨rfl, ?_⟩
  show setH G b (.c cs) ++ [] = G
  have h1 := lookH_c.1 hb
  rw [List.append_nil, ← h1, setH_self G b (lookH_lt hb)]
theorem LookT.of_p [Dr] {f : FuncId} {args : List T} {r : T} {cs : List T} (h : CallP P f (.iptr cs 0 :: args) r) (hr : r.scal = true) (hp : r.pure = true) (hc : T.pureL cs = true) (ha : T.pureL args = true) : LookT P f args r cs :=
  ⟨hc, ha, hp, h.look hr (CvL.cons (Cv.fptr ⟨rfl, by simp⟩ (CvL.pure hc)) (CvL.pure ha))⟩
theorem out1 {H' : Hp} {cs cs' : List T} {t r : T} (h0 : lookH H' 0 = some cs) (hc : CvL (vwL H' [some 0]) cs cs') (ht : Cv (vwL H' [some 0]) t r) :
    ∃ r' H2 ρ, (r' = r ∧ H2 = [Blk.c cs']) ∧ injB ρ = true ∧ lbOk 1 0 ρ ∧ noO H2 = true ∧ Cv (vwL H' ρ) t r' ∧ CvH (vwL H' ρ) H' ρ H2 :=
  ⟨r, [.c cs'], [some 0], ⟨rfl, rfl⟩, rfl, ⟨rfl, trivial⟩, rfl, ht, CvH_cons (CvB_c h0 hc) trivial⟩
theorem out2n {H' : Hp} {cs cs' : List T} {z : Nat} (h0 : lookH H' 0 = some cs) (hc : CvL (vwL H' [some 0, none]) cs cs') :
    ∃ r' H2 ρ, (r' = .slc 1 0 0 z none ∧ H2 = [Blk.c cs', .c []]) ∧ injB ρ = true ∧ lbOk 1 0 ρ ∧ noO H2 = true ∧ Cv (vwL H' ρ) (.v (.slice none 0 0)) r' ∧ CvH (vwL H' ρ) H' ρ H2 :=
  ⟨_, [.c cs', .c []], [some 0, none], ⟨rfl, rfl⟩, rfl, ⟨rfl, trivial⟩, rfl, Cv.nilv rfl, CvH_cons (CvB_c h0 hc) (CvH_cons CvB_n trivial)⟩
theorem out2 {H' : Hp} {cs cs' xs xs' : List T} {b n z : Nat} {c : Option Nat} (h0 : lookH H' 0 = some cs) (h1 : lookH H' (b + 1) = some xs) (hc : CvL (vwL H' [some 0, some (b + 1)]) cs cs') (hx : CvL (vwL H' [some 0, some (b + 1)]) xs xs') :
    ∃ r' H2 ρ, (r' = .slc 1 0 n z none ∧ H2 = [Blk.c cs', .c xs']) ∧ injB ρ = true ∧ lbOk 1 0 ρ ∧ noO H2 = true ∧ Cv (vwL H' ρ) (.slc (b + 1) 0 n z c) r' ∧ CvH (vwL H' ρ) H' ρ H2 :=
  ⟨_, [.c cs', .c xs'], [some 0, some (b + 1)], ⟨rfl, rfl⟩, rfl, ⟨rfl, trivial⟩, rfl, Cv.slc rfl (.inr rfl), CvH_cons (CvB_c h0 hc) (CvH_cons (CvB_c h1 hx) trivial)⟩
end
section
variable {P : Program} {tab : Tab} {im : List Nat} {ds : List (Option Nat)} {l : List Oper} {E : Env} {H : Hp} {K : Env → Hp → Prop}
theorem VX.callO [Dr] {d : Nat} {ty : TypeId} {pos : String} {after : Array Edge} {f : Operand} {args : Array Operand} {ats : Array TypeId} {g : FuncId} {b : Nat} {us : List T} {r : T} {cs : List T} (hf : E.opd f = some (.clo g [] [])) (ha : optL E.opd args.toList = some (.ptr b 0 :: us))
    (hc : LookT P g us r cs) (hb : lookH H b = some cs) (k : VX false P tab im ds l ((d, r) :: E) H K) : VX false P tab im ds (⟨some d, .call ⟨.value f, args, ats⟩, ty, pos, after, none⟩ :: l) E H K :=
  VX.callT hf ha (by rw [List.append_nil]; exact ((hc.at hb).mono fun t H' ⟨h1, h2⟩ => by subst h1 h2; exact k))
variable {Hm F : Hp} {wd : List Bool} {ops : Array Oper}
theorem VD.lookO [Dr] {d : Nat} {ty : TypeId} {pos : String} {after : Array Edge} {f : Operand} {args : Array Operand} {ats : Array TypeId} {g : FuncId} {b : Nat} {us : List T} {r : T} {cs : List T} (hf : E.opd f = some (.clo g [] [])) (ha : optL E.opd args.toList = some (.ptr b 0 :: us))
    (hc : LookT P g us r cs) (hb : lookH Hm b = some cs) (k : VD P tab im ops Hm l wd ((d, r) :: E) F K) : VD P tab im ops Hm (⟨some d, .call ⟨.value f, args, ats⟩, ty, pos, after, none⟩ :: l) (false :: wd) E F K :=
  VD.look hf ha (fun G hs => by
    rw [List.append_nil]
    refine hc.at ?_
    have h1 := lookH_c.1 hb
    rw [lookH_c, ← hs.2 b (by rw [h1]; simp)]; exact h1) k
end
abbrev edC (e : Ed) : List T := [I64 e.c.cur, I64 e.c.anc, BL e.made, I64 e.win, I64 e.pen, I64 e.fnt, I64 e.w, I64 e.h, stT e.c.bf.past, stT e.c.bf.fut, strT e.c.bf.text, I64 e.top, I64 e.left, strT e.c.cop, I64 e.cnt, I64 e.asked]
abbrev edT (e : Ed) : T := .agg (edC e)
theorem ed_pure (e : Ed) : T.pureL (edC e) = true := by simp only [T.pureL, T.pure, encL_pure]; rfl
def cLk : Cd Lk := ⟨4, fun k => [strT k.let8, I64 k.fm, I64 k.tz, I64 k.cu], fun _ => rfl, fun _ => rfl, fun _ => rfl, by decide⟩
theorem cLk_sz : cLk.sz = 4 := rfl
abbrev lkT (k : Lk) : T := .agg [strT k.let8, I64 k.fm, I64 k.tz, I64 k.cu]
theorem rows_p (e : Ed) (h : 0 ≤ e.h ∧ e.h ≤ 1000) : CallP Tryz.prog 46 [.iptr (edC e) 0] (I64 (e.rows : Nat)) := by
  have hp := ed_pure e
  have e1 : e.h / 6 = ((e.rows : Nat) : Int) := by unfold Ed.rows; omega
  refine CallP.intro2 au_pu au_pu ?_
  refine CallT.intro tab_ok Tryz.func46 rfl (by kernel_rfl) (Nat.le_of_ble_eq_true rfl) ?_
  refine VC.reg tab_ok [] rfl ?_
  refine VX.meek rfl ?_
  refine VX.nil ?_
  refine VC.reg tab_ok [] rfl ?_
  iterate 3 refine VX.meek rfl ?_
  first | refine VX.meek rfl ?_ | refine VX.loadI rfl rfl au_l ?_ | refine VX.loadP rfl rfl rfl au_l ?_
  refine VX.quoX rfl rfl (by omega) (by omega) (by omega) ?_; rw [e1]
  refine VX.meek rfl ?_
  refine VX.nil ?_
  refine VC.ret ?_
  exact ⟨trivial, _, rfl, Cv.eq rfl rfl⟩
theorem columns_p (e : Ed) (h : 0 ≤ e.w ∧ e.w ≤ 1000) : CallP Tryz.prog 47 [.iptr (edC e) 0] (I64 (e.cols : Nat)) := by
  have hp := ed_pure e
  have e1 : e.w / 4 = ((e.cols : Nat) : Int) := by unfold Ed.cols; omega
  refine CallP.intro2 au_pu au_pu ?_
  refine CallT.intro tab_ok Tryz.func47 rfl (by kernel_rfl) (Nat.le_of_ble_eq_true rfl) ?_
  refine VC.reg tab_ok [] rfl ?_
  refine VX.meek rfl ?_
  refine VX.nil ?_
  refine VC.reg tab_ok [] rfl ?_
  iterate 3 refine VX.meek rfl ?_
  first | refine VX.meek rfl ?_ | refine VX.loadI rfl rfl au_l ?_ | refine VX.loadP rfl rfl rfl au_l ?_
  refine VX.quoX rfl rfl (by omega) (by omega) (by omega) ?_; rw [e1]
  refine VX.meek rfl ?_
  refine VX.nil ?_
  refine VC.ret ?_
  exact ⟨trivial, _, rfl, Cv.eq rfl rfl⟩
theorem span_p (e : Ec) : CallP Tryz.prog 38 [.agg [I64 e.cur, I64 e.anc]] (.tup [I64 (e.lo : Nat), I64 (e.hi : Nat)]) := by
  have e1 : min (e.cur : Int) (e.anc : Int) = ((e.lo : Nat) : Int) := by unfold Ec.lo; omega
  have e2 : max (e.cur : Int) (e.anc : Int) = ((e.hi : Nat) : Int) := by unfold Ec.hi; omega
  refine CallP.intro2 au_pu au_pu ?_
  refine CallT.intro tab_ok Tryz.func38 rfl (by kernel_rfl) (Nat.le_of_ble_eq_true rfl) ?_
  refine VC.reg tab_ok [1] rfl ?_
  refine VX.newI rfl rfl ?_
  iterate 2 refine VX.meek rfl ?_
  refine VX.nil ?_
  refine VC.drw tab_ok [] [_, _, _, _, _, _, _, _, _, _, _, _] rfl (by kernel_rfl) (by kernel_rfl) ?_
  refine VX.meek rfl ?_
  first | refine VX.meek rfl ?_ | refine VX.loadI rfl rfl au_l ?_ | refine VX.loadP rfl rfl rfl au_l ?_
  refine VX.meek rfl ?_
  first | refine VX.meek rfl ?_ | refine VX.loadI rfl rfl au_l ?_ | refine VX.loadP rfl rfl rfl au_l ?_
  refine VX.minX rfl rfl ?_; rw [e1]
  refine VX.meek rfl ?_
  first | refine VX.meek rfl ?_ | refine VX.loadI rfl rfl au_l ?_ | refine VX.loadP rfl rfl rfl au_l ?_
  refine VX.meek rfl ?_
  first | refine VX.meek rfl ?_ | refine VX.loadI rfl rfl au_l ?_ | refine VX.loadP rfl rfl rfl au_l ?_
  refine VX.maxX rfl rfl ?_; rw [e2]
  iterate 2 refine VX.meek rfl ?_
  iterate 2 refine VX.nil ?_
  refine VC.ret ?_
  exact ⟨trivial, _, rfl, Cv.eq rfl rfl⟩
theorem sight_p (a b c : Int) (ha : -100000 ≤ a ∧ a ≤ 100000) (hb : -100000 ≤ b ∧ b ≤ 100000) (hc : -100000 ≤ c ∧ c ≤ 100000) : CallP Tryz.prog 45 [I64 a, I64 b, I64 c] (I64 (sightN a b c)) := by
  unfold sightN
  refine CallP.intro2 au_pu au_pu ?_
  refine CallT.intro tab_ok Tryz.func45 rfl (by kernel_rfl) (Nat.le_of_ble_eq_true rfl) ?_
  refine VC.reg tab_ok [] rfl ?_
  refine VX.meek rfl ?_
  refine VX.nil ?_
  refine VC.seq ?_
  refine VC.reg tab_ok [] rfl ?_
  iterate 3 refine VX.meek rfl ?_
  refine VX.nil ?_
  refine VC.cond rfl (fun hc0 => ?_) (fun hc0 => ?_)
  · (try simp only [au_std] at hc0); rw [if_pos hc0]
    refine VC.reg tab_ok [] rfl ?_
    iterate 2 refine VX.meek rfl ?_
    refine VX.nil ?_
    refine VC.ret ?_
    exact ⟨trivial, _, rfl, Cv.eq rfl rfl⟩
  · (try simp only [au_std] at hc0); rw [if_neg (by omega)]
    refine VC.skip ?_
    refine VC.seq ?_
    refine VC.reg tab_ok [] rfl ?_
    iterate 2 refine VX.meek rfl ?_
    first | refine VX.sub rfl rfl (by omega) ?_ | refine VX.meek rfl ?_
    iterate 2 refine VX.meek rfl ?_
    refine VX.nil ?_
    refine VC.cond rfl (fun hc1 => ?_) (fun hc1 => ?_)
    · (try simp only [au_std] at hc1); rw [if_pos (by omega)]
      refine VC.reg tab_ok [] rfl ?_
      iterate 2 refine VX.meek rfl ?_
      first | refine VX.sub rfl rfl (by omega) ?_ | refine VX.meek rfl ?_
      first | refine VX.add rfl rfl (by omega) ?_ | refine VX.meek rfl ?_
      refine VX.meek rfl ?_
      refine VX.nil ?_
      refine VC.ret ?_
      exact ⟨trivial, _, rfl, Cv.eq rfl rfl⟩
    · (try simp only [au_std] at hc1); rw [if_neg (by omega)]
      refine VC.skip ?_
      refine VC.reg tab_ok [] rfl ?_
      iterate 2 refine VX.meek rfl ?_
      refine VX.nil ?_
      refine VC.ret ?_
      exact ⟨trivial, _, rfl, Cv.eq rfl rfl⟩
theorem both_t (e : Ed) (k : Nat) : CallT Tryz.prog 82 [.ptr 0 0, I64 k] [.c (edC e)] (fun t H' => t = .tup [] ∧ H' = [.c (edC { e with c := { e.c with cur := k, anc := k } })]) := by
  refine CallT.intro tab_ok Tryz.func82 rfl (by kernel_rfl) (Nat.le_of_ble_eq_true rfl) ?_
  refine VC.regN tab_ok [] rfl ?_
  iterate 6 refine VX.meek rfl ?_
  refine VX.store rfl rfl rfl rfl rfl au_s rfl ?_
  iterate 2 refine VX.meek rfl ?_
  refine VX.store rfl rfl rfl rfl rfl au_s rfl ?_
  refine VX.nil ?_
  exact ⟨trivial, _, rfl, rfl, rfl⟩
section
variable {P : Program} {tab : Tab} {im : List Nat} {ds : List (Option Nat)} {l : List Oper} {E : Env} {H : Hp} {K : Env → Hp → Prop} {ty : TypeId} {pos : String} {after : Array Edge}
theorem VX.copyStr [Dr] {d : Option Nat} {x y : Operand} {t1 t2 : TypeId} {e b n : Nat} {i j i2 : TyI} {c : Option Nat} {xs s : List UInt8} (hT : tab t1 = some i) (hk : i.k = .sl e) (hj : tab e = some j) (hz : j.sz = 1) (hT2 : tab t2 = some i2) (hk2 : i2.k = .str) (hx : E.opd x = some (.slc b 0 n 1 c)) (hy : E.opd y = some (strT s))
    (hc : lookH H b = some (encL cY xs)) (hn : xs.length = n) (k : VX false P tab im ds l (putC E d (I64 (min s.length n : Nat))) (setH H b (.c (encL cY (s.take n ++ xs.drop s.length)))) K) : VX false P tab im ds (⟨d, .call ⟨.builtin .copy, #[x, y], #[t1, t2]⟩, ty, pos, after, none⟩ :: l) E H K := by
  refine VX.copy hx hy (r := I64 (min s.length n : Nat)) (H' := setH H b (.c (encL cY (s.take n ++ xs.drop s.length)))) ?_ k
  subst hn
  have hs : srcCells tab (lookH H) t2 j.sz (strT s) = some (encL cY s, s.length) := by
    simp only [srcCells, hT2, hk2, hz, if_true]
    rw [show (s.toArray.toList.map fun c => T.v (.int .u8 (c.toNat : Int))) = encL cY s from (bytL_Y ⟨s.toArray⟩).symm ▸ rfl]
    rfl
  simp only [mCopy, hT, hk, hj, hs, hc]
  have hlen : ∀ l : List UInt8, (encL cY l).length = l.length := fun l => by rw [encL_len, cY_sz, Nat.mul_one]
  rw [if_pos ⟨hz.symm, by rw [hlen]; omega, by rw [hlen, hz]; omega, encL_cb _ _⟩]
  congr 4
  have h1 : (encL cY s).take (min s.length xs.length * 1) = encL cY (s.take xs.length) := by
    have := encL_take cY s (min s.length xs.length)
    rw [cY_sz] at this
    rw [this, Nat.min_comm, ← List.take_take, List.take_length]
  have h2 : (encL cY xs).drop (min s.length xs.length) = encL cY (xs.drop s.length) := by
    have := encL_drop cY xs (min s.length xs.length)
    rw [cY_sz, Nat.mul_one] at this
    rw [this]
    rcases Nat.le_total s.length xs.length with h | h
    · rw [Nat.min_eq_left h]
    · rw [Nat.min_eq_right h, List.drop_length, List.drop_eq_nil_of_le h]
  rw [h1]
  unfold putL
  rw [List.take_zero, List.nil_append, hlen, List.length_take, Nat.zero_add, Nat.min_comm, h2, encL_append]
end
def blz (n i : Nat) : List UInt8 := List.replicate i 32 ++ List.replicate (n - i) 0
theorem blz_len {n i : Nat} (h : i ≤ n) : (blz n i).length = n := by unfold blz; rw [List.length_append, List.length_replicate, List.length_replicate]; omega
theorem blz_set {n i : Nat} (h : i < n) : (blz n i).set i 32 = blz n (i + 1) := by
  unfold blz
  rw [show n - i = (n - (i + 1)) + 1 by omega, List.replicate_succ, List.set_append_right _ _ (by rw [List.length_replicate]; exact Nat.le_refl _), List.length_replicate, Nat.sub_self, List.set_cons_zero, List.replicate_succ', List.append_assoc]
  rfl
theorem blz_zeros (n : Nat) : zeros n [U8 0] = encL cY (blz n 0) := by
  unfold blz
  rw [List.replicate_zero, List.nil_append, Nat.sub_zero]
  induction n with
  | zero => rfl
  | succ n ih => simp only [zeros, encL, List.replicate_succ, List.flatMap_cons] at ih ⊢; rw [ih]; rfl
theorem blz_all (n : Nat) : blz n n = List.replicate n 32 := by unfold blz; rw [Nat.sub_self, List.replicate_zero, List.append_nil]
theorem padN_nil (n : Nat) : padN [] n = List.replicate n 32 := by unfold padN; simp
theorem padN_cpy (s : List UInt8) (n : Nat) : s.take n ++ (List.replicate n 32).drop s.length = padN s n := by unfold padN; rw [List.drop_replicate]
theorem look_p (e : Ed) (y : Nat) (hs : 4 ≤ e.w ∧ e.w ≤ 128 ∧ 6 ≤ e.h ∧ e.h ≤ 128) (ht : e.c.bf.text.length ≤ 4096) (hc : e.c.cur ≤ e.c.bf.text.length ∧ e.c.anc ≤ e.c.bf.text.length) (hsi : 0 ≤ e.top ∧ e.top ≤ 4096 ∧ 0 ≤ e.left ∧ e.left ≤ 4096) (hy : y ≤ 100) :
    CallP Tryz.prog 74 [.iptr (edC e) 0, I64 y] (lkT (e.look y)) := by
  have hp := ed_pure e
  have hcol := columns_p e (by omega)
  have hli := lines_p e.c.bf ht
  have hln := line_p e.c.bf (e.top + y) ht (by omega)
  have hpl := place_p e.c.bf (e.top + y) 0 ht (by omega) (by omega)
  have hple := placeN_le e.c.bf.text (e.top + y) 0
  have hsp := span_p e.c
  have hst := spot_p e.c.bf e.c.cur ht hc.1
  have hsl := spotN_le e.c.bf.text e.c.cur
  have hlo : e.c.lo ≤ e.c.bf.text.length := by unfold Ec.lo; omega
  have hhi : e.c.hi ≤ e.c.bf.text.length := by unfold Ec.hi; omega
  have hll : (lineN e.c.bf.text (e.top + y)).length ≤ e.c.bf.text.length := by unfold lineN; split; exact Nat.zero_le _; rw [List.length_drop, List.length_take]; omega
  have hcn : e.cols ≤ 32 := by unfold Ed.cols; omega
  unfold Ed.look
  dsimp only
  generalize lineN e.c.bf.text (e.top + y) = s at *
  generalize placeN e.c.bf.text (e.top + y) 0 = b0 at *
  generalize spotN e.c.bf.text e.c.cur = sp at *
  refine CallP.intro2 au_pu au_pu ?_
  refine CallT.intro tab_ok Tryz.func74 rfl (by kernel_rfl) (Nat.le_of_ble_eq_true rfl) ?_
  refine VC.reg tab_ok [] rfl ?_
  refine VX.new rfl rfl ?_
  refine VX.nil ?_
  refine VC.reg tab_ok [] rfl ?_
  refine VX.meek rfl ?_
  refine VX.callP0 rfl rfl rfl (hcol) ?_
  refine VX.meek rfl ?_
  refine VX.nil ?_
  refine VC.reg tab_ok [] rfl ?_
  refine VX.meek rfl ?_
  refine VX.mkS (a := e.cols) (b := e.cols) rfl rfl rfl rfl rfl rfl rfl rfl (Nat.le_refl _) (by omega) (by dsimp only; omega) ?_
  refine VX.meek rfl ?_
  refine VX.nil ?_
  refine VC.seq ?_
  refine VC.reg tab_ok [] rfl ?_
  iterate 3 refine VX.meek rfl ?_
  refine VX.nil ?_
  refine VC.block ?_
  refine VC.loopS (σ := Nat) (fun i => e.cols - i) (fun i => i ≤ e.cols) (fun i => [(24, I64 (i : Nat)), (6, .slc 1 0 e.cols 1 (some e.cols)), (4, .ptr 0 0)]) (fun i => [.c [strT [], I64 0, I64 0, I64 0], .c (encL cY (blz e.cols i))]) [0, 1, 5, 23] rfl (0) ?_ ?_ ?_
  · refine ⟨[some 0, some 1], rfl, by first | trivial | decide, by first | rfl | (simp only [noO, Bool.and_true, Bool.and_eq_true]; first | assumption | (refine ⟨?_, ?_⟩ <;> assumption)) | (simp only [noO, *, Bool.and_true, Bool.true_and, Bool.and_self]; done), ?_, ?_⟩ <;> (repeat' first | exact trivial | exact CvB_n | exact CvB_d | exact CvB_o rfl | refine CvE_app ?_ ?_ | refine CvE_cons rfl ?_ ?_ | refine CvH_cons ?_ ?_ | refine CvB_c rfl ?_ | fail) <;> first | exact au_v | (first | exact CvL.pure hp | exact CvL.pure rfl | exact CvL.eq (blz_zeros _) (encL_pure cY _))
  · (try dsimp only); omega
  rintro i hi
  refine VC.reg tab_ok [] rfl ?_
  refine VX.meek rfl ?_
  refine VX.nil ?_
  refine VC.seq ?_
  refine VC.cond rfl (fun hc0 => ?_) (fun hc0 => ?_)
  · (try simp only [au_std] at hc0); have hil : i < e.cols := (by omega); have hbl := blz_len (n := e.cols) (i := i) (by omega)
    refine VC.skip ?_
    refine VC.seq ?_
    refine VC.block ?_
    refine VC.reg tab_ok [] rfl ?_
    iterate 2 refine VX.meek rfl ?_
    refine VX.nil ?_
    refine VC.regN tab_ok [] rfl ?_
    iterate 2 refine VX.meek rfl ?_
    refine VX.idxO0 (m := i) rfl rfl rfl rfl rfl rfl rfl hil ?_
    refine VX.store rfl rfl rfl rfl rfl (by rw [encL_len, cY_sz]; (try dsimp only); omega) rfl ?_
    refine VX.nil ?_
    refine VC.regN tab_ok [] rfl ?_
    first | refine VX.add rfl rfl (by omega) ?_ | refine VX.meek rfl ?_
    refine VX.meek rfl ?_
    refine VX.nil ?_
    refine ⟨i + 1, by (try dsimp only); omega, ?_, (by refine ⟨[some 0, some 1], rfl, by first | trivial | decide, by first | rfl | (simp only [noO, Bool.and_true, Bool.and_eq_true]; first | assumption | (refine ⟨?_, ?_⟩ <;> assumption)) | (simp only [noO, *, Bool.and_true, Bool.true_and, Bool.and_self]; done), ?_, ?_⟩ <;> (repeat' first | exact trivial | exact CvB_n | exact CvB_d | exact CvB_o rfl | refine CvE_app ?_ ?_ | refine CvE_cons rfl ?_ ?_ | refine CvH_cons ?_ ?_ | refine CvB_c rfl ?_ | fail) <;> first | exact au_v | (first | exact CvL.pure hp | exact CvL.pure rfl | exact CvL.eq ((cells_putY (v := 32) (by omega)).trans (congrArg (encL cY) (blz_set hil))) (encL_pure cY _)))⟩
    (try dsimp only); omega
  · (try simp only [au_std] at hc0); obtain rfl : i = e.cols := (by omega); rw [blz_all]
    refine VC.exit ?_
    refine VC.reg tab_ok [] rfl ?_
    iterate 3 refine VX.meek rfl ?_
    first | refine VX.meek rfl ?_ | refine VX.loadI rfl rfl au_l ?_ | refine VX.loadP rfl rfl rfl au_l ?_
    refine VX.meek rfl ?_
    first | refine VX.add rfl rfl (by omega) ?_ | refine VX.meek rfl ?_
    refine VX.meek rfl ?_
    refine VX.nil ?_
    refine VC.seq ?_
    refine VC.reg tab_ok [] rfl ?_
    iterate 4 refine VX.meek rfl ?_
    first | refine VX.meek rfl ?_ | refine VX.loadI rfl rfl au_l ?_ | refine VX.loadP rfl rfl rfl au_l ?_
    refine VX.callP0 rfl rfl rfl (hli) ?_
    refine VX.meek rfl ?_
    refine VX.nil ?_
    refine VC.cond rfl (fun hc1 => ?_) (fun hc1 => ?_)
    · (try simp only [au_std] at hc1); rw [if_pos (by omega)]
      refine VC.reg tab_ok [] rfl ?_
      refine VX.meek rfl ?_
      refine VX.strY (xs := List.replicate e.cols 32) rfl rfl rfl rfl rfl rfl rfl rfl (by rw [encL_len, cY_sz, List.length_replicate]; omega) (by rw [List.drop_zero, List.take_of_length_le (by rw [encL_len, cY_sz, List.length_replicate]; omega)]) ?_
      refine VX.meek rfl ?_
      refine VX.store rfl rfl rfl rfl rfl au_s rfl ?_
      refine VX.nil ?_
      refine VC.ret ?_
      exact ⟨trivial, _, rfl, Cv.eq (by rw [padN_nil]; rfl) rfl⟩
    · (try simp only [au_std] at hc1); rw [if_neg (by omega)]
      refine VC.skip ?_
      refine VC.reg tab_ok [] rfl ?_
      iterate 3 refine VX.meek rfl ?_
      first | refine VX.meek rfl ?_ | refine VX.loadI rfl rfl au_l ?_ | refine VX.loadP rfl rfl rfl au_l ?_
      refine VX.meek rfl ?_
      refine VX.callP0 rfl rfl rfl (hln) ?_
      refine VX.meek rfl ?_
      refine VX.nil ?_
      refine VC.seq ?_
      refine VC.reg tab_ok [] rfl ?_
      iterate 3 refine VX.meek rfl ?_
      first | refine VX.meek rfl ?_ | refine VX.loadI rfl rfl au_l ?_ | refine VX.loadP rfl rfl rfl au_l ?_
      refine VX.meek rfl ?_
      refine VX.meek (t := I64 (s.length : Nat)) rfl ?_
      refine VX.meek rfl ?_
      refine VX.nil ?_
      refine VC.cond rfl (fun hc2 => ?_) (fun hc2 => ?_)
      · (try simp only [au_std] at hc2); have ex : padN (s.drop e.left.toNat) e.cols = (s.drop e.left.toNat).take e.cols ++ (List.replicate e.cols 32).drop (s.drop e.left.toNat).length := (padN_cpy _ _).symm
        refine VC.regN tab_ok [] rfl ?_
        iterate 5 refine VX.meek rfl ?_
        first | refine VX.meek rfl ?_ | refine VX.loadI rfl rfl au_l ?_ | refine VX.loadP rfl rfl rfl au_l ?_
        refine VX.strTl (p := e.left.toNat) rfl rfl rfl rfl (by omega) (by omega) ?_
        refine VX.copyStr (xs := List.replicate e.cols 32) rfl rfl rfl rfl rfl rfl rfl rfl rfl (List.length_replicate ..) ?_; rw [← ex]
        refine VX.nil ?_
        refine VC.reg tab_ok [] rfl ?_
        refine VX.meek rfl ?_
        refine VX.strY (xs := padN (s.drop e.left.toNat) e.cols) rfl rfl rfl rfl rfl rfl rfl rfl (by rw [encL_len, cY_sz, padN_len]; omega) (by rw [List.drop_zero, List.take_of_length_le (by rw [encL_len, cY_sz, padN_len]; omega)]) ?_
        refine VX.meek rfl ?_
        refine VX.new rfl rfl ?_
        refine VX.store rfl rfl rfl rfl rfl au_s rfl ?_
        refine VX.nil ?_
        refine VC.reg tab_ok [] rfl ?_
        iterate 3 refine VX.meek rfl ?_
        first | refine VX.meek rfl ?_ | refine VX.loadI rfl rfl au_l ?_ | refine VX.loadP rfl rfl rfl au_l ?_
        refine VX.meek rfl ?_
        refine VX.callP0 rfl rfl rfl (hpl) ?_
        refine VX.meek rfl ?_
        refine VX.nil ?_
        refine VC.reg tab_ok [] rfl ?_
        iterate 3 refine VX.meek rfl ?_
        first | refine VX.meek rfl ?_ | refine VX.loadI rfl rfl au_l ?_ | refine VX.loadP rfl rfl rfl au_l ?_
        refine VX.callP0 rfl rfl rfl (hsp) ?_
        iterate 5 refine VX.meek rfl ?_
        refine VX.nil ?_
        refine VC.reg tab_ok [] rfl ?_
        iterate 2 refine VX.meek rfl ?_
        first | refine VX.sub rfl rfl (by omega) ?_ | refine VX.meek rfl ?_
        first | refine VX.maxX rfl rfl ?_ | refine VX.meek rfl ?_
        iterate 3 refine VX.meek rfl ?_
        first | refine VX.meek rfl ?_ | refine VX.loadI rfl rfl au_l ?_ | refine VX.loadP rfl rfl rfl au_l ?_
        first | refine VX.sub rfl rfl (by omega) ?_ | refine VX.meek rfl ?_
        refine VX.meek rfl ?_
        refine VX.nil ?_
        refine VC.reg tab_ok [] rfl ?_
        iterate 2 refine VX.meek rfl ?_
        first | refine VX.sub rfl rfl (by omega) ?_ | refine VX.meek rfl ?_
        refine VX.meek rfl ?_
        refine VX.meek (t := I64 (s.length : Nat)) rfl ?_
        first | refine VX.add rfl rfl (by omega) ?_ | refine VX.meek rfl ?_
        first | refine VX.minX rfl rfl ?_ | refine VX.meek rfl ?_
        iterate 3 refine VX.meek rfl ?_
        first | refine VX.meek rfl ?_ | refine VX.loadI rfl rfl au_l ?_ | refine VX.loadP rfl rfl rfl au_l ?_
        first | refine VX.sub rfl rfl (by omega) ?_ | refine VX.meek rfl ?_
        refine VX.meek rfl ?_
        refine VX.nil ?_
        refine VC.reg tab_ok [] rfl ?_
        refine VX.meek rfl ?_
        first | refine VX.maxX rfl rfl ?_ | refine VX.meek rfl ?_
        iterate 2 refine VX.meek rfl ?_
        first | refine VX.minX rfl rfl ?_ | refine VX.meek rfl ?_
        iterate 2 refine VX.meek rfl ?_
        refine VX.nil ?_
        refine VC.seq ?_
        refine VC.reg tab_ok [] rfl ?_
        iterate 3 refine VX.meek rfl ?_
        refine VX.nil ?_
        refine VC.cond rfl (fun hc3 => ?_) (fun hc3 => ?_)
        · (try simp only [au_std] at hc3); rw [if_pos hc3, if_pos hc3]
          refine VC.regN tab_ok [] rfl ?_
          iterate 3 refine VX.meek rfl ?_
          refine VX.store rfl rfl rfl rfl rfl au_s rfl ?_
          refine VX.meek rfl ?_
          refine VX.store rfl rfl rfl rfl rfl au_s rfl ?_
          refine VX.nil ?_
          refine VC.seq ?_
          refine VC.drw tab_ok [] [_, _, _, _, _, _, _, _, _, _, _, _, _, _, _] rfl (by kernel_rfl) (by kernel_rfl) ?_
          iterate 3 refine VX.meek rfl ?_
          first | refine VX.meek rfl ?_ | refine VX.loadI rfl rfl au_l ?_ | refine VX.loadP rfl rfl rfl au_l ?_
          iterate 4 refine VX.meek rfl ?_
          first | refine VX.meek rfl ?_ | refine VX.loadI rfl rfl au_l ?_ | refine VX.loadP rfl rfl rfl au_l ?_
          refine VX.callP0 rfl rfl rfl (hst) ?_
          iterate 5 refine VX.meek rfl ?_
          iterate 2 refine VX.nil ?_
          refine VC.reg tab_ok [] rfl ?_
          iterate 3 refine VX.meek rfl ?_
          refine VX.nil ?_
          refine VC.cond rfl (fun hc4 => ?_) (fun hc4 => ?_)
          · (try simp only [au_std] at hc4); rw [if_pos hc4]
            refine VC.regN tab_ok [] rfl ?_
            iterate 4 refine VX.meek rfl ?_
            first | refine VX.meek rfl ?_ | refine VX.loadI rfl rfl au_l ?_ | refine VX.loadP rfl rfl rfl au_l ?_
            first | refine VX.sub rfl rfl (by omega) ?_ | refine VX.meek rfl ?_
            refine VX.meek rfl ?_
            refine VX.store rfl rfl rfl rfl rfl au_s rfl ?_
            refine VX.nil ?_
            refine VC.reg tab_ok [] rfl ?_
            first | refine VX.meek rfl ?_ | refine VX.loadI rfl rfl au_l ?_ | refine VX.loadP rfl rfl rfl au_l ?_
            refine VX.store rfl rfl rfl rfl rfl au_s rfl ?_
            refine VX.nil ?_
            refine VC.ret ?_
            exact ⟨trivial, _, rfl, Cv.eq rfl rfl⟩
          · (try simp only [au_std] at hc4); rw [if_neg hc4]
            refine VC.skip ?_
            refine VC.reg tab_ok [] rfl ?_
            first | refine VX.meek rfl ?_ | refine VX.loadI rfl rfl au_l ?_ | refine VX.loadP rfl rfl rfl au_l ?_
            refine VX.store rfl rfl rfl rfl rfl au_s rfl ?_
            refine VX.nil ?_
            refine VC.ret ?_
            exact ⟨trivial, _, rfl, Cv.eq rfl rfl⟩
        · (try simp only [au_std] at hc3); rw [if_neg (by omega), if_neg (by omega)]
          refine VC.skip ?_
          refine VC.seq ?_
          refine VC.drw tab_ok [] [_, _, _, _, _, _, _, _, _, _, _, _, _, _, _] rfl (by kernel_rfl) (by kernel_rfl) ?_
          iterate 3 refine VX.meek rfl ?_
          first | refine VX.meek rfl ?_ | refine VX.loadI rfl rfl au_l ?_ | refine VX.loadP rfl rfl rfl au_l ?_
          iterate 4 refine VX.meek rfl ?_
          first | refine VX.meek rfl ?_ | refine VX.loadI rfl rfl au_l ?_ | refine VX.loadP rfl rfl rfl au_l ?_
          refine VX.callP0 rfl rfl rfl (hst) ?_
          iterate 5 refine VX.meek rfl ?_
          iterate 2 refine VX.nil ?_
          refine VC.reg tab_ok [] rfl ?_
          iterate 3 refine VX.meek rfl ?_
          refine VX.nil ?_
          refine VC.cond rfl (fun hc4 => ?_) (fun hc4 => ?_)
          · (try simp only [au_std] at hc4); rw [if_pos hc4]
            refine VC.regN tab_ok [] rfl ?_
            iterate 4 refine VX.meek rfl ?_
            first | refine VX.meek rfl ?_ | refine VX.loadI rfl rfl au_l ?_ | refine VX.loadP rfl rfl rfl au_l ?_
            first | refine VX.sub rfl rfl (by omega) ?_ | refine VX.meek rfl ?_
            refine VX.meek rfl ?_
            refine VX.store rfl rfl rfl rfl rfl au_s rfl ?_
            refine VX.nil ?_
            refine VC.reg tab_ok [] rfl ?_
            first | refine VX.meek rfl ?_ | refine VX.loadI rfl rfl au_l ?_ | refine VX.loadP rfl rfl rfl au_l ?_
            refine VX.store rfl rfl rfl rfl rfl au_s rfl ?_
            refine VX.nil ?_
            refine VC.ret ?_
            exact ⟨trivial, _, rfl, Cv.eq rfl rfl⟩
          · (try simp only [au_std] at hc4); rw [if_neg hc4]
            refine VC.skip ?_
            refine VC.reg tab_ok [] rfl ?_
            first | refine VX.meek rfl ?_ | refine VX.loadI rfl rfl au_l ?_ | refine VX.loadP rfl rfl rfl au_l ?_
            refine VX.store rfl rfl rfl rfl rfl au_s rfl ?_
            refine VX.nil ?_
            refine VC.ret ?_
            exact ⟨trivial, _, rfl, Cv.eq rfl rfl⟩
      · (try simp only [au_std] at hc2); have ex : padN (s.drop e.left.toNat) e.cols = List.replicate e.cols 32 := (by rw [List.drop_eq_nil_of_le (by omega), padN_nil]); rw [← ex]
        refine VC.skip ?_
        refine VC.reg tab_ok [] rfl ?_
        refine VX.meek rfl ?_
        refine VX.strY (xs := padN (s.drop e.left.toNat) e.cols) rfl rfl rfl rfl rfl rfl rfl rfl (by rw [encL_len, cY_sz, padN_len]; omega) (by rw [List.drop_zero, List.take_of_length_le (by rw [encL_len, cY_sz, padN_len]; omega)]) ?_
        refine VX.meek rfl ?_
        refine VX.new rfl rfl ?_
        refine VX.store rfl rfl rfl rfl rfl au_s rfl ?_
        refine VX.nil ?_
        refine VC.reg tab_ok [] rfl ?_
        iterate 3 refine VX.meek rfl ?_
        first | refine VX.meek rfl ?_ | refine VX.loadI rfl rfl au_l ?_ | refine VX.loadP rfl rfl rfl au_l ?_
        refine VX.meek rfl ?_
        refine VX.callP0 rfl rfl rfl (hpl) ?_
        refine VX.meek rfl ?_
        refine VX.nil ?_
        refine VC.reg tab_ok [] rfl ?_
        iterate 3 refine VX.meek rfl ?_
        first | refine VX.meek rfl ?_ | refine VX.loadI rfl rfl au_l ?_ | refine VX.loadP rfl rfl rfl au_l ?_
        refine VX.callP0 rfl rfl rfl (hsp) ?_
        iterate 5 refine VX.meek rfl ?_
        refine VX.nil ?_
        refine VC.reg tab_ok [] rfl ?_
        iterate 2 refine VX.meek rfl ?_
        first | refine VX.sub rfl rfl (by omega) ?_ | refine VX.meek rfl ?_
        first | refine VX.maxX rfl rfl ?_ | refine VX.meek rfl ?_
        iterate 3 refine VX.meek rfl ?_
        first | refine VX.meek rfl ?_ | refine VX.loadI rfl rfl au_l ?_ | refine VX.loadP rfl rfl rfl au_l ?_
        first | refine VX.sub rfl rfl (by omega) ?_ | refine VX.meek rfl ?_
        refine VX.meek rfl ?_
        refine VX.nil ?_
        refine VC.reg tab_ok [] rfl ?_
        iterate 2 refine VX.meek rfl ?_
        first | refine VX.sub rfl rfl (by omega) ?_ | refine VX.meek rfl ?_
        refine VX.meek rfl ?_
        refine VX.meek (t := I64 (s.length : Nat)) rfl ?_
        first | refine VX.add rfl rfl (by omega) ?_ | refine VX.meek rfl ?_
        first | refine VX.minX rfl rfl ?_ | refine VX.meek rfl ?_
        iterate 3 refine VX.meek rfl ?_
        first | refine VX.meek rfl ?_ | refine VX.loadI rfl rfl au_l ?_ | refine VX.loadP rfl rfl rfl au_l ?_
        first | refine VX.sub rfl rfl (by omega) ?_ | refine VX.meek rfl ?_
        refine VX.meek rfl ?_
        refine VX.nil ?_
        refine VC.reg tab_ok [] rfl ?_
        refine VX.meek rfl ?_
        first | refine VX.maxX rfl rfl ?_ | refine VX.meek rfl ?_
        iterate 2 refine VX.meek rfl ?_
        first | refine VX.minX rfl rfl ?_ | refine VX.meek rfl ?_
        iterate 2 refine VX.meek rfl ?_
        refine VX.nil ?_
        refine VC.seq ?_
        refine VC.reg tab_ok [] rfl ?_
        iterate 3 refine VX.meek rfl ?_
        refine VX.nil ?_
        refine VC.cond rfl (fun hc3 => ?_) (fun hc3 => ?_)
        · (try simp only [au_std] at hc3); rw [if_pos hc3, if_pos hc3]
          refine VC.regN tab_ok [] rfl ?_
          iterate 3 refine VX.meek rfl ?_
          refine VX.store rfl rfl rfl rfl rfl au_s rfl ?_
          refine VX.meek rfl ?_
          refine VX.store rfl rfl rfl rfl rfl au_s rfl ?_
          refine VX.nil ?_
          refine VC.seq ?_
          refine VC.drw tab_ok [] [_, _, _, _, _, _, _, _, _, _, _, _, _, _, _] rfl (by kernel_rfl) (by kernel_rfl) ?_
          iterate 3 refine VX.meek rfl ?_
          first | refine VX.meek rfl ?_ | refine VX.loadI rfl rfl au_l ?_ | refine VX.loadP rfl rfl rfl au_l ?_
          iterate 4 refine VX.meek rfl ?_
          first | refine VX.meek rfl ?_ | refine VX.loadI rfl rfl au_l ?_ | refine VX.loadP rfl rfl rfl au_l ?_
          refine VX.callP0 rfl rfl rfl (hst) ?_
          iterate 5 refine VX.meek rfl ?_
          iterate 2 refine VX.nil ?_
          refine VC.reg tab_ok [] rfl ?_
          iterate 3 refine VX.meek rfl ?_
          refine VX.nil ?_
          refine VC.cond rfl (fun hc4 => ?_) (fun hc4 => ?_)
          · (try simp only [au_std] at hc4); rw [if_pos hc4]
            refine VC.regN tab_ok [] rfl ?_
            iterate 4 refine VX.meek rfl ?_
            first | refine VX.meek rfl ?_ | refine VX.loadI rfl rfl au_l ?_ | refine VX.loadP rfl rfl rfl au_l ?_
            first | refine VX.sub rfl rfl (by omega) ?_ | refine VX.meek rfl ?_
            refine VX.meek rfl ?_
            refine VX.store rfl rfl rfl rfl rfl au_s rfl ?_
            refine VX.nil ?_
            refine VC.reg tab_ok [] rfl ?_
            first | refine VX.meek rfl ?_ | refine VX.loadI rfl rfl au_l ?_ | refine VX.loadP rfl rfl rfl au_l ?_
            refine VX.store rfl rfl rfl rfl rfl au_s rfl ?_
            refine VX.nil ?_
            refine VC.ret ?_
            exact ⟨trivial, _, rfl, Cv.eq rfl rfl⟩
          · (try simp only [au_std] at hc4); rw [if_neg hc4]
            refine VC.skip ?_
            refine VC.reg tab_ok [] rfl ?_
            first | refine VX.meek rfl ?_ | refine VX.loadI rfl rfl au_l ?_ | refine VX.loadP rfl rfl rfl au_l ?_
            refine VX.store rfl rfl rfl rfl rfl au_s rfl ?_
            refine VX.nil ?_
            refine VC.ret ?_
            exact ⟨trivial, _, rfl, Cv.eq rfl rfl⟩
        · (try simp only [au_std] at hc3); rw [if_neg (by omega), if_neg (by omega)]
          refine VC.skip ?_
          refine VC.seq ?_
          refine VC.drw tab_ok [] [_, _, _, _, _, _, _, _, _, _, _, _, _, _, _] rfl (by kernel_rfl) (by kernel_rfl) ?_
          iterate 3 refine VX.meek rfl ?_
          first | refine VX.meek rfl ?_ | refine VX.loadI rfl rfl au_l ?_ | refine VX.loadP rfl rfl rfl au_l ?_
          iterate 4 refine VX.meek rfl ?_
          first | refine VX.meek rfl ?_ | refine VX.loadI rfl rfl au_l ?_ | refine VX.loadP rfl rfl rfl au_l ?_
          refine VX.callP0 rfl rfl rfl (hst) ?_
          iterate 5 refine VX.meek rfl ?_
          iterate 2 refine VX.nil ?_
          refine VC.reg tab_ok [] rfl ?_
          iterate 3 refine VX.meek rfl ?_
          refine VX.nil ?_
          refine VC.cond rfl (fun hc4 => ?_) (fun hc4 => ?_)
          · (try simp only [au_std] at hc4); rw [if_pos hc4]
            refine VC.regN tab_ok [] rfl ?_
            iterate 4 refine VX.meek rfl ?_
            first | refine VX.meek rfl ?_ | refine VX.loadI rfl rfl au_l ?_ | refine VX.loadP rfl rfl rfl au_l ?_
            first | refine VX.sub rfl rfl (by omega) ?_ | refine VX.meek rfl ?_
            refine VX.meek rfl ?_
            refine VX.store rfl rfl rfl rfl rfl au_s rfl ?_
            refine VX.nil ?_
            refine VC.reg tab_ok [] rfl ?_
            first | refine VX.meek rfl ?_ | refine VX.loadI rfl rfl au_l ?_ | refine VX.loadP rfl rfl rfl au_l ?_
            refine VX.store rfl rfl rfl rfl rfl au_s rfl ?_
            refine VX.nil ?_
            refine VC.ret ?_
            exact ⟨trivial, _, rfl, Cv.eq rfl rfl⟩
          · (try simp only [au_std] at hc4); rw [if_neg hc4]
            refine VC.skip ?_
            refine VC.reg tab_ok [] rfl ?_
            first | refine VX.meek rfl ?_ | refine VX.loadI rfl rfl au_l ?_ | refine VX.loadP rfl rfl rfl au_l ?_
            refine VX.store rfl rfl rfl rfl rfl au_s rfl ?_
            refine VX.nil ?_
            refine VC.ret ?_
            exact ⟨trivial, _, rfl, Cv.eq rfl rfl⟩
end
section
open Go.RowKit
set_option maxRecDepth 100000
set_option maxHeartbeats 1000000
structure Ed.W (e : Ed) : Prop where
  s : 4 ≤ e.w ∧ e.w ≤ 128 ∧ 6 ≤ e.h ∧ e.h ≤ 128
  o : e.c.Ok
  t : 0 ≤ e.top ∧ e.top ≤ 4096 ∧ 0 ≤ e.left ∧ e.left ≤ 4096
theorem Ed.W.len {e : Ed} (h : e.W) : e.c.bf.text.length ≤ 4096 := h.o.bf.len
theorem Ed.W.rows {e : Ed} (h : e.W) : e.rows ≤ 21 ∧ 1 ≤ e.rows ∧ e.cols ≤ 32 ∧ 1 ≤ e.cols := by
  have := h.s
  unfold Ed.rows Ed.cols
  omega
def Ed.lk (e : Ed) (n : Nat) : List Lk := (List.range n).map e.look
theorem Ed.lk_len (e : Ed) (n : Nat) : (e.lk n).length = n := by simp [Ed.lk]
theorem Ed.lk_succ (e : Ed) (n : Nat) : e.lk (n + 1) = e.lk n ++ [e.look n] := by simp [Ed.lk, List.range_succ]
theorem Ed.lk_at (e : Ed) {n i : Nat} (h : i < n) : (e.lk n)[i]? = some (e.look i) := by simp [Ed.lk, h]
theorem look_l (e : Ed) (y : Nat) (hw : e.W) (hy : y ≤ 100) : LookT Tryz.prog 74 [I64 y] (lkT (e.look y)) (edC e) := LookT.of_p (look_p e y hw.s hw.len hw.o.cur hw.t hy) rfl rfl (ed_pure e) rfl
theorem rows_l (e : Ed) (h : 0 ≤ e.h ∧ e.h ≤ 1000) : LookT Tryz.prog 46 [] (I64 (e.rows : Nat)) (edC e) := LookT.of_p (rows_p e h) rfl rfl (ed_pure e) rfl
theorem columns_l (e : Ed) (h : 0 ≤ e.w ∧ e.w ≤ 1000) : LookT Tryz.prog 47 [] (I64 (e.cols : Nat)) (edC e) := LookT.of_p (columns_p e h) rfl rfl (ed_pure e) rfl
theorem looks_l (e : Ed) (hw : e.W) : LookT Tryz.prog 43 [] (.islc (encL cLk (e.lk e.rows)) e.rows none) (edC e) := by
  have hp := ed_pure e
  have hs := hw.s
  have hr := rows_l e (by omega)
  have hR := hw.rows
  have hlk := fun y (h : y ≤ 100) => look_l e y hw h
  have hpl := encL_pure cLk (e.lk e.rows)
  refine ⟨hp, rfl, by simp only [T.pure, hpl], CallT.out ?_⟩
  refine CallT.intro tab_ok Tryz.func43 rfl (by kernel_rfl) (Nat.le_of_ble_eq_true rfl) ?_
  refine VC.reg tab_ok [] rfl ?_
  refine VX.meek rfl ?_
  refine VX.nil ?_
  refine VC.reg tab_ok [] rfl ?_
  refine VX.meek rfl ?_
  refine VX.nil ?_
  refine VC.seq ?_
  refine VC.reg tab_ok [] rfl ?_
  refine VX.meek rfl ?_
  refine VX.callO rfl rfl (hr) rfl ?_
  refine VX.meek rfl ?_
  refine VX.nil ?_
  refine VC.block ?_
  refine VC.loopS (σ := Nat) (fun i => e.rows - i) (fun i => i ≤ e.rows) (fun i => [(7, I64 (i : Nat)), (0, .ptr 0 0), (3, .slc 1 0 i 4 none)]) (fun i => [.c (edC e), .c (encL cLk (e.lk i))]) [6] rfl (0) ?_ ?_ ?_
  · refine ⟨[some 0, none], rfl, by first | trivial | decide, by first | rfl | (simp only [noO, Bool.and_true, Bool.and_eq_true]; first | assumption | (refine ⟨?_, ?_⟩ <;> assumption)) | (simp only [noO, *, Bool.and_true, Bool.true_and, Bool.and_self]; done), ?_, ?_⟩ <;> (repeat' first | exact trivial | exact CvB_n | exact CvB_d | exact CvB_o rfl | refine CvE_app ?_ ?_ | refine CvE_cons rfl ?_ ?_ | refine CvH_cons ?_ ?_ | refine CvB_c rfl ?_ | fail) <;> first | exact au_v | (first | exact CvL.pure hp | exact CvL.pure rfl)
  · (try dsimp only); omega
  rintro i hi
  refine VC.reg tab_ok [] rfl ?_
  refine VX.meek rfl ?_
  refine VX.nil ?_
  refine VC.seq ?_
  refine VC.cond rfl (fun hc0 => ?_) (fun hc0 => ?_)
  · (try simp only [au_std] at hc0); have hx := hlk i (by omega)
    refine VC.skip ?_
    refine VC.seq ?_
    refine VC.block ?_
    refine VC.reg tab_ok [] rfl ?_
    iterate 2 refine VX.meek rfl ?_
    refine VX.nil ?_
    refine VC.regN tab_ok [14] rfl ?_
    iterate 3 refine VX.meek rfl ?_
    refine VX.callO rfl rfl (hx) rfl ?_
    refine VX.newI rfl rfl ?_
    refine' VX.append rfl rfl rfl rfl rfl rfl rfl rfl ?h1 ?h2 ?h3 ?h4 ?h5 ?_
    case h1 => rw [encL_len, cLk_sz, Ed.lk_len]; (try dsimp only); omega
    case h2 => exact Nat.le_trans (Nat.mul_le_mul_right _ (show _ ≤ 1000 by omega)) (by decide)
    case h3 => omega
    case h4 => rfl
    case h5 => rfl
    refine VX.meek rfl ?_
    refine VX.nil ?_
    refine VC.regN tab_ok [] rfl ?_
    first | refine VX.add rfl rfl (by omega) ?_ | refine VX.meek rfl ?_
    refine VX.meek rfl ?_
    refine VX.nil ?_
    refine ⟨i + 1, by (try dsimp only); omega, ?_, (by refine ⟨[some 0, some 2], rfl, by first | trivial | decide, by first | rfl | (simp only [noO, Bool.and_true, Bool.and_eq_true]; first | assumption | (refine ⟨?_, ?_⟩ <;> assumption)) | (simp only [noO, *, Bool.and_true, Bool.true_and, Bool.and_self]; done), ?_, ?_⟩ <;> (repeat' first | exact trivial | exact CvB_n | exact CvB_d | exact CvB_o rfl | refine CvE_app ?_ ?_ | refine CvE_cons rfl ?_ ?_ | refine CvH_cons ?_ ?_ | refine CvB_c rfl ?_ | fail) <;> first | exact au_v | (first | exact CvL.pure hp | exact CvL.pure rfl | exact Cv.slc rfl (.inl rfl) | exact CvL.eq (by rw [Ed.lk_succ, encL_append, List.drop_zero, List.take_of_length_le (by rw [encL_len, cLk_sz, Ed.lk_len]; exact Nat.le_refl _)]; rfl) (encL_pure _ _)))⟩
    (try dsimp only); omega
  · (try simp only [au_std] at hc0); obtain rfl : i = e.rows := (by omega)
    refine VC.exit ?_
    refine VC.reg tab_ok [] rfl ?_
    iterate 2 refine VX.meek rfl ?_
    refine VX.nil ?_
    refine VC.ret ?_
    exact ⟨trivial, _, rfl, out1 rfl (CvL.pure hp) (Cv.fslc0 ⟨rfl, by simp⟩ (CvL.pure hpl))⟩
theorem op_l (e : Ed) (op : Int) : LookT Tryz.prog 77 [I64 op] (.agg (cRq.cells (e.opR op))) (edC e) := by
  have hp := ed_pure e
  refine ⟨hp, rfl, rfl, CallT.out ?_⟩
  refine CallT.intro tab_ok Tryz.func77 rfl (by kernel_rfl) (Nat.le_of_ble_eq_true rfl) ?_
  refine VC.reg tab_ok [] rfl ?_
  refine VX.new rfl rfl ?_
  refine VX.nil ?_
  refine VC.reg tab_ok [] rfl ?_
  iterate 3 refine VX.meek rfl ?_
  first | refine VX.meek rfl ?_ | refine VX.loadI rfl rfl au_l ?_ | refine VX.loadP rfl rfl rfl au_l ?_
  refine VX.meek rfl ?_
  refine VX.new rfl rfl ?_
  refine VX.meek rfl ?_
  refine VX.store rfl rfl rfl rfl rfl au_s rfl ?_
  refine VX.nil ?_
  refine VC.ret ?_
  exact ⟨trivial, _, rfl, out1 rfl (CvL.pure hp) (Cv.agg au_fr)⟩
theorem fill_l (e : Ed) (x y w h : Int) : LookT Tryz.prog 78 [I64 x, I64 y, I64 w, I64 h] (.agg (cRq.cells (e.fillR x y w h))) (edC e) := by
  have hp := ed_pure e
  refine ⟨hp, rfl, rfl, CallT.out ?_⟩
  refine CallT.intro tab_ok Tryz.func78 rfl (by kernel_rfl) (Nat.le_of_ble_eq_true rfl) ?_
  refine VC.reg tab_ok [] rfl ?_
  refine VX.new rfl rfl ?_
  refine VX.nil ?_
  refine VC.drw tab_ok [] [_, _, _, _, _, _, _, _, _, _, _, _, _, _, _] rfl (by kernel_rfl) (by kernel_rfl) ?_
  iterate 3 refine VX.meek rfl ?_
  first | refine VX.meek rfl ?_ | refine VX.loadI rfl rfl au_l ?_ | refine VX.loadP rfl rfl rfl au_l ?_
  iterate 3 refine VX.meek rfl ?_
  first | refine VX.meek rfl ?_ | refine VX.loadI rfl rfl au_l ?_ | refine VX.loadP rfl rfl rfl au_l ?_
  refine VX.new rfl rfl ?_
  iterate 4 refine VX.meek rfl ?_
  refine VX.new rfl rfl ?_
  refine VX.meek rfl ?_
  refine VX.nil ?_
  refine VX.store rfl rfl rfl rfl rfl au_s rfl ?_
  refine VX.nil ?_
  refine VC.ret ?_
  exact ⟨trivial, _, rfl, out1 rfl (CvL.pure hp) (Cv.agg au_fr)⟩
theorem drawn_l (e : Ed) (y : Nat) (k : Lk) (hy : y ≤ 100) (hk : -10000 ≤ k.fm ∧ k.fm ≤ 10000 ∧ -10000 ≤ k.tz ∧ k.tz ≤ 10000 ∧ -10000 ≤ k.cu ∧ k.cu ≤ 10000) : LookT Tryz.prog 48 [I64 y, lkT k] (rqT (e.drawnR y k)) (edC e) := by
  have hp := ed_pure e
  have h6 := op_l e 6
  have h3 := op_l e 3
  have hf1 := fill_l e (4 * k.fm) (6 * (y : Int)) (4 * (k.tz - k.fm)) 6
  have hf2 := fill_l e (4 * k.cu) (6 * (y : Int) + 5) 4 1
  refine ⟨hp, rfl, by simp only [T.pure, encL_pure], CallT.out ?_⟩
  unfold Ed.drawnR
  refine CallT.intro tab_ok Tryz.func48 rfl (by kernel_rfl) (Nat.le_of_ble_eq_true rfl) ?_
  refine VC.reg tab_ok [5] rfl ?_
  refine VX.newI rfl rfl ?_
  refine VX.meek rfl ?_
  refine VX.nil ?_
  refine VC.reg tab_ok [] rfl ?_
  refine VX.meek rfl ?_
  first | refine VX.mul rfl rfl (by omega) ?_ | refine VX.meek rfl ?_
  refine VX.meek rfl ?_
  refine VX.nil ?_
  refine VC.drw tab_ok [] [_, _, _, _, _, _, _, _, _, _, _, _, _, _, _, _] rfl (by kernel_rfl) (by kernel_rfl) ?_
  iterate 3 refine VX.meek rfl ?_
  first | refine VX.meek rfl ?_ | refine VX.loadI rfl rfl au_l ?_ | refine VX.loadP rfl rfl rfl au_l ?_
  iterate 3 refine VX.meek rfl ?_
  first | refine VX.meek rfl ?_ | refine VX.loadI rfl rfl au_l ?_ | refine VX.loadP rfl rfl rfl au_l ?_
  refine VX.meek rfl ?_
  first | refine VX.add rfl rfl (by omega) ?_ | refine VX.meek rfl ?_
  refine VX.new rfl rfl ?_
  refine VX.meek rfl ?_
  first | refine VX.meek rfl ?_ | refine VX.loadI rfl rfl au_l ?_ | refine VX.loadP rfl rfl rfl au_l ?_
  refine VX.meek rfl ?_
  refine VX.new rfl rfl ?_
  refine VX.meek rfl ?_
  iterate 2 refine VX.nil ?_
  refine VC.seq ?_
  refine VC.reg tab_ok [] rfl ?_
  refine VX.meek rfl ?_
  first | refine VX.meek rfl ?_ | refine VX.loadI rfl rfl au_l ?_ | refine VX.loadP rfl rfl rfl au_l ?_
  refine VX.meek rfl ?_
  first | refine VX.meek rfl ?_ | refine VX.loadI rfl rfl au_l ?_ | refine VX.loadP rfl rfl rfl au_l ?_
  refine VX.meek rfl ?_
  refine VX.nil ?_
  refine VC.cond rfl (fun hc0 => ?_) (fun hc0 => ?_)
  · (try simp only [au_std] at hc0); rw [if_pos hc0]
    refine VC.drwCN tab_ok [48] [_, _, _, _, _, _, _, _, _, _, _, _, _, _, _, _, _, _] ([.c (edC e)]) [false, false, false, false, false, false, false, false, false, false, false, false, false, false, false, false, false, false] rfl (by kernel_rfl) (by kernel_rfl) (by kernel_rfl) (by repeat' first | exact seen_nil | refine seen_dead ?_ | refine seen_same ?_) ?_
    refine VD.meek rfl ?_
    refine VD.meek rfl ?_
    refine VD.lookO rfl rfl (h6) rfl ?_
    refine VD.meek rfl ?_
    refine VD.meek rfl ?_
    first | refine VD.meek rfl ?_ | refine VD.loadI rfl rfl au_l ?_
    refine VD.meek (t := I64 (4 * k.fm)) (by show some (T.v (.int .i64 (IntKind.i64.wrap (4 * k.fm))), (none : Option (Nat × List T))) = _; rw [wrap_in (by omega)]) ?_
    refine VD.meek rfl ?_
    refine VD.meek rfl ?_
    first | refine VD.meek rfl ?_ | refine VD.loadI rfl rfl au_l ?_
    refine VD.meek rfl ?_
    first | refine VD.meek rfl ?_ | refine VD.loadI rfl rfl au_l ?_
    refine VD.meek (t := I64 (k.tz - k.fm)) (by show some (T.v (.int .i64 (IntKind.i64.wrap (k.tz - k.fm))), (none : Option (Nat × List T))) = _; rw [wrap_in (by omega)]) ?_
    refine VD.meek (t := I64 (4 * (k.tz - k.fm))) (by show some (T.v (.int .i64 (IntKind.i64.wrap (4 * (k.tz - k.fm)))), (none : Option (Nat × List T))) = _; rw [wrap_in (by omega)]) ?_
    refine VD.lookO rfl rfl (hf1) rfl ?_
    refine VD.meek rfl ?_
    refine VD.lookO rfl rfl (h3) rfl ?_
    refine VD.newI rfl ?_
    refine VD.nil ?_
    first | refine VX.appendNil rfl rfl rfl rfl rfl rfl au_s au_s au_s ?_ | refine VX.append rfl rfl rfl rfl rfl rfl rfl rfl au_s au_s au_s au_s au_s ?_
    refine VX.meek rfl ?_
    refine VX.nil ?_
    refine VC.seq ?_
    refine VC.reg tab_ok [] rfl ?_
    refine VX.meek rfl ?_
    first | refine VX.meek rfl ?_ | refine VX.loadI rfl rfl au_l ?_ | refine VX.loadP rfl rfl rfl au_l ?_
    refine VX.meek rfl ?_
    refine VX.nil ?_
    refine VC.cond rfl (fun hc1 => ?_) (fun hc1 => ?_)
    · (try simp only [au_std] at hc1); rw [if_pos hc1]
      refine VC.regN tab_ok [61] rfl ?_
      iterate 3 refine VX.meek rfl ?_
      first | refine VX.meek rfl ?_ | refine VX.loadI rfl rfl au_l ?_ | refine VX.loadP rfl rfl rfl au_l ?_
      first | refine VX.mul rfl rfl (by omega) ?_ | refine VX.meek rfl ?_
      refine VX.meek rfl ?_
      first | refine VX.add rfl rfl (by omega) ?_ | refine VX.meek rfl ?_
      refine VX.callO rfl rfl (hf2) rfl ?_
      refine VX.newI rfl rfl ?_
      first | refine VX.appendNil rfl rfl rfl rfl rfl rfl au_s au_s au_s ?_ | refine VX.append rfl rfl rfl rfl rfl rfl rfl rfl au_s au_s au_s au_s au_s ?_
      refine VX.meek rfl ?_
      refine VX.nil ?_
      refine VC.reg tab_ok [] rfl ?_
      iterate 2 refine VX.meek rfl ?_
      refine VX.nil ?_
      refine VC.ret ?_
      exact ⟨trivial, _, rfl, out1 rfl (CvL.pure hp) (Cv.fslc0 ⟨rfl, by simp⟩ au_fr)⟩
    · (try simp only [au_std] at hc1); rw [if_neg (by omega)]
      refine VC.skip ?_
      refine VC.reg tab_ok [] rfl ?_
      iterate 2 refine VX.meek rfl ?_
      refine VX.nil ?_
      refine VC.ret ?_
      exact ⟨trivial, _, rfl, out1 rfl (CvL.pure hp) (Cv.fslc0 ⟨rfl, by simp⟩ au_fr)⟩
  · (try simp only [au_std] at hc0); rw [if_neg (by omega)]
    refine VC.skip ?_
    refine VC.seq ?_
    refine VC.reg tab_ok [] rfl ?_
    refine VX.meek rfl ?_
    first | refine VX.meek rfl ?_ | refine VX.loadI rfl rfl au_l ?_ | refine VX.loadP rfl rfl rfl au_l ?_
    refine VX.meek rfl ?_
    refine VX.nil ?_
    refine VC.cond rfl (fun hc1 => ?_) (fun hc1 => ?_)
    · (try simp only [au_std] at hc1); rw [if_pos hc1]
      refine VC.regN tab_ok [61] rfl ?_
      iterate 3 refine VX.meek rfl ?_
      first | refine VX.meek rfl ?_ | refine VX.loadI rfl rfl au_l ?_ | refine VX.loadP rfl rfl rfl au_l ?_
      first | refine VX.mul rfl rfl (by omega) ?_ | refine VX.meek rfl ?_
      refine VX.meek rfl ?_
      first | refine VX.add rfl rfl (by omega) ?_ | refine VX.meek rfl ?_
      refine VX.callO rfl rfl (hf2) rfl ?_
      refine VX.newI rfl rfl ?_
      first | refine VX.appendNil rfl rfl rfl rfl rfl rfl au_s au_s au_s ?_ | refine VX.append rfl rfl rfl rfl rfl rfl rfl rfl au_s au_s au_s au_s au_s ?_
      refine VX.meek rfl ?_
      refine VX.nil ?_
      refine VC.reg tab_ok [] rfl ?_
      iterate 2 refine VX.meek rfl ?_
      refine VX.nil ?_
      refine VC.ret ?_
      exact ⟨trivial, _, rfl, out1 rfl (CvL.pure hp) (Cv.fslc0 ⟨rfl, by simp⟩ au_fr)⟩
    · (try simp only [au_std] at hc1); rw [if_neg (by omega)]
      refine VC.skip ?_
      refine VC.reg tab_ok [] rfl ?_
      iterate 2 refine VX.meek rfl ?_
      refine VX.nil ?_
      refine VC.ret ?_
      exact ⟨trivial, _, rfl, out1 rfl (CvL.pure hp) (Cv.fslc0 ⟨rfl, by simp⟩ au_fr)⟩
end
section
open Go.RowKit
set_option maxRecDepth 100000
set_option maxHeartbeats 1000000
abbrev Ed.wc (e : Ed) (c : Ec) : Ed := { e with c := c }
theorem cut_t (e : Ed) (ok : e.c.Ok) : CallT Tryz.prog 79 [.ptr 0 0] [.c (edC e)] (fun t H' => t = BL (decide (e.c.lo ≠ e.c.hi)) ∧ H' = [.c (edC (e.wc e.c.cut))]) := by
  have hp := ed_pure e
  have hlen := ok.bf.len
  have hcu := ok.cur
  have hsp := span_p e.c
  have hlo : e.c.lo ≤ e.c.hi := by unfold Ec.lo Ec.hi; omega
  have hhi : e.c.hi ≤ e.c.bf.text.length := by unfold Ec.hi; omega
  by_cases h : e.c.lo = e.c.hi
  · have e1 : e.c.cut = e.c := by unfold Ec.cut; rw [if_pos h]
    rw [e1]
    refine CallT.intro tab_ok Tryz.func79 rfl (by kernel_rfl) (Nat.le_of_ble_eq_true rfl) ?_
    refine VC.reg tab_ok [] rfl ?_
    refine VX.meek rfl ?_
    refine VX.nil ?_
    refine VC.reg tab_ok [] rfl ?_
    iterate 3 refine VX.meek rfl ?_
    first | refine VX.meek rfl ?_ | refine VX.loadI rfl rfl au_l ?_ | refine VX.loadP rfl rfl rfl au_l ?_
    refine VX.callP0 rfl rfl rfl (hsp) ?_
    iterate 5 refine VX.meek rfl ?_
    refine VX.nil ?_
    refine VC.seq ?_
    refine VC.reg tab_ok [] rfl ?_
    iterate 3 refine VX.meek rfl ?_
    refine VX.nil ?_
    refine VC.cond rfl (fun hc0 => ?_) (fun hc0 => ?_)
    · (try simp only [au_std] at hc0)
      refine VC.reg tab_ok [] rfl ?_
      refine VX.meek rfl ?_
      refine VX.nil ?_
      refine VC.ret ?_
      exact ⟨trivial, _, rfl, by rw [decide_eq_false (by simpa using h)]; rfl, rfl⟩
    · exact absurd hc0 (by rw [h]; simp)
  · have e1 : e.c.cut = { e.c with bf := e.c.bf.chg ⟨e.c.lo, (e.c.bf.text.take e.c.hi).drop e.c.lo, []⟩, cur := e.c.lo, anc := e.c.lo } := by unfold Ec.cut; rw [if_neg h]
    have hde := delete_p e.c.bf e.c.lo e.c.hi (by omega) hhi ok.bf.few.1 hlen
    have hbo := both_t { e with c := { e.c with bf := e.c.bf.chg ⟨e.c.lo, (e.c.bf.text.take e.c.hi).drop e.c.lo, []⟩ } } e.c.lo
    rw [e1]
    refine CallT.intro tab_ok Tryz.func79 rfl (by kernel_rfl) (Nat.le_of_ble_eq_true rfl) ?_
    refine VC.reg tab_ok [] rfl ?_
    refine VX.meek rfl ?_
    refine VX.nil ?_
    refine VC.reg tab_ok [] rfl ?_
    iterate 3 refine VX.meek rfl ?_
    first | refine VX.meek rfl ?_ | refine VX.loadI rfl rfl au_l ?_ | refine VX.loadP rfl rfl rfl au_l ?_
    refine VX.callP0 rfl rfl rfl (hsp) ?_
    iterate 5 refine VX.meek rfl ?_
    refine VX.nil ?_
    refine VC.seq ?_
    refine VC.reg tab_ok [] rfl ?_
    iterate 3 refine VX.meek rfl ?_
    refine VX.nil ?_
    refine VC.cond rfl (fun hc0 => ?_) (fun hc0 => ?_)
    · (try simp only [au_std] at hc0); omega
    · (try simp only [au_std] at hc0)
      refine VC.skip ?_
      refine VC.reg tab_ok [] rfl ?_
      iterate 4 refine VX.meek rfl ?_
      first | refine VX.meek rfl ?_ | refine VX.loadI rfl rfl au_l ?_ | refine VX.loadP rfl rfl rfl au_l ?_
      iterate 2 refine VX.meek rfl ?_
      refine VX.callP0 rfl rfl rfl (hde) ?_
      iterate 5 refine VX.meek rfl ?_
      refine VX.store rfl rfl rfl rfl rfl au_s rfl ?_
      refine VX.nil ?_
      refine VC.reg tab_ok [] rfl ?_
      iterate 4 refine VX.meek rfl ?_
      refine VX.callT rfl rfl (CallT.frame (hbo) [0] rfl au_ci au_ci ?_)
      rintro _ _ ⟨rfl, rfl⟩
      refine frK au_co au_co ?_
      refine VX.nil ?_
      refine VC.reg tab_ok [] rfl ?_
      refine VX.meek rfl ?_
      refine VX.nil ?_
      refine VC.ret ?_
      exact ⟨trivial, _, rfl, by rw [decide_eq_true h]; rfl, rfl⟩
theorem put_t (e : Ed) (ok : e.c.Ok) (s : List UInt8) (hs : s ≠ []) (hr : rightB s = true) (hl : s.length ≤ 100000) : CallT Tryz.prog 49 [.ptr 0 0, strT s] [.c (edC e)] (fun t H' => t = .tup [] ∧ H' = [.c (edC (e.wc (e.c.put s)))]) := by
  have hcut := cut_t e ok
  have ok2 := ok.cut.1
  have hlen := ok2.bf.len
  have hcu := ok2.cur
  unfold Ec.put
  generalize e.c.cut = c at *
  have hp := ed_pure (e.wc c)
  have hle := len_p c.bf
  by_cases h : 4096 < c.bf.text.length + s.length
  · have e1 : c.ins s = c := by unfold Ec.ins; rw [if_pos h]
    rw [e1]
    refine CallT.intro tab_ok Tryz.func49 rfl (by kernel_rfl) (Nat.le_of_ble_eq_true rfl) ?_
    refine VC.reg tab_ok [] rfl ?_
    refine VX.meek rfl ?_
    refine VX.callT rfl rfl (CallT.frame (hcut) [0] rfl au_ci au_ci ?_)
    rintro _ _ ⟨rfl, rfl⟩
    refine frK au_co au_co ?_
    refine VX.nil ?_
    refine VC.seq ?_
    refine VC.reg tab_ok [] rfl ?_
    iterate 3 refine VX.meek rfl ?_
    first | refine VX.meek rfl ?_ | refine VX.loadI rfl rfl au_l ?_ | refine VX.loadP rfl rfl rfl au_l ?_
    refine VX.callP0 rfl rfl rfl (hle) ?_
    refine VX.meek rfl ?_
    refine VX.meek (t := I64 (s.length : Nat)) rfl ?_
    first | refine VX.add rfl rfl (by omega) ?_ | refine VX.meek rfl ?_
    refine VX.meek rfl ?_
    refine VX.nil ?_
    refine VC.cond rfl (fun hc0 => ?_) (fun hc0 => ?_)
    · (try simp only [au_std] at hc0)
      refine VC.ret ?_
      exact ⟨trivial, _, rfl, rfl, rfl⟩
    · (try simp only [au_std] at hc0); omega
  · have e1 : c.ins s = { c with bf := c.bf.chg ⟨c.cur, [], s⟩, cur := c.cur + s.length, anc := c.cur + s.length } := by unfold Ec.ins; rw [if_neg h]
    have hpb := buf_pure (c.bf.chg ⟨c.cur, [], s⟩)
    have hin := insert_p c.bf c.cur s hcu.1 ok2.bf.few.1 (by omega) hs hr
    have hbo := both_t { e with c := { c with bf := c.bf.chg ⟨c.cur, [], s⟩ } } (c.cur + s.length)
    rw [e1]
    refine CallT.intro tab_ok Tryz.func49 rfl (by kernel_rfl) (Nat.le_of_ble_eq_true rfl) ?_
    refine VC.reg tab_ok [] rfl ?_
    refine VX.meek rfl ?_
    refine VX.callT rfl rfl (CallT.frame (hcut) [0] rfl au_ci au_ci ?_)
    rintro _ _ ⟨rfl, rfl⟩
    refine frK au_co au_co ?_
    refine VX.nil ?_
    refine VC.seq ?_
    refine VC.reg tab_ok [] rfl ?_
    iterate 3 refine VX.meek rfl ?_
    first | refine VX.meek rfl ?_ | refine VX.loadI rfl rfl au_l ?_ | refine VX.loadP rfl rfl rfl au_l ?_
    refine VX.callP0 rfl rfl rfl (hle) ?_
    refine VX.meek rfl ?_
    refine VX.meek (t := I64 (s.length : Nat)) rfl ?_
    first | refine VX.add rfl rfl (by omega) ?_ | refine VX.meek rfl ?_
    refine VX.meek rfl ?_
    refine VX.nil ?_
    refine VC.cond rfl (fun hc0 => ?_) (fun hc0 => ?_)
    · (try simp only [au_std] at hc0); omega
    · (try simp only [au_std] at hc0)
      refine VC.skip ?_
      refine VC.drwS tab_ok [] [_, _, _, _, _, _, _, _, _, _, _, _, _, _, _, _] (_) rfl (by kernel_rfl) (by kernel_rfl) (by kernel_rfl) (seen_refl _) ?_
      refine VS.seg (l1 := [_, _, _, _, _, _, _, _, _, _, _, _, _, _]) rfl ?_
      iterate 3 refine VX.meek rfl ?_
      first | refine VX.meek rfl ?_ | refine VX.loadI rfl rfl au_l ?_ | refine VX.loadP rfl rfl rfl au_l ?_
      iterate 4 refine VX.meek rfl ?_
      first | refine VX.meek rfl ?_ | refine VX.loadI rfl rfl au_l ?_ | refine VX.loadP rfl rfl rfl au_l ?_
      refine VX.meek rfl ?_
      refine VX.callP0 rfl rfl rfl (hin) ?_
      iterate 3 refine VX.meek rfl ?_
      refine VX.nil ?_
      refine VS.hid rfl ?_
      refine VS.sto rfl rfl rfl rfl ?_
      refine VS.nil (⟨rfl, Nat.le_of_ble_eq_true rfl, rfl, trivial⟩) ?_
      refine VX.meek rfl ?_
      refine VX.nil ?_
      refine VC.view ([(0, .ptr 0 0), (4, .ptr 1 0)]) ([.c (edC (e.wc c)), .c (bufC (c.bf.chg ⟨c.cur, [], s⟩))]) [1, 5] rfl (by refine ⟨[some 0, some 1], rfl, by first | trivial | decide, by first | rfl | (simp only [noO, Bool.and_true, Bool.and_eq_true]; first | assumption | (refine ⟨?_, ?_⟩ <;> assumption)) | (simp only [noO, *, Bool.and_true, Bool.true_and, Bool.and_self]; done), ?_, ?_⟩ <;> (repeat' first | exact trivial | exact CvB_n | exact CvB_d | exact CvB_o rfl | refine CvE_app ?_ ?_ | refine CvE_cons rfl ?_ ?_ | refine CvH_cons ?_ ?_ | refine CvB_c rfl ?_ | fail) <;> first | exact au_v | (first | exact CvL.pure hp | exact CvL.pure hpb)) ?_
      refine VC.reg tab_ok [] rfl ?_
      iterate 2 refine VX.meek rfl ?_
      refine VX.nil ?_
      refine VC.condT rfl ?_
      refine VC.reg tab_ok [] rfl ?_
      refine VX.meek rfl ?_
      first | refine VX.meek rfl ?_ | refine VX.loadI rfl rfl au_l ?_ | refine VX.loadP rfl rfl rfl au_l ?_
      iterate 2 refine VX.meek rfl ?_
      refine VX.store rfl rfl rfl rfl rfl au_s rfl ?_
      refine VX.nil ?_
      refine VC.view ([(0, .ptr 0 0)]) ([.c (edC { e with c := { c with bf := c.bf.chg ⟨c.cur, [], s⟩ } })]) [1] rfl (by refine ⟨[some 0], rfl, by first | trivial | decide, by first | rfl | (simp only [noO, Bool.and_true, Bool.and_eq_true]; first | assumption | (refine ⟨?_, ?_⟩ <;> assumption)) | (simp only [noO, *, Bool.and_true, Bool.true_and, Bool.and_self]; done), ?_, ?_⟩ <;> (repeat' first | exact trivial | exact CvB_n | exact CvB_d | exact CvB_o rfl | refine CvE_app ?_ ?_ | refine CvE_cons rfl ?_ ?_ | refine CvH_cons ?_ ?_ | refine CvB_c rfl ?_ | fail) <;> first | exact au_v | (exact CvL.eq rfl (ed_pure _))) ?_
      refine VC.drwN tab_ok [] [_, _, _, _, _, _, _, _, _, _, _] rfl (by kernel_rfl) (by kernel_rfl) ?_
      iterate 7 refine VX.meek rfl ?_
      first | refine VX.meek rfl ?_ | refine VX.loadI rfl rfl au_l ?_ | refine VX.loadP rfl rfl rfl au_l ?_
      refine VX.meek rfl ?_
      refine VX.meek (t := I64 (s.length : Nat)) rfl ?_
      refine VX.add (a := (c.cur : Int)) (b := (s.length : Int)) rfl rfl (by omega) ?_
      refine VX.nil ?_
      refine VX.callT rfl rfl (CallT.frame (hbo) [0] rfl au_ci au_ci ?_)
      rintro _ _ ⟨rfl, rfl⟩
      refine frK au_co au_co ?_
      refine VX.nil ?_
      exact ⟨trivial, _, rfl, rfl, rfl⟩
theorem back_t (e : Ed) (p : Bf) (b : Bool) : CallT Tryz.prog 122 [.ptr 0 0, bufT p, BL b] [.c (edC e)] (fun t H' => t = .tup [] ∧ H' = [.c (edC (e.wc (e.c.back (p, b))))]) := by
  have hp := ed_pure e
  have hpb := buf_pure p
  have hle := len_p p
  cases b
  case false =>
    refine CallT.intro tab_ok Tryz.func122 rfl (by kernel_rfl) (Nat.le_of_ble_eq_true rfl) ?_
    refine VC.reg tab_ok [4] rfl ?_
    refine VX.newI rfl rfl ?_
    refine VX.nil ?_
    refine VC.reg tab_ok [] rfl ?_
    refine VX.meek rfl ?_
    refine VX.nil ?_
    refine VC.condF rfl ?_
    refine VC.skip ?_
    exact ⟨trivial, _, rfl, rfl, rfl⟩
  case true =>
    have hbo := both_t { e with c := { e.c with bf := p } } (min e.c.cur p.text.length)
    have e1 : min (e.c.cur : Int) (p.text.length : Int) = ((min e.c.cur p.text.length : Nat) : Int) := by omega
    refine CallT.intro tab_ok Tryz.func122 rfl (by kernel_rfl) (Nat.le_of_ble_eq_true rfl) ?_
    refine VC.reg tab_ok [4] rfl ?_
    refine VX.newI rfl rfl ?_
    refine VX.nil ?_
    refine VC.reg tab_ok [] rfl ?_
    refine VX.meek rfl ?_
    refine VX.nil ?_
    refine VC.condT rfl ?_
    refine VC.reg tab_ok [] rfl ?_
    refine VX.meek rfl ?_
    first | refine VX.meek rfl ?_ | refine VX.loadI rfl rfl au_l ?_ | refine VX.loadP rfl rfl rfl au_l ?_
    iterate 2 refine VX.meek rfl ?_
    refine VX.store rfl rfl rfl rfl rfl au_s rfl ?_
    refine VX.nil ?_
    refine VC.drwN tab_ok [] [_, _, _, _, _, _, _, _, _, _, _] rfl (by kernel_rfl) (by kernel_rfl) ?_
    iterate 7 refine VX.meek rfl ?_
    first | refine VX.meek rfl ?_ | refine VX.loadI rfl rfl au_l ?_ | refine VX.loadP rfl rfl rfl au_l ?_
    first | refine VX.meek rfl ?_ | refine VX.loadI rfl rfl au_l ?_ | refine VX.loadP rfl rfl rfl au_l ?_
    refine VX.callP0 rfl rfl rfl (hle) ?_
    refine VX.minX rfl rfl ?_; rw [e1]
    refine VX.nil ?_
    refine VX.callT rfl rfl (CallT.frame (hbo) [0] rfl au_ci au_ci ?_)
    rintro _ _ ⟨rfl, rfl⟩
    refine frK au_co au_co ?_
    refine VX.nil ?_
    exact ⟨trivial, _, rfl, rfl, rfl⟩
theorem erase_cut (e : Ed) (ok : e.c.Ok) (by_ : Int) (h : e.c.lo ≠ e.c.hi) : CallT Tryz.prog 115 [.ptr 0 0, I64 by_] [.c (edC e)] (fun t H' => t = .tup [] ∧ H' = [.c (edC (e.wc e.c.cut))]) := by
  have hcut := cut_t e ok
  rw [decide_eq_true h] at hcut
  refine CallT.intro tab_ok Tryz.func115 rfl (by kernel_rfl) (Nat.le_of_ble_eq_true rfl) ?_
  refine VC.seq ?_
  refine VC.reg tab_ok [] rfl ?_
  refine VX.meek rfl ?_
  refine VX.callT rfl rfl (CallT.frame (hcut) [0] rfl au_ci au_ci ?_)
  rintro _ _ ⟨rfl, rfl⟩
  refine frK au_co au_co ?_
  refine VX.nil ?_
  refine VC.condT rfl ?_
  refine VC.ret ?_
  exact ⟨trivial, _, rfl, rfl, rfl⟩
theorem erase_no (e : Ed) (ok : e.c.Ok) (by_ : Int) (h : e.c.lo = e.c.hi) (hb : by_ = -1 ∧ e.c.cur = 0 ∨ by_ = 1 ∧ e.c.bf.text.length ≤ e.c.cur) : CallT Tryz.prog 115 [.ptr 0 0, I64 by_] [.c (edC e)] (fun t H' => t = .tup [] ∧ H' = [.c (edC e)]) := by
  have hcut := cut_t e ok
  have hcu := ok.cur
  have hlen := ok.bf.len
  have hle := len_p e.c.bf
  rw [decide_eq_false (by simpa using h), show e.c.cut = e.c from by unfold Ec.cut; rw [if_pos h]] at hcut
  replace hcut : CallT Tryz.prog 79 [.ptr 0 0] [.c (edC e)] (fun t H' => t = BL false ∧ H' = [.c (edC e)]) := hcut
  refine CallT.intro tab_ok Tryz.func115 rfl (by kernel_rfl) (Nat.le_of_ble_eq_true rfl) ?_
  refine VC.seq ?_
  refine VC.reg tab_ok [] rfl ?_
  refine VX.meek rfl ?_
  refine VX.callT rfl rfl (CallT.frame (hcut) [0] rfl au_ci au_ci ?_)
  rintro _ _ ⟨rfl, rfl⟩
  refine frK au_co au_co ?_
  refine VX.nil ?_
  refine VC.condF rfl ?_
  refine VC.skip ?_
  refine VC.drw tab_ok [] [_, _, _, _, _, _, _, _, _, _, _, _, _, _] rfl (by kernel_rfl) (by kernel_rfl) ?_
  iterate 4 refine VX.meek rfl ?_
  first | refine VX.meek rfl ?_ | refine VX.loadI rfl rfl au_l ?_ | refine VX.loadP rfl rfl rfl au_l ?_
  iterate 4 refine VX.meek rfl ?_
  first | refine VX.meek rfl ?_ | refine VX.loadI rfl rfl au_l ?_ | refine VX.loadP rfl rfl rfl au_l ?_
  refine VX.meek rfl ?_
  first | refine VX.add rfl rfl (by omega) ?_ | refine VX.meek rfl ?_
  first | refine VX.minX rfl rfl ?_ | refine VX.meek rfl ?_
  refine VX.meek rfl ?_
  iterate 2 refine VX.nil ?_
  refine VC.drw tab_ok [] [_, _, _, _, _, _, _, _, _, _, _, _, _, _] rfl (by kernel_rfl) (by kernel_rfl) ?_
  iterate 4 refine VX.meek rfl ?_
  first | refine VX.meek rfl ?_ | refine VX.loadI rfl rfl au_l ?_ | refine VX.loadP rfl rfl rfl au_l ?_
  iterate 4 refine VX.meek rfl ?_
  first | refine VX.meek rfl ?_ | refine VX.loadI rfl rfl au_l ?_ | refine VX.loadP rfl rfl rfl au_l ?_
  refine VX.meek rfl ?_
  first | refine VX.add rfl rfl (by omega) ?_ | refine VX.meek rfl ?_
  first | refine VX.maxX rfl rfl ?_ | refine VX.meek rfl ?_
  refine VX.meek rfl ?_
  iterate 2 refine VX.nil ?_
  refine VC.seq ?_
  refine VC.reg tab_ok [] rfl ?_
  iterate 3 refine VX.meek rfl ?_
  refine' VX.merge (d := 44) [_, _, _, _, _, _, _, _] rfl ?_ rfl ?_
  rotate_left
  · refine VX.guard rfl rfl (fun hb3_2 => ?_) (fun hb3_2 => ?_)
    · have ghb3_2 := hb3_2
      try simp only [au_std, Bool.not_true, Bool.not_false] at ghb3_2
      refine VX.meek rfl ?_
      refine VX.guardT rfl rfl hb3_2 ?_
      refine VX.meek rfl ?_
      refine VX.guardT rfl rfl hb3_2 ?_
      refine VX.meek rfl ?_
      refine VX.guardT rfl rfl hb3_2 ?_
      refine VX.meek rfl ?_
      refine VX.guardT rfl rfl hb3_2 ?_
      first | refine VX.meek rfl ?_ | refine VX.loadI rfl rfl au_l ?_ | refine VX.loadP rfl rfl rfl au_l ?_
      refine VX.guardT rfl rfl hb3_2 ?_
      refine VX.callP0 rfl rfl rfl (hle) ?_
      refine VX.guardT rfl rfl hb3_2 ?_
      refine VX.meek rfl ?_
      refine VX.pickO rfl (fun _ => rfl) ?_
      exact VX.nil ⟨rfl, rfl⟩
    · refine VX.guardF rfl rfl hb3_2 ?_
      iterate 5 refine VX.guardF rfl rfl hb3_2 ?_
      exact VX.pickO rfl (fun h => absurd (h.symm.trans hb3_2) (by decide)) (VX.nil ⟨rfl, rfl⟩)
  refine VX.nil ?_
  refine VC.cond rfl (fun hc1 => ?_) (fun hc1 => ?_)
  · (try simp only [au_std] at hc1)
    refine VC.ret ?_
    exact ⟨trivial, _, rfl, rfl, rfl⟩
  · (try simp only [au_std] at hc1); omega
theorem erase_at (e : Ed) (ok : e.c.Ok) (by_ : Int) (k : Nat) (h : e.c.lo = e.c.hi) (hk : k + 1 ≤ e.c.bf.text.length) (h1 : min (e.c.cur : Int) (e.c.cur + by_) = k) (h2 : max (e.c.cur : Int) (e.c.cur + by_) = ((k + 1 : Nat) : Int)) (hb : -10 ≤ by_ ∧ by_ ≤ 10) : CallT Tryz.prog 115 [.ptr 0 0, I64 by_] [.c (edC e)] (fun t H' => t = .tup [] ∧ H' = [.c (edC (e.wc { e.c with bf := e.c.bf.chg ⟨k, (e.c.bf.text.take (k + 1)).drop k, []⟩, cur := k, anc := k }))]) := by
  have hcut := cut_t e ok
  have hcu := ok.cur
  have hlen := ok.bf.len
  have hle := len_p e.c.bf
  have hde := delete_p e.c.bf k (k + 1) (by omega) hk ok.bf.few.1 hlen
  have hbo := both_t { e with c := { e.c with bf := e.c.bf.chg ⟨k, (e.c.bf.text.take (k + 1)).drop k, []⟩ } } k
  rw [decide_eq_false (by simpa using h), show e.c.cut = e.c from by unfold Ec.cut; rw [if_pos h]] at hcut
  replace hcut : CallT Tryz.prog 79 [.ptr 0 0] [.c (edC e)] (fun t H' => t = BL false ∧ H' = [.c (edC e)]) := hcut
  refine CallT.intro tab_ok Tryz.func115 rfl (by kernel_rfl) (Nat.le_of_ble_eq_true rfl) ?_
  refine VC.seq ?_
  refine VC.reg tab_ok [] rfl ?_
  refine VX.meek rfl ?_
  refine VX.callT rfl rfl (CallT.frame (hcut) [0] rfl au_ci au_ci ?_)
  rintro _ _ ⟨rfl, rfl⟩
  refine frK au_co au_co ?_
  refine VX.nil ?_
  refine VC.condF rfl ?_
  refine VC.skip ?_
  refine VC.drw tab_ok [] [_, _, _, _, _, _, _, _, _, _, _, _, _, _] rfl (by kernel_rfl) (by kernel_rfl) ?_
  iterate 4 refine VX.meek rfl ?_
  first | refine VX.meek rfl ?_ | refine VX.loadI rfl rfl au_l ?_ | refine VX.loadP rfl rfl rfl au_l ?_
  iterate 4 refine VX.meek rfl ?_
  first | refine VX.meek rfl ?_ | refine VX.loadI rfl rfl au_l ?_ | refine VX.loadP rfl rfl rfl au_l ?_
  refine VX.meek rfl ?_
  first | refine VX.add rfl rfl (by omega) ?_ | refine VX.meek rfl ?_
  refine VX.minX rfl rfl ?_; rw [h1]
  refine VX.meek rfl ?_
  iterate 2 refine VX.nil ?_
  refine VC.drw tab_ok [] [_, _, _, _, _, _, _, _, _, _, _, _, _, _] rfl (by kernel_rfl) (by kernel_rfl) ?_
  iterate 4 refine VX.meek rfl ?_
  first | refine VX.meek rfl ?_ | refine VX.loadI rfl rfl au_l ?_ | refine VX.loadP rfl rfl rfl au_l ?_
  iterate 4 refine VX.meek rfl ?_
  first | refine VX.meek rfl ?_ | refine VX.loadI rfl rfl au_l ?_ | refine VX.loadP rfl rfl rfl au_l ?_
  refine VX.meek rfl ?_
  first | refine VX.add rfl rfl (by omega) ?_ | refine VX.meek rfl ?_
  refine VX.maxX rfl rfl ?_; rw [h2]
  refine VX.meek rfl ?_
  iterate 2 refine VX.nil ?_
  refine VC.seq ?_
  refine VC.reg tab_ok [] rfl ?_
  iterate 3 refine VX.meek rfl ?_
  refine' VX.merge (d := 44) [_, _, _, _, _, _, _, _] rfl ?_ rfl ?_
  rotate_left
  · refine VX.guard rfl rfl (fun hb3_2 => ?_) (fun hb3_2 => ?_)
    · have ghb3_2 := hb3_2
      try simp only [au_std, Bool.not_true, Bool.not_false] at ghb3_2
      refine VX.meek rfl ?_
      refine VX.guardT rfl rfl hb3_2 ?_
      refine VX.meek rfl ?_
      refine VX.guardT rfl rfl hb3_2 ?_
      refine VX.meek rfl ?_
      refine VX.guardT rfl rfl hb3_2 ?_
      refine VX.meek rfl ?_
      refine VX.guardT rfl rfl hb3_2 ?_
      first | refine VX.meek rfl ?_ | refine VX.loadI rfl rfl au_l ?_ | refine VX.loadP rfl rfl rfl au_l ?_
      refine VX.guardT rfl rfl hb3_2 ?_
      refine VX.callP0 rfl rfl rfl (hle) ?_
      refine VX.guardT rfl rfl hb3_2 ?_
      refine VX.meek rfl ?_
      refine VX.pickO rfl (fun _ => rfl) ?_
      exact VX.nil ⟨rfl, rfl⟩
    · refine VX.guardF rfl rfl hb3_2 ?_
      iterate 5 refine VX.guardF rfl rfl hb3_2 ?_
      exact VX.pickO rfl (fun h => absurd (h.symm.trans hb3_2) (by decide)) (VX.nil ⟨rfl, rfl⟩)
  refine VX.nil ?_
  refine VC.cond rfl (fun hc1 => ?_) (fun hc1 => ?_)
  · (try simp only [au_std] at hc1); omega
  · (try simp only [au_std] at hc1)
    refine VC.skip ?_
    refine VC.reg tab_ok [] rfl ?_
    iterate 4 refine VX.meek rfl ?_
    first | refine VX.meek rfl ?_ | refine VX.loadI rfl rfl au_l ?_ | refine VX.loadP rfl rfl rfl au_l ?_
    iterate 2 refine VX.meek rfl ?_
    refine VX.callP0 rfl rfl rfl (hde) ?_
    iterate 5 refine VX.meek rfl ?_
    refine VX.store rfl rfl rfl rfl rfl au_s rfl ?_
    refine VX.nil ?_
    refine VC.regN tab_ok [] rfl ?_
    iterate 4 refine VX.meek rfl ?_
    refine VX.callT rfl rfl (CallT.frame (hbo) [0] rfl au_ci au_ci ?_)
    rintro _ _ ⟨rfl, rfl⟩
    refine frK au_co au_co ?_
    refine VX.nil ?_
    exact ⟨trivial, _, rfl, rfl, rfl⟩
theorem eraseB_t (e : Ed) (ok : e.c.Ok) : CallT Tryz.prog 115 [.ptr 0 0, I64 (-1)] [.c (edC e)] (fun t H' => t = .tup [] ∧ H' = [.c (edC (e.wc e.c.erase))]) := by
  have hcu := ok.cur
  by_cases h : e.c.lo = e.c.hi
  · by_cases h0 : e.c.cur = 0
    · rw [show e.c.erase = e.c from by unfold Ec.erase; rw [if_neg (by simpa using h), if_pos h0]]
      exact erase_no e ok _ h (.inl ⟨rfl, h0⟩)
    · rw [show e.c.erase = { e.c with bf := e.c.bf.chg ⟨e.c.cur - 1, (e.c.bf.text.take e.c.cur).drop (e.c.cur - 1), []⟩, cur := e.c.cur - 1, anc := e.c.cur - 1 } from by unfold Ec.erase; rw [if_neg (by simpa using h), if_neg h0]]
      have := erase_at e ok (-1) (e.c.cur - 1) h (by omega) (by omega) (by omega) (by omega)
      rw [show e.c.cur - 1 + 1 = e.c.cur by omega] at this
      exact this
  · rw [show e.c.erase = e.c.cut from by unfold Ec.erase; rw [if_pos (by simpa using h)]]
    exact erase_cut e ok _ h
theorem eraseF_t (e : Ed) (ok : e.c.Ok) : CallT Tryz.prog 115 [.ptr 0 0, I64 1] [.c (edC e)] (fun t H' => t = .tup [] ∧ H' = [.c (edC (e.wc e.c.eraseF))]) := by
  have hcu := ok.cur
  by_cases h : e.c.lo = e.c.hi
  · by_cases h0 : e.c.bf.text.length ≤ e.c.cur
    · rw [show e.c.eraseF = e.c from by unfold Ec.eraseF; rw [if_neg (by simpa using h), if_pos h0]]
      exact erase_no e ok _ h (.inr ⟨rfl, h0⟩)
    · rw [show e.c.eraseF = { e.c with bf := e.c.bf.chg ⟨e.c.cur, (e.c.bf.text.take (e.c.cur + 1)).drop e.c.cur, []⟩, cur := e.c.cur, anc := e.c.cur } from by unfold Ec.eraseF; rw [if_neg (by simpa using h), if_neg h0]]
      exact erase_at e ok 1 e.c.cur h (by omega) (by omega) (by omega) (by omega)
  · rw [show e.c.eraseF = e.c.cut from by unfold Ec.eraseF; rw [if_pos (by simpa using h)]]
    exact erase_cut e ok _ h
end
section
open Go.RowKit
set_option maxRecDepth 100000
set_option maxHeartbeats 1000000
def Ed.cmdR (e : Ed) (code time : Int) : List Rq :=
  if code = 99 then (if e.c.lo < e.c.hi then [⟨50, [e.win, 3, time], [], []⟩] else []) else if code = 118 then [⟨52, [e.win, 3, 4, 9, time], [], []⟩] else []
theorem command_t (e : Ed) (ok : e.c.Ok) (code time : Int) : CallT Tryz.prog 112 [.ptr 0 0, I64 code, I64 time] [.c (edC e)] (fun t H' => t = .slc 1 0 (e.cmdR code time).length 4 none ∧ H' = [.c (edC (e.wc (e.c.cmd code))), .c (encL cRq (e.cmdR code time))]) := by
  have hp := ed_pure e
  have hun := undo_p e.c.bf ok.bf
  have hre := redo_p e.c.bf ok.bf
  have hbu := back_t e e.c.bf.undo.1 e.c.bf.undo.2
  have hbr := back_t e e.c.bf.redo.1 e.c.bf.redo.2
  have hle := len_p e.c.bf
  have hte := btext_p e.c.bf
  have hsp := span_p e.c
  have hcu := ok.cur
  have hhi : e.c.hi ≤ e.c.bf.text.length := by unfold Ec.hi; omega
  refine CallT.out ?_
  unfold Ed.cmdR Ec.cmd
  refine CallT.intro tab_ok Tryz.func112 rfl (by kernel_rfl) (Nat.le_of_ble_eq_true rfl) ?_
  refine VC.reg tab_ok [] rfl ?_
  refine VX.meek rfl ?_
  refine VX.nil ?_
  refine VC.seq ?_
  refine VC.reg tab_ok [] rfl ?_
  refine VX.meek rfl ?_
  refine VX.nil ?_
  refine VC.block ?_
  refine VC.reg tab_ok [] rfl ?_
  iterate 2 refine VX.meek rfl ?_
  refine VX.nil ?_
  refine VC.cond rfl (fun hc0 => ?_) (fun hc0 => ?_)
  · (try simp only [au_std] at hc0); rw [if_pos hc0, if_neg (by omega), if_neg (by omega)]
    refine VC.regN tab_ok [] rfl ?_
    iterate 4 refine VX.meek rfl ?_
    first | refine VX.meek rfl ?_ | refine VX.loadI rfl rfl au_l ?_ | refine VX.loadP rfl rfl rfl au_l ?_
    refine VX.callP0 rfl rfl rfl (hun) ?_
    iterate 2 refine VX.meek rfl ?_
    refine VX.callT rfl rfl (CallT.frame (hbu) [0] rfl au_ci au_ci ?_)
    rintro _ _ ⟨rfl, rfl⟩
    refine frK au_co au_co ?_
    refine VX.nil ?_
    refine VC.reg tab_ok [] rfl ?_
    refine VX.meek rfl ?_
    refine VX.nil ?_
    refine VC.ret ?_
    exact ⟨trivial, _, rfl, out2n rfl (CvL.eq rfl (ed_pure _))⟩
  · (try simp only [au_std] at hc0); rw [if_neg hc0]
    refine VC.reg tab_ok [] rfl ?_
    iterate 2 refine VX.meek rfl ?_
    refine VX.nil ?_
    refine VC.cond rfl (fun hc1 => ?_) (fun hc1 => ?_)
    · (try simp only [au_std] at hc1); rw [if_pos hc1, if_neg (by omega), if_neg (by omega)]
      refine VC.regN tab_ok [] rfl ?_
      iterate 4 refine VX.meek rfl ?_
      first | refine VX.meek rfl ?_ | refine VX.loadI rfl rfl au_l ?_ | refine VX.loadP rfl rfl rfl au_l ?_
      refine VX.callP0 rfl rfl rfl (hre) ?_
      iterate 2 refine VX.meek rfl ?_
      refine VX.callT rfl rfl (CallT.frame (hbr) [0] rfl au_ci au_ci ?_)
      rintro _ _ ⟨rfl, rfl⟩
      refine frK au_co au_co ?_
      refine VX.nil ?_
      refine VC.reg tab_ok [] rfl ?_
      refine VX.meek rfl ?_
      refine VX.nil ?_
      refine VC.ret ?_
      exact ⟨trivial, _, rfl, out2n rfl (CvL.eq rfl (ed_pure _))⟩
    · (try simp only [au_std] at hc1); rw [if_neg hc1]
      refine VC.reg tab_ok [] rfl ?_
      iterate 2 refine VX.meek rfl ?_
      refine VX.nil ?_
      refine VC.cond rfl (fun hc2 => ?_) (fun hc2 => ?_)
      · (try simp only [au_std] at hc2); rw [if_pos hc2, if_neg (by omega), if_neg (by omega)]
        refine VC.regN tab_ok [] rfl ?_
        iterate 5 refine VX.meek rfl ?_
        first | refine VX.meek rfl ?_ | refine VX.loadI rfl rfl au_l ?_ | refine VX.loadP rfl rfl rfl au_l ?_
        refine VX.callP0 rfl rfl rfl (hle) ?_
        iterate 3 refine VX.meek rfl ?_
        refine VX.store rfl rfl rfl rfl rfl au_s rfl ?_
        iterate 3 refine VX.meek rfl ?_
        refine VX.store rfl rfl rfl rfl rfl au_s rfl ?_
        refine VX.nil ?_
        refine VC.reg tab_ok [] rfl ?_
        refine VX.meek rfl ?_
        refine VX.nil ?_
        refine VC.ret ?_
        exact ⟨trivial, _, rfl, out2n rfl (CvL.eq rfl (ed_pure _))⟩
      · (try simp only [au_std] at hc2); rw [if_neg hc2]
        refine VC.reg tab_ok [] rfl ?_
        iterate 2 refine VX.meek rfl ?_
        refine VX.nil ?_
        refine VC.cond rfl (fun hc3 => ?_) (fun hc3 => ?_)
        · (try simp only [au_std] at hc3); rw [if_pos hc3, if_pos hc3]
          refine VC.reg tab_ok [] rfl ?_
          iterate 3 refine VX.meek rfl ?_
          first | refine VX.meek rfl ?_ | refine VX.loadI rfl rfl au_l ?_ | refine VX.loadP rfl rfl rfl au_l ?_
          refine VX.callP0 rfl rfl rfl (hsp) ?_
          iterate 5 refine VX.meek rfl ?_
          refine VX.nil ?_
          refine VC.reg tab_ok [] rfl ?_
          iterate 3 refine VX.meek rfl ?_
          refine VX.nil ?_
          refine VC.cond rfl (fun hc4 => ?_) (fun hc4 => ?_)
          · (try simp only [au_std] at hc4); rw [if_pos (by omega), if_pos (by omega)]
            refine VC.reg tab_ok [] rfl ?_
            iterate 4 refine VX.meek rfl ?_
            first | refine VX.meek rfl ?_ | refine VX.loadI rfl rfl au_l ?_ | refine VX.loadP rfl rfl rfl au_l ?_
            refine VX.callP0 rfl rfl rfl (hte) ?_
            iterate 2 refine VX.meek rfl ?_
            refine VX.strMd (p := e.c.lo) (r := e.c.hi) rfl rfl rfl rfl rfl rfl rfl (by omega) hhi ?_
            iterate 2 refine VX.meek rfl ?_
            refine VX.store rfl rfl rfl rfl rfl au_s rfl ?_
            refine VX.nil ?_
            refine VC.view ([(0, .ptr 0 0)]) ([.c (edC (e.wc { e.c with cop := (e.c.bf.text.take e.c.hi).drop e.c.lo }))]) [2] rfl (by refine ⟨[some 0], rfl, by first | trivial | decide, by first | rfl | (simp only [noO, Bool.and_true, Bool.and_eq_true]; first | assumption | (refine ⟨?_, ?_⟩ <;> assumption)) | (simp only [noO, *, Bool.and_true, Bool.true_and, Bool.and_self]; done), ?_, ?_⟩ <;> (repeat' first | exact trivial | exact CvB_n | exact CvB_d | exact CvB_o rfl | refine CvE_app ?_ ?_ | refine CvE_cons rfl ?_ ?_ | refine CvH_cons ?_ ?_ | refine CvB_c rfl ?_ | fail) <;> first | exact au_v | (exact CvL.eq rfl (ed_pure _))) ?_
            refine VC.reg tab_ok [76] rfl ?_
            iterate 3 refine VX.meek rfl ?_
            first | refine VX.meek rfl ?_ | refine VX.loadI rfl rfl au_l ?_ | refine VX.loadP rfl rfl rfl au_l ?_
            refine VX.meek rfl ?_
            refine VX.newI rfl rfl ?_
            refine VX.meek rfl ?_
            refine VX.new rfl rfl ?_
            refine VX.meek rfl ?_
            refine VX.nil ?_
            refine VC.ret ?_
            refine ⟨trivial, _, rfl, out2 (b := 0) (xs := [_, _, _, _]) rfl rfl (CvL.eq rfl (ed_pure _)) ?_⟩; exact au_fr
          · (try simp only [au_std] at hc4); rw [if_neg (by omega), if_neg (by omega)]
            refine VC.skip ?_
            refine VC.reg tab_ok [] rfl ?_
            refine VX.meek rfl ?_
            refine VX.nil ?_
            refine VC.ret ?_
            exact ⟨trivial, _, rfl, out2n rfl (CvL.eq rfl (ed_pure _))⟩
        · (try simp only [au_std] at hc3); rw [if_neg hc3, if_neg hc3]
          refine VC.reg tab_ok [] rfl ?_
          iterate 2 refine VX.meek rfl ?_
          refine VX.nil ?_
          refine VC.cond rfl (fun hc5 => ?_) (fun hc5 => ?_)
          · (try simp only [au_std] at hc5); rw [if_pos hc5]
            refine VC.reg tab_ok [86] rfl ?_
            iterate 3 refine VX.meek rfl ?_
            first | refine VX.meek rfl ?_ | refine VX.loadI rfl rfl au_l ?_ | refine VX.loadP rfl rfl rfl au_l ?_
            refine VX.meek rfl ?_
            refine VX.newI rfl rfl ?_
            refine VX.meek rfl ?_
            refine VX.new rfl rfl ?_
            refine VX.meek rfl ?_
            refine VX.nil ?_
            refine VC.ret ?_
            refine ⟨trivial, _, rfl, out2 (b := 0) (xs := [_, _, _, _]) rfl rfl (CvL.eq rfl (ed_pure _)) ?_⟩; exact au_fr
          · (try simp only [au_std] at hc5); rw [if_neg hc5]
            refine VC.skip ?_
            refine VC.reg tab_ok [] rfl ?_
            refine VX.meek rfl ?_
            refine VX.nil ?_
            refine VC.ret ?_
            exact ⟨trivial, _, rfl, out2n rfl (CvL.eq rfl (ed_pure _))⟩
/- where the cursor goes -/
abbrev goK : List Value := [.int .i64 130, .int .i64 131, .int .i64 132, .int .i64 133, .int .i64 134, .int .i64 135]
abbrev goT (a b c : T) : List T := [.clo 125 [] [a], .clo 126 [] [a], .clo 127 [] [a, b], .clo 128 [] [a, b], .clo 129 [] [a, b, c], .clo 130 [] [a, b, c]]
abbrev ePP (e : Ed) : T := .iptr [.iptr (edC e) 0] 0
theorem goes_t (e : Ed) (ok : e.c.Ok) : CallT Tryz.prog 114 [.ptr 0 0] [.c (edC e)] (fun t H' => t = .om 4 ∧ H' = [.c (edC e), .c [.ptr 0 0], .c [I64 ((spotN e.c.bf.text e.c.cur).1 : Nat)], .c [I64 ((spotN e.c.bf.text e.c.cur).2 : Nat)], .o (mapP goK (goT (.ptr 1 0) (.ptr 2 0) (.ptr 3 0)))]) := by
  have hp := ed_pure e
  have hst := spot_p e.c.bf e.c.cur ok.bf.len ok.cur.1
  refine CallT.intro tab_ok Tryz.func114 rfl (by kernel_rfl) (Nat.le_of_ble_eq_true rfl) ?_
  refine VC.reg tab_ok [] rfl ?_
  refine VX.new rfl rfl ?_
  refine VX.meek rfl ?_
  refine VX.nil ?_
  refine VC.drwS tab_ok [] [_, _, _, _, _, _, _, _, _, _, _, _, _, _, _, _] (_) rfl (by kernel_rfl) (by kernel_rfl) (by kernel_rfl) (seen_refl _) ?_
  refine VS.seg (l1 := [_, _, _, _, _, _, _, _, _, _, _, _, _]) rfl ?_
  first | refine VX.meek rfl ?_ | refine VX.loadI rfl rfl au_l ?_ | refine VX.loadP rfl rfl rfl au_l ?_
  iterate 2 refine VX.meek rfl ?_
  first | refine VX.meek rfl ?_ | refine VX.loadI rfl rfl au_l ?_ | refine VX.loadP rfl rfl rfl au_l ?_
  first | refine VX.meek rfl ?_ | refine VX.loadI rfl rfl au_l ?_ | refine VX.loadP rfl rfl rfl au_l ?_
  iterate 3 refine VX.meek rfl ?_
  first | refine VX.meek rfl ?_ | refine VX.loadI rfl rfl au_l ?_ | refine VX.loadP rfl rfl rfl au_l ?_
  refine VX.callP0 rfl rfl rfl (hst) ?_
  iterate 3 refine VX.meek rfl ?_
  refine VX.nil ?_
  refine VS.hid rfl ?_
  refine VS.seg (l1 := [_]) rfl ?_
  refine VX.new rfl rfl ?_
  refine VX.nil ?_
  refine VS.sto rfl rfl rfl rfl ?_
  refine VS.nil (⟨rfl, Nat.le_of_ble_eq_true rfl, rfl, trivial⟩) ?_
  refine VX.store rfl rfl rfl rfl rfl au_s rfl ?_
  refine VX.nil ?_
  refine VC.reg tab_ok [] rfl ?_
  refine VX.makeMap ?_
  refine VX.meek rfl ?_
  refine VX.insNew tab_ok rfl rfl rfl rfl rfl rfl rfl rfl (by first | rfl | assumption | decide) (by first | assumption | (simp; done)) ?_
  refine VX.meek rfl ?_
  refine VX.insNew tab_ok rfl rfl rfl rfl rfl rfl rfl rfl (by first | rfl | assumption | decide) (by first | assumption | (simp; done)) ?_
  refine VX.meek rfl ?_
  refine VX.insNew tab_ok rfl rfl rfl rfl rfl rfl rfl rfl (by first | rfl | assumption | decide) (by first | assumption | (simp; done)) ?_
  refine VX.meek rfl ?_
  refine VX.insNew tab_ok rfl rfl rfl rfl rfl rfl rfl rfl (by first | rfl | assumption | decide) (by first | assumption | (simp; done)) ?_
  refine VX.meek rfl ?_
  refine VX.insNew tab_ok rfl rfl rfl rfl rfl rfl rfl rfl (by first | rfl | assumption | decide) (by first | assumption | (simp; done)) ?_
  refine VX.meek rfl ?_
  refine VX.insNew tab_ok rfl rfl rfl rfl rfl rfl rfl rfl (by first | rfl | assumption | decide) (by first | assumption | (simp; done)) ?_
  iterate 2 refine VX.meek rfl ?_
  refine VX.nil ?_
  refine VC.ret ?_
  exact ⟨trivial, _, rfl, rfl, rfl⟩
theorem go1_p (e : Ed) (ok : e.c.Ok) : CallP Tryz.prog 125 [ePP e] (I64 (e.c.cur - 1 : Nat)) := by
  have hp := ed_pure e
  have hcu := ok.cur
  have hlen := ok.bf.len
  have e1 : max ((e.c.cur : Int) - 1) 0 = ((e.c.cur - 1 : Nat) : Int) := by omega
  refine CallP.intro2 au_pu au_pu ?_
  refine CallT.intro tab_ok Tryz.func125 rfl (by kernel_rfl) (Nat.le_of_ble_eq_true rfl) ?_
  refine VC.reg tab_ok [] rfl ?_
  refine VX.meek rfl ?_
  refine VX.nil ?_
  refine VC.reg tab_ok [] rfl ?_
  first | refine VX.meek rfl ?_ | refine VX.loadI rfl rfl au_l ?_ | refine VX.loadP rfl rfl rfl au_l ?_
  iterate 3 refine VX.meek rfl ?_
  first | refine VX.meek rfl ?_ | refine VX.loadI rfl rfl au_l ?_ | refine VX.loadP rfl rfl rfl au_l ?_
  first | refine VX.sub rfl rfl (by omega) ?_ | refine VX.meek rfl ?_
  refine VX.maxX rfl rfl ?_; rw [e1]
  refine VX.meek rfl ?_
  refine VX.nil ?_
  refine VC.ret ?_
  exact ⟨trivial, _, rfl, Cv.eq rfl rfl⟩
theorem go2_p (e : Ed) (ok : e.c.Ok) : CallP Tryz.prog 126 [ePP e] (I64 (min (e.c.cur + 1) e.c.bf.text.length : Nat)) := by
  have hp := ed_pure e
  have hcu := ok.cur
  have hlen := ok.bf.len
  have hle := len_p e.c.bf
  have e1 : min ((e.c.cur : Int) + 1) (e.c.bf.text.length : Int) = ((min (e.c.cur + 1) e.c.bf.text.length : Nat) : Int) := by omega
  refine CallP.intro2 au_pu au_pu ?_
  refine CallT.intro tab_ok Tryz.func126 rfl (by kernel_rfl) (Nat.le_of_ble_eq_true rfl) ?_
  refine VC.reg tab_ok [] rfl ?_
  refine VX.meek rfl ?_
  refine VX.nil ?_
  refine VC.drw tab_ok [] [_, _, _, _, _, _, _, _, _, _, _, _, _] rfl (by kernel_rfl) (by kernel_rfl) ?_
  first | refine VX.meek rfl ?_ | refine VX.loadI rfl rfl au_l ?_ | refine VX.loadP rfl rfl rfl au_l ?_
  iterate 3 refine VX.meek rfl ?_
  first | refine VX.meek rfl ?_ | refine VX.loadI rfl rfl au_l ?_ | refine VX.loadP rfl rfl rfl au_l ?_
  first | refine VX.add rfl rfl (by omega) ?_ | refine VX.meek rfl ?_
  first | refine VX.meek rfl ?_ | refine VX.loadI rfl rfl au_l ?_ | refine VX.loadP rfl rfl rfl au_l ?_
  iterate 2 refine VX.meek rfl ?_
  first | refine VX.meek rfl ?_ | refine VX.loadI rfl rfl au_l ?_ | refine VX.loadP rfl rfl rfl au_l ?_
  refine VX.callP0 rfl rfl rfl (hle) ?_
  refine VX.minX rfl rfl ?_; rw [e1]
  refine VX.meek rfl ?_
  iterate 2 refine VX.nil ?_
  refine VC.ret ?_
  exact ⟨trivial, _, rfl, Cv.eq rfl rfl⟩
theorem go3_p (e : Ed) (ok : e.c.Ok) (a : Nat) (ha : a ≤ 10000) : CallP Tryz.prog 127 [ePP e, .iptr [I64 a] 0] (I64 (placeN e.c.bf.text a 0 : Nat)) := by
  have hp := ed_pure e
  have hpl := place_p e.c.bf a 0 ok.bf.len (by omega) (by omega)
  refine CallP.intro2 au_pu au_pu ?_
  refine CallT.intro tab_ok Tryz.func127 rfl (by kernel_rfl) (Nat.le_of_ble_eq_true rfl) ?_
  refine VC.reg tab_ok [] rfl ?_
  refine VX.meek rfl ?_
  refine VX.nil ?_
  refine VC.drw tab_ok [] [_, _, _, _, _, _, _] rfl (by kernel_rfl) (by kernel_rfl) ?_
  first | refine VX.meek rfl ?_ | refine VX.loadI rfl rfl au_l ?_ | refine VX.loadP rfl rfl rfl au_l ?_
  iterate 2 refine VX.meek rfl ?_
  first | refine VX.meek rfl ?_ | refine VX.loadI rfl rfl au_l ?_ | refine VX.loadP rfl rfl rfl au_l ?_
  first | refine VX.meek rfl ?_ | refine VX.loadI rfl rfl au_l ?_ | refine VX.loadP rfl rfl rfl au_l ?_
  refine VX.callP0 rfl rfl rfl (hpl) ?_
  refine VX.meek rfl ?_
  iterate 2 refine VX.nil ?_
  refine VC.ret ?_
  exact ⟨trivial, _, rfl, Cv.eq rfl rfl⟩
theorem go4_p (e : Ed) (ok : e.c.Ok) (a : Nat) (ha : a ≤ 10000) : CallP Tryz.prog 128 [ePP e, .iptr [I64 a] 0] (I64 (placeN e.c.bf.text a (lineN e.c.bf.text a).length : Nat)) := by
  have hp := ed_pure e
  have hlen := ok.bf.len
  have hln := line_p e.c.bf a hlen (by omega)
  have hll : (lineN e.c.bf.text a).length ≤ e.c.bf.text.length := by unfold lineN; split; exact Nat.zero_le _; rw [List.length_drop, List.length_take]; omega
  have hpl := place_p e.c.bf a (lineN e.c.bf.text a).length hlen (by omega) (by omega)
  refine CallP.intro2 au_pu au_pu ?_
  refine CallT.intro tab_ok Tryz.func128 rfl (by kernel_rfl) (Nat.le_of_ble_eq_true rfl) ?_
  refine VC.reg tab_ok [] rfl ?_
  refine VX.meek rfl ?_
  refine VX.nil ?_
  refine VC.drw tab_ok [] [_, _, _, _, _, _, _, _, _, _, _, _, _, _] rfl (by kernel_rfl) (by kernel_rfl) ?_
  first | refine VX.meek rfl ?_ | refine VX.loadI rfl rfl au_l ?_ | refine VX.loadP rfl rfl rfl au_l ?_
  iterate 2 refine VX.meek rfl ?_
  first | refine VX.meek rfl ?_ | refine VX.loadI rfl rfl au_l ?_ | refine VX.loadP rfl rfl rfl au_l ?_
  first | refine VX.meek rfl ?_ | refine VX.loadI rfl rfl au_l ?_ | refine VX.loadP rfl rfl rfl au_l ?_
  first | refine VX.meek rfl ?_ | refine VX.loadI rfl rfl au_l ?_ | refine VX.loadP rfl rfl rfl au_l ?_
  iterate 2 refine VX.meek rfl ?_
  first | refine VX.meek rfl ?_ | refine VX.loadI rfl rfl au_l ?_ | refine VX.loadP rfl rfl rfl au_l ?_
  first | refine VX.meek rfl ?_ | refine VX.loadI rfl rfl au_l ?_ | refine VX.loadP rfl rfl rfl au_l ?_
  refine VX.callP0 rfl rfl rfl (hln) ?_
  refine VX.meek (t := I64 ((lineN e.c.bf.text a).length : Nat)) rfl ?_
  refine VX.callP0 rfl rfl rfl (hpl) ?_
  refine VX.meek rfl ?_
  iterate 2 refine VX.nil ?_
  refine VC.ret ?_
  exact ⟨trivial, _, rfl, Cv.eq rfl rfl⟩
theorem go5_p (e : Ed) (ok : e.c.Ok) (a b : Nat) (ha : a ≤ 10000) (hb : b ≤ 10000) : CallP Tryz.prog 129 [ePP e, .iptr [I64 a] 0, .iptr [I64 b] 0] (I64 (placeN e.c.bf.text ((a : Int) - 1) b : Nat)) := by
  have hp := ed_pure e
  have hpl := place_p e.c.bf ((a : Int) - 1) b ok.bf.len (by omega) (by omega)
  refine CallP.intro2 au_pu au_pu ?_
  refine CallT.intro tab_ok Tryz.func129 rfl (by kernel_rfl) (Nat.le_of_ble_eq_true rfl) ?_
  refine VC.reg tab_ok [] rfl ?_
  refine VX.meek rfl ?_
  refine VX.nil ?_
  refine VC.drw tab_ok [] [_, _, _, _, _, _, _, _, _] rfl (by kernel_rfl) (by kernel_rfl) ?_
  first | refine VX.meek rfl ?_ | refine VX.loadI rfl rfl au_l ?_ | refine VX.loadP rfl rfl rfl au_l ?_
  iterate 2 refine VX.meek rfl ?_
  first | refine VX.meek rfl ?_ | refine VX.loadI rfl rfl au_l ?_ | refine VX.loadP rfl rfl rfl au_l ?_
  first | refine VX.meek rfl ?_ | refine VX.loadI rfl rfl au_l ?_ | refine VX.loadP rfl rfl rfl au_l ?_
  first | refine VX.sub rfl rfl (by omega) ?_ | refine VX.meek rfl ?_
  first | refine VX.meek rfl ?_ | refine VX.loadI rfl rfl au_l ?_ | refine VX.loadP rfl rfl rfl au_l ?_
  refine VX.callP0 rfl rfl rfl (hpl) ?_
  refine VX.meek rfl ?_
  iterate 2 refine VX.nil ?_
  refine VC.ret ?_
  exact ⟨trivial, _, rfl, Cv.eq rfl rfl⟩
theorem go6_p (e : Ed) (ok : e.c.Ok) (a b : Nat) (ha : a ≤ 10000) (hb : b ≤ 10000) : CallP Tryz.prog 130 [ePP e, .iptr [I64 a] 0, .iptr [I64 b] 0] (I64 (placeN e.c.bf.text ((a : Int) + 1) b : Nat)) := by
  have hp := ed_pure e
  have hpl := place_p e.c.bf ((a : Int) + 1) b ok.bf.len (by omega) (by omega)
  refine CallP.intro2 au_pu au_pu ?_
  refine CallT.intro tab_ok Tryz.func130 rfl (by kernel_rfl) (Nat.le_of_ble_eq_true rfl) ?_
  refine VC.reg tab_ok [] rfl ?_
  refine VX.meek rfl ?_
  refine VX.nil ?_
  refine VC.drw tab_ok [] [_, _, _, _, _, _, _, _, _] rfl (by kernel_rfl) (by kernel_rfl) ?_
  first | refine VX.meek rfl ?_ | refine VX.loadI rfl rfl au_l ?_ | refine VX.loadP rfl rfl rfl au_l ?_
  iterate 2 refine VX.meek rfl ?_
  first | refine VX.meek rfl ?_ | refine VX.loadI rfl rfl au_l ?_ | refine VX.loadP rfl rfl rfl au_l ?_
  first | refine VX.meek rfl ?_ | refine VX.loadI rfl rfl au_l ?_ | refine VX.loadP rfl rfl rfl au_l ?_
  first | refine VX.add rfl rfl (by omega) ?_ | refine VX.meek rfl ?_
  first | refine VX.meek rfl ?_ | refine VX.loadI rfl rfl au_l ?_ | refine VX.loadP rfl rfl rfl au_l ?_
  refine VX.callP0 rfl rfl rfl (hpl) ?_
  refine VX.meek rfl ?_
  iterate 2 refine VX.nil ?_
  refine VC.ret ?_
  exact ⟨trivial, _, rfl, Cv.eq rfl rfl⟩
end
section
open Go.RowKit
set_option maxRecDepth 100000
set_option maxHeartbeats 1000000
def Ed.keyR (e : Ed) (code mods time : Int) : List Rq := if mods = 4 then e.cmdR code time else []
abbrev KeyT (e : Ed) (code mods time : Int) (l : List Rq) (c : Ec) : Prop := CallT Tryz.prog 85 [.ptr 0 0, I64 code, I64 mods, I64 time] [.c (edC e)] (fun t H' => t = .slc 1 0 l.length 4 none ∧ H' = [.c (edC (e.wc c)), .c (encL cRq l)])
theorem key_cmd (e : Ed) (ok : e.c.Ok) (code time : Int) : KeyT e code 4 time (e.cmdR code time) (e.c.cmd code) := by
  have hc := command_t e ok code time
  have hpl := encL_pure cRq (e.cmdR code time)
  refine CallT.intro tab_ok Tryz.func85 rfl (by kernel_rfl) (Nat.le_of_ble_eq_true rfl) ?_
  refine VC.reg tab_ok [] rfl ?_
  refine VX.meek rfl ?_
  refine VX.nil ?_
  refine VC.seq ?_
  refine VC.reg tab_ok [] rfl ?_
  iterate 2 refine VX.meek rfl ?_
  refine VX.nil ?_
  refine VC.condT rfl ?_
  refine VC.reg tab_ok [] rfl ?_
  iterate 3 refine VX.meek rfl ?_
  refine VX.callT rfl rfl (CallT.frame (hc) [0] rfl au_ci au_ci ?_)
  rintro _ _ ⟨rfl, rfl⟩
  refine frK au_co au_co ?_
  refine VX.meek rfl ?_
  refine VX.nil ?_
  refine VC.ret ?_
  exact ⟨trivial, _, rfl, rfl, rfl⟩
theorem key_big (e : Ed) (code mods time : Int) (h : 1 < mods) (h4 : mods ≠ 4) : KeyT e code mods time [] e.c := by
  refine CallT.out ?_
  refine CallT.intro tab_ok Tryz.func85 rfl (by kernel_rfl) (Nat.le_of_ble_eq_true rfl) ?_
  refine VC.reg tab_ok [] rfl ?_
  refine VX.meek rfl ?_
  refine VX.nil ?_
  refine VC.seq ?_
  refine VC.reg tab_ok [] rfl ?_
  iterate 2 refine VX.meek rfl ?_
  refine VX.nil ?_
  refine VC.cond rfl (fun hc0 => ?_) (fun hc0 => ?_)
  · exact absurd hc0 (by simp [h4])
  · (try simp only [au_std] at hc0)
    refine VC.skip ?_
    refine VC.seq ?_
    refine VC.reg tab_ok [] rfl ?_
    iterate 2 refine VX.meek rfl ?_
    refine VX.nil ?_
    refine VC.cond rfl (fun hc1 => ?_) (fun hc1 => ?_)
    · (try simp only [au_std] at hc1)
      refine VC.reg tab_ok [] rfl ?_
      refine VX.meek rfl ?_
      refine VX.nil ?_
      refine VC.ret ?_
      exact ⟨trivial, _, rfl, out2n rfl (CvL.pure (ed_pure _))⟩
    · (try simp only [au_std] at hc1); omega
theorem key_put (e : Ed) (ok : e.c.Ok) (code mods time : Int) (hm : mods = 0 ∨ mods = 1) (b : UInt8) (hl : lok code mods = true) (hb : lby code mods = (b.toNat : Int)) (hr : rightB [b] = true) : KeyT e code mods time [] (e.c.put [b]) := by
  have hle := letter_p code mods
  rw [hl, hb] at hle
  have hpu := put_t e ok [b] (by simp) hr (by simp)
  refine CallT.out ?_
  refine CallT.intro tab_ok Tryz.func85 rfl (by kernel_rfl) (Nat.le_of_ble_eq_true rfl) ?_
  refine VC.reg tab_ok [] rfl ?_
  refine VX.meek rfl ?_
  refine VX.nil ?_
  refine VC.seq ?_
  refine VC.reg tab_ok [] rfl ?_
  iterate 2 refine VX.meek rfl ?_
  refine VX.nil ?_
  refine VC.cond rfl (fun hc0 => ?_) (fun hc0 => ?_)
  · exact absurd hc0 (by simp; omega)
  · (try simp only [au_std] at hc0)
    refine VC.skip ?_
    refine VC.seq ?_
    refine VC.reg tab_ok [] rfl ?_
    iterate 2 refine VX.meek rfl ?_
    refine VX.nil ?_
    refine VC.cond rfl (fun hc1 => ?_) (fun hc1 => ?_)
    · (try simp only [au_std] at hc1); omega
    · (try simp only [au_std] at hc1)
      refine VC.skip ?_
      refine VC.seq ?_
      refine VC.reg tab_ok [] rfl ?_
      iterate 2 refine VX.meek rfl ?_
      refine VX.callP0 rfl rfl rfl (hle) ?_
      iterate 5 refine VX.meek rfl ?_
      refine VX.nil ?_
      refine VC.reg tab_ok [] rfl ?_
      refine VX.meek rfl ?_
      refine VX.nil ?_
      refine VC.condT rfl ?_
      refine VC.reg tab_ok [30] rfl ?_
      iterate 2 refine VX.meek rfl ?_
      refine VX.newI rfl rfl ?_
      first | refine VX.strI (xs := [b]) rfl rfl rfl rfl rfl rfl rfl (Nat.le_of_ble_eq_true rfl) rfl ?_ | refine VX.strY (xs := [b]) rfl rfl rfl rfl rfl rfl rfl rfl (Nat.le_of_ble_eq_true rfl) rfl ?_
      refine VX.callT rfl rfl (CallT.frame (hpu) [0] rfl au_ci au_ci ?_)
      rintro _ _ ⟨rfl, rfl⟩
      refine frK au_co au_co ?_
      refine VX.nil ?_
      refine VC.reg tab_ok [] rfl ?_
      refine VX.meek rfl ?_
      refine VX.nil ?_
      refine VC.ret ?_
      exact ⟨trivial, _, rfl, out2n rfl (CvL.pure (ed_pure _))⟩
abbrev goH (e : Ed) : Hp := [.c (edC e), .c [.ptr 0 0], .c [I64 ((spotN e.c.bf.text e.c.cur).1 : Nat)], .c [I64 ((spotN e.c.bf.text e.c.cur).2 : Nat)], .o (mapP goK (goT (.ptr 1 0) (.ptr 2 0) (.ptr 3 0)))]
theorem key_go (e : Ed) (ok : e.c.Ok) (code mods time : Int) (hm : mods = 0 ∨ mods = 1) (hl : lok code mods = false) (f : FuncId) (cs cs' : List T) (k : Nat)
    (hlk : mLook2 tab 159 goK (goT (.ptr 1 0) (.ptr 2 0) (.ptr 3 0)) (.int .i64 code) true = some (.tup [.clo f [] cs, BL true]))
    (hcl : CallP Tryz.prog f cs' (I64 k)) (hcv : CvL (vwL (goH e) []) cs cs') : KeyT e code mods time [] (if mods = 0 then { e.c with cur := k, anc := k } else { e.c with cur := k }) := by
  have hle := letter_p code mods
  rw [hl] at hle
  have hgo := goes_t e ok
  refine CallT.out ?_
  refine CallT.intro tab_ok Tryz.func85 rfl (by kernel_rfl) (Nat.le_of_ble_eq_true rfl) ?_
  refine VC.reg tab_ok [] rfl ?_
  refine VX.meek rfl ?_
  refine VX.nil ?_
  refine VC.seq ?_
  refine VC.reg tab_ok [] rfl ?_
  iterate 2 refine VX.meek rfl ?_
  refine VX.nil ?_
  refine VC.cond rfl (fun hc0 => ?_) (fun hc0 => ?_)
  · exact absurd hc0 (by simp; omega)
  · (try simp only [au_std] at hc0)
    refine VC.skip ?_
    refine VC.seq ?_
    refine VC.reg tab_ok [] rfl ?_
    iterate 2 refine VX.meek rfl ?_
    refine VX.nil ?_
    refine VC.cond rfl (fun hc1 => ?_) (fun hc1 => ?_)
    · (try simp only [au_std] at hc1); omega
    · (try simp only [au_std] at hc1)
      refine VC.skip ?_
      refine VC.seq ?_
      refine VC.reg tab_ok [] rfl ?_
      iterate 2 refine VX.meek rfl ?_
      refine VX.callP0 rfl rfl rfl (hle) ?_
      iterate 5 refine VX.meek rfl ?_
      refine VX.nil ?_
      refine VC.reg tab_ok [] rfl ?_
      refine VX.meek rfl ?_
      refine VX.nil ?_
      refine VC.condF rfl ?_
      refine VC.skip ?_
      refine VC.seq ?_
      refine VC.reg tab_ok [] rfl ?_
      refine VX.meek rfl ?_
      refine VX.callT rfl rfl (hgo.mono ?_); rintro _ _ ⟨rfl, rfl⟩
      refine VX.meek rfl ?_
      refine VX.lookO tab_ok rfl rfl rfl hlk ?_
      iterate 5 refine VX.meek rfl ?_
      refine VX.nil ?_
      refine VC.reg tab_ok [] rfl ?_
      refine VX.meek rfl ?_
      refine VX.nil ?_
      refine VC.condT rfl ?_
      refine VC.reg tab_ok [] rfl ?_
      iterate 2 refine VX.meek rfl ?_
      refine VX.callB rfl rfl hcl rfl hcv ?_
      iterate 3 refine VX.meek rfl ?_
      refine VX.store rfl rfl rfl rfl rfl au_s rfl ?_
      refine VX.nil ?_
      refine VC.seq ?_
      refine VC.reg tab_ok [] rfl ?_
      iterate 2 refine VX.meek rfl ?_
      refine VX.nil ?_
      refine VC.cond rfl (fun hc4 => ?_) (fun hc4 => ?_)
      · (try simp only [au_std] at hc4); rw [if_pos hc4]
        refine VC.regN tab_ok [] rfl ?_
        iterate 5 refine VX.meek rfl ?_
        first | refine VX.meek rfl ?_ | refine VX.loadI rfl rfl au_l ?_ | refine VX.loadP rfl rfl rfl au_l ?_
        iterate 3 refine VX.meek rfl ?_
        refine VX.store rfl rfl rfl rfl rfl au_s rfl ?_
        refine VX.nil ?_
        refine VC.reg tab_ok [] rfl ?_
        refine VX.meek rfl ?_
        refine VX.nil ?_
        refine VC.ret ?_
        exact ⟨trivial, _, rfl, out2n rfl (CvL.eq rfl (ed_pure _))⟩
      · (try simp only [au_std] at hc4); rw [if_neg hc4]
        refine VC.skip ?_
        refine VC.reg tab_ok [] rfl ?_
        refine VX.meek rfl ?_
        refine VX.nil ?_
        refine VC.ret ?_
        exact ⟨trivial, _, rfl, out2n rfl (CvL.eq rfl (ed_pure _))⟩
theorem goes_no (code : Int) (a b c : T) (h : code < 130 ∨ 135 < code) : mLook2 tab 159 goK (goT a b c) (.int .i64 code) true = some (.tup [.v .nilFunc, BL false]) := by
  have e : mFind (.int .i64) (.int .i64 code) goK (goT a b c) = none := by
    simp only [mFind, likeK, if_true, Option.some.injEq, beq_iff_eq]
    rw [if_neg (by omega), if_neg (by omega), if_neg (by omega), if_neg (by omega), if_neg (by omega), if_neg (by omega)]
  unfold mLook2
  simp only [tab_159, tab_3, tab_47, e]
  rfl
def Ec.ctl (e : Ec) (code : Int) : Ec := if code = 13 then e.put [10] else if code = 8 then e.erase else if code = 127 then e.eraseF else e
theorem key_ctl (e : Ed) (ok : e.c.Ok) (code mods time : Int) (hm : mods = 0 ∨ mods = 1) (hl : lok code mods = false) (hg : code < 130 ∨ 135 < code) : KeyT e code mods time [] (if mods ≠ 0 then e.c else e.c.ctl code) := by
  have hle := letter_p code mods
  rw [hl] at hle
  have hgo := goes_t e ok
  have hlk := goes_no code (.ptr 1 0) (.ptr 2 0) (.ptr 3 0) hg
  have hpu := put_t e ok [10] (by simp) (by decide) (by simp)
  have heb := eraseB_t e ok
  have hef := eraseF_t e ok
  refine CallT.out ?_
  unfold Ec.ctl
  refine CallT.intro tab_ok Tryz.func85 rfl (by kernel_rfl) (Nat.le_of_ble_eq_true rfl) ?_
  refine VC.reg tab_ok [] rfl ?_
  refine VX.meek rfl ?_
  refine VX.nil ?_
  refine VC.seq ?_
  refine VC.reg tab_ok [] rfl ?_
  iterate 2 refine VX.meek rfl ?_
  refine VX.nil ?_
  refine VC.cond rfl (fun hc0 => ?_) (fun hc0 => ?_)
  · exact absurd hc0 (by simp; omega)
  · (try simp only [au_std] at hc0)
    refine VC.skip ?_
    refine VC.seq ?_
    refine VC.reg tab_ok [] rfl ?_
    iterate 2 refine VX.meek rfl ?_
    refine VX.nil ?_
    refine VC.cond rfl (fun hc1 => ?_) (fun hc1 => ?_)
    · (try simp only [au_std] at hc1); omega
    · (try simp only [au_std] at hc1)
      refine VC.skip ?_
      refine VC.seq ?_
      refine VC.reg tab_ok [] rfl ?_
      iterate 2 refine VX.meek rfl ?_
      refine VX.callP0 rfl rfl rfl (hle) ?_
      iterate 5 refine VX.meek rfl ?_
      refine VX.nil ?_
      refine VC.reg tab_ok [] rfl ?_
      refine VX.meek rfl ?_
      refine VX.nil ?_
      refine VC.condF rfl ?_
      refine VC.skip ?_
      refine VC.seq ?_
      refine VC.reg tab_ok [] rfl ?_
      refine VX.meek rfl ?_
      refine VX.callT rfl rfl (hgo.mono ?_); rintro _ _ ⟨rfl, rfl⟩
      refine VX.meek rfl ?_
      refine VX.lookO tab_ok rfl rfl rfl hlk ?_
      iterate 5 refine VX.meek rfl ?_
      refine VX.nil ?_
      refine VC.view ([(0, .ptr 0 0), (12, BL false)]) ([.c (edC e)]) [1, 2, 11] rfl (by refine ⟨[some 0], rfl, by first | trivial | decide, by first | rfl | (simp only [noO, Bool.and_true, Bool.and_eq_true]; first | assumption | (refine ⟨?_, ?_⟩ <;> assumption)) | (simp only [noO, *, Bool.and_true, Bool.true_and, Bool.and_self]; done), ?_, ?_⟩ <;> (repeat' first | exact trivial | exact CvB_n | exact CvB_d | exact CvB_o rfl | refine CvE_app ?_ ?_ | refine CvE_cons rfl ?_ ?_ | refine CvH_cons ?_ ?_ | refine CvB_c rfl ?_ | fail) <;> first | exact au_v | (first | exact CvL.pure (ed_pure _) | exact Cv.pure rfl)) ?_
      refine VC.reg tab_ok [] rfl ?_
      refine VX.meek rfl ?_
      refine VX.nil ?_
      refine VC.condF rfl ?_
      refine VC.skip ?_
      refine VC.seq ?_
      refine VC.reg tab_ok [] rfl ?_
      iterate 2 refine VX.meek rfl ?_
      refine VX.nil ?_
      refine VC.cond rfl (fun hc5 => ?_) (fun hc5 => ?_)
      · (try simp only [au_std] at hc5); rw [if_pos hc5]
        refine VC.reg tab_ok [] rfl ?_
        refine VX.meek rfl ?_
        refine VX.nil ?_
        refine VC.ret ?_
        exact ⟨trivial, _, rfl, out2n rfl (CvL.eq rfl (ed_pure _))⟩
      · (try simp only [au_std] at hc5); rw [if_neg (by simpa using hc5)]
        refine VC.skip ?_
        refine VC.seq ?_
        refine VC.reg tab_ok [] rfl ?_
        refine VX.meek rfl ?_
        refine VX.nil ?_
        refine VC.block ?_
        refine VC.reg tab_ok [] rfl ?_
        iterate 2 refine VX.meek rfl ?_
        refine VX.nil ?_
        refine VC.cond rfl (fun hc6 => ?_) (fun hc6 => ?_)
        · (try simp only [au_std] at hc6); rw [if_pos hc6]
          refine VC.regN tab_ok [] rfl ?_
          refine VX.meek rfl ?_
          refine VX.callT rfl rfl (CallT.frame (hpu) [0] rfl au_ci au_ci ?_)
          rintro _ _ ⟨rfl, rfl⟩
          refine frK au_co au_co ?_
          refine VX.nil ?_
          refine VC.reg tab_ok [] rfl ?_
          refine VX.meek rfl ?_
          refine VX.nil ?_
          refine VC.ret ?_
          exact ⟨trivial, _, rfl, out2n rfl (CvL.eq rfl (ed_pure _))⟩
        · (try simp only [au_std] at hc6); rw [if_neg hc6]
          refine VC.reg tab_ok [] rfl ?_
          iterate 2 refine VX.meek rfl ?_
          refine VX.nil ?_
          refine VC.cond rfl (fun hc7 => ?_) (fun hc7 => ?_)
          · (try simp only [au_std] at hc7); rw [if_pos hc7]
            refine VC.regN tab_ok [] rfl ?_
            refine VX.meek rfl ?_
            refine VX.callT rfl rfl (CallT.frame (heb) [0] rfl au_ci au_ci ?_)
            rintro _ _ ⟨rfl, rfl⟩
            refine frK au_co au_co ?_
            refine VX.nil ?_
            refine VC.reg tab_ok [] rfl ?_
            refine VX.meek rfl ?_
            refine VX.nil ?_
            refine VC.ret ?_
            exact ⟨trivial, _, rfl, out2n rfl (CvL.eq rfl (ed_pure _))⟩
          · (try simp only [au_std] at hc7); rw [if_neg hc7]
            refine VC.reg tab_ok [] rfl ?_
            iterate 2 refine VX.meek rfl ?_
            refine VX.nil ?_
            refine VC.cond rfl (fun hc8 => ?_) (fun hc8 => ?_)
            · (try simp only [au_std] at hc8); rw [if_pos hc8]
              refine VC.regN tab_ok [] rfl ?_
              refine VX.meek rfl ?_
              refine VX.callT rfl rfl (CallT.frame (hef) [0] rfl au_ci au_ci ?_)
              rintro _ _ ⟨rfl, rfl⟩
              refine frK au_co au_co ?_
              refine VX.nil ?_
              refine VC.reg tab_ok [] rfl ?_
              refine VX.meek rfl ?_
              refine VX.nil ?_
              refine VC.ret ?_
              exact ⟨trivial, _, rfl, out2n rfl (CvL.eq rfl (ed_pure _))⟩
            · (try simp only [au_std] at hc8); rw [if_neg hc8]
              refine VC.skip ?_
              refine VC.reg tab_ok [] rfl ?_
              refine VX.meek rfl ?_
              refine VX.nil ?_
              refine VC.ret ?_
              exact ⟨trivial, _, rfl, out2n rfl (CvL.eq rfl (ed_pure _))⟩
theorem okB_let {b : UInt8} (h : 32 ≤ b.toNat ∧ b.toNat ≤ 126) : rightB [b] = true := by
  unfold rightB okB
  simp
  omega
theorem letN_yes {code mods : Int} (h : lok code mods = true) : ∃ b : UInt8, letN code mods = some b ∧ lby code mods = (b.toNat : Int) ∧ 32 ≤ b.toNat ∧ b.toNat ≤ 126 := by
  have h2 : 32 ≤ code ∧ code ≤ 126 ∧ 0 ≤ mods ∧ mods ≤ 1 := by unfold lok at h; simp at h; omega
  have hv : ∀ v : Int, 32 ≤ v → v ≤ 126 → ((UInt8.ofNat v.toNat).toNat : Int) = v := fun v h1 h2 => by rw [UInt8.toNat_ofNat']; omega
  unfold letN lby
  rw [if_neg (by omega), if_pos h]
  by_cases hc : mods = 1 ∧ 97 ≤ code ∧ code ≤ 122
  · rw [if_pos hc]
    have := hv (code - 32) (by omega) (by omega)
    exact ⟨_, rfl, this.symm, by omega, by omega⟩
  · rw [if_neg hc]
    have := hv code (by omega) (by omega)
    exact ⟨_, rfl, this.symm, by omega, by omega⟩
theorem letN_no {code mods : Int} (h : lok code mods = false) : letN code mods = none := by
  unfold letN
  rw [if_pos]
  unfold lok at h
  simp at h
  omega
theorem key_t (e : Ed) (ok : e.c.Ok) (code mods time : Int) (hm : 0 ≤ mods ∧ mods ≤ 255) : KeyT e code mods time (e.keyR code mods time) (e.c.key code mods) := by
  have hsl := spotN_le e.c.bf.text e.c.cur
  have hlen := ok.bf.len
  unfold Ed.keyR Ec.key
  by_cases h4 : mods = 4
  · subst h4
    rw [if_pos rfl, if_pos rfl]
    exact key_cmd e ok code time
  rw [if_neg h4, if_neg h4]
  by_cases h1 : 1 < mods
  · rw [if_pos h1]
    exact key_big e code mods time h1 h4
  rw [if_neg h1]
  have hm2 : mods = 0 ∨ mods = 1 := by omega
  cases hl : lok code mods with
  | true =>
    obtain ⟨b, hb1, hb2, hb3⟩ := letN_yes hl
    rw [hb1]
    exact key_put e ok code mods time hm2 b hl hb2 (okB_let hb3)
  | false =>
    rw [letN_no hl]
    dsimp only
    have c1 : CvL (vwL (goH e) []) [.ptr 1 0] [ePP e] := CvL.cons (Cv.fptr ⟨rfl, by simp⟩ (CvL.cons (Cv.fptr ⟨rfl, by simp⟩ (CvL.pure (ed_pure e))) CvL.nil)) CvL.nil
    have c2 : CvL (vwL (goH e) []) [.ptr 1 0, .ptr 2 0] [ePP e, .iptr [I64 ((spotN e.c.bf.text e.c.cur).1 : Nat)] 0] := CvL.cons (Cv.fptr ⟨rfl, by simp⟩ (CvL.cons (Cv.fptr ⟨rfl, by simp⟩ (CvL.pure (ed_pure e))) CvL.nil)) (CvL.cons (Cv.fptr ⟨rfl, by simp⟩ (CvL.pure rfl)) CvL.nil)
    have c3 : CvL (vwL (goH e) []) [.ptr 1 0, .ptr 2 0, .ptr 3 0] [ePP e, .iptr [I64 ((spotN e.c.bf.text e.c.cur).1 : Nat)] 0, .iptr [I64 ((spotN e.c.bf.text e.c.cur).2 : Nat)] 0] := CvL.cons (Cv.fptr ⟨rfl, by simp⟩ (CvL.cons (Cv.fptr ⟨rfl, by simp⟩ (CvL.pure (ed_pure e))) CvL.nil)) (CvL.cons (Cv.fptr ⟨rfl, by simp⟩ (CvL.pure rfl)) (CvL.cons (Cv.fptr ⟨rfl, by simp⟩ (CvL.pure rfl)) CvL.nil))
    unfold Ec.goes
    dsimp only
    by_cases g1 : code = 130
    · subst g1; rw [if_pos rfl]; exact key_go e ok _ mods time hm2 hl _ _ _ _ rfl (go1_p e ok) c1
    rw [if_neg g1]
    by_cases g2 : code = 131
    · subst g2; rw [if_pos rfl]; exact key_go e ok _ mods time hm2 hl _ _ _ _ rfl (go2_p e ok) c1
    rw [if_neg g2]
    by_cases g3 : code = 132
    · subst g3; rw [if_pos rfl]; exact key_go e ok _ mods time hm2 hl _ _ _ _ rfl (go3_p e ok _ (by omega)) c2
    rw [if_neg g3]
    by_cases g4 : code = 133
    · subst g4; rw [if_pos rfl]; exact key_go e ok _ mods time hm2 hl _ _ _ _ rfl (go4_p e ok _ (by omega)) c2
    rw [if_neg g4]
    by_cases g5 : code = 134
    · subst g5; rw [if_pos rfl]; exact key_go e ok _ mods time hm2 hl _ _ _ _ rfl (go5_p e ok _ _ (by omega) (by omega)) c3
    rw [if_neg g5]
    by_cases g6 : code = 135
    · subst g6; rw [if_pos rfl]; exact key_go e ok _ mods time hm2 hl _ _ _ _ rfl (go6_p e ok _ _ (by omega) (by omega)) c3
    rw [if_neg g6]
    exact key_ctl e ok code mods time hm2 hl (by omega)
end
section
open Go.RowKit
set_option maxRecDepth 100000
set_option maxHeartbeats 1000000
theorem lk_eq (a b : Lk) : mEq tab 105 (lkT a) (lkT b) = some (decide (a = b)) := by
  have h : mEq tab 105 (lkT a) (lkT b) = some (((⟨a.let8.toArray⟩ : ByteArray).toList == (⟨b.let8.toArray⟩ : ByteArray).toList) && ((a.fm == b.fm) && ((a.tz == b.tz) && ((a.cu == b.cu) && true)))) := by rfl
  rw [h, str_beq]
  obtain ⟨a1, a2, a3, a4⟩ := a
  obtain ⟨b1, b2, b3, b4⟩ := b
  congr 1
  rw [Bool.eq_iff_iff]
  simp [Lk.mk.injEq]
section
variable {q : Bool} {P : Program} {im : List Nat} {ds : List (Option Nat)} {l : List Oper} {E : Env} {H : Hp} {K : Env → Hp → Prop} {d : Nat} {ty : TypeId} {pos : String} {after : Array Edge}
theorem VX.neqLk [Dr] {x y : Operand} {t2 : Nat} (a b : Lk) (hx : E.opd x = some (lkT a)) (hy : E.opd y = some (lkT b)) (k : VX q P tab im ds l ((d, BL (!decide (a = b))) :: E) H K) : VX q P tab im ds (⟨some d, .binOp .neq 105 x y t2, ty, pos, after, none⟩ :: l) E H K := by
  refine VX.meek (t := BL (!decide (a = b))) ?_ k
  simp only [opM, hx, hy, mBin, lk_eq]
end
theorem look_rg (e : Ed) (y : Nat) (hw : e.W) : -10000 ≤ (e.look y).fm ∧ (e.look y).fm ≤ 10000 ∧ -10000 ≤ (e.look y).tz ∧ (e.look y).tz ≤ 10000 ∧ -10000 ≤ (e.look y).cu ∧ (e.look y).cu ≤ 10000 := by
  have h1 := spotN_le e.c.bf.text e.c.cur
  have h2 := hw.len
  have h3 := hw.t
  have h4 := hw.rows
  unfold Ed.look
  dsimp only
  split
  · dsimp only; omega
  · dsimp only
    generalize spotN e.c.bf.text e.c.cur = sp at *
    generalize placeN e.c.bf.text (e.top + y) 0 = b0 at *
    generalize lineN e.c.bf.text (e.top + y) = s at *
    refine ⟨?_, ?_, ?_, ?_, ?_, ?_⟩ <;> split <;> omega
def Ed.redN (e : Ed) (was : Nat → Lk) (l : List Rq) (n : Nat) : List Rq := l ++ ((List.range n).map fun y => if e.look y = was y then [] else e.drawnR y (e.look y)).flatten
theorem Ed.redN_zero (e : Ed) (was : Nat → Lk) (l : List Rq) : e.redN was l 0 = l := by simp [Ed.redN]
theorem Ed.redN_same {e : Ed} {was : Nat → Lk} {l : List Rq} {n : Nat} (h : e.look n = was n) : e.redN was l (n + 1) = e.redN was l n := by
  unfold Ed.redN; rw [List.range_succ, List.map_append, List.flatten_append]; simp [h]
theorem Ed.redN_new {e : Ed} {was : Nat → Lk} {l : List Rq} {n : Nat} (h : ¬ e.look n = was n) : e.redN was l (n + 1) = e.redN was l n ++ e.drawnR n (e.look n) := by
  unfold Ed.redN; rw [List.range_succ, List.map_append, List.flatten_append]; simp [h]
theorem Ed.redN_len (e : Ed) (was : Nat → Lk) (l : List Rq) (n : Nat) : (e.redN was l n).length ≤ l.length + 5 * n := by
  induction n with
  | zero => rw [Ed.redN_zero]; omega
  | succ n ih =>
    by_cases h : e.look n = was n
    · rw [Ed.redN_same h]; omega
    · rw [Ed.redN_new h, List.length_append]; have := e.drawnR_len n (e.look n); omega
theorem Ed.W.seen {e : Ed} (h : e.W) : e.seen.W := by
  have h1 := spotN_le e.c.bf.text e.c.cur
  have h2 := h.len
  have h3 := h.t
  have h4 := h.rows
  have s1 := sightN_ok (first := e.top) (k := (spotN e.c.bf.text e.c.cur).1) (many := e.rows) h3.1 (by omega) (by omega)
  have s2 := sightN_ok (first := e.left) (k := (spotN e.c.bf.text e.c.cur).2) (many := e.cols) h3.2.2.1 (by omega) (by omega)
  refine ⟨h.s, h.o, ?_⟩
  show 0 ≤ sightN _ _ _ ∧ sightN _ _ _ ≤ 4096 ∧ 0 ≤ sightN _ _ _ ∧ sightN _ _ _ ≤ 4096
  omega
theorem redrawn_t (e e2 : Ed) (hw : e.W) (hw2 : e2.W) (hr : e2.rows = e.rows) (l : List Rq) (hl : l.length ≤ 10) (f : FuncId) (cs : List T)
    (hdoes : CallT Tryz.prog f ([] ++ [] ++ cs) [.c (edC e)] (fun t H' => t = .slc 1 0 l.length 4 none ∧ H' = [.c (edC e2), .c (encL cRq l)])) (hcs : CvL (vwIn [0]) cs cs) :
    CallT Tryz.prog 25 [.ptr 0 0, .clo f [] cs] [.c (edC e)] (fun t H' => t = .slc 1 0 (e2.seen.redN e.look l e.rows).length 4 none ∧ H' = [.c (edC e2.seen), .c (encL cRq (e2.seen.redN e.look l e.rows))]) := by
  have hp := ed_pure e
  have hp2 := ed_pure e2
  have hlk := looks_l e hw
  have hw3 := hw2.seen
  have hp3 := ed_pure e2.seen
  have hlk3 := looks_l e2.seen hw3
  have hpl := encL_pure cRq l
  have hpk := encL_pure cLk (e.lk e.rows)
  have hpk3 := encL_pure cLk (e2.seen.lk e.rows)
  have h1 := spotN_le e2.c.bf.text e2.c.cur
  have h2 := hw2.len
  have h3 := hw2.t
  have h4 := hw2.rows
  have hst := spot_p e2.c.bf e2.c.cur h2 hw2.o.cur.1
  have hs2 := hw2.s
  have hro := rows_l e2 (by omega)
  have hco := columns_l { e2 with top := sightN e2.top (spotN e2.c.bf.text e2.c.cur).1 e2.rows } (by show 0 ≤ e2.w ∧ e2.w ≤ 1000; omega)
  have hs1 := sight_p e2.top (spotN e2.c.bf.text e2.c.cur).1 e2.rows (by omega) (by omega) (by omega)
  have hs22 := sight_p e2.left (spotN e2.c.bf.text e2.c.cur).2 e2.cols (by omega) (by omega) (by omega)
  have hr3 : e2.seen.rows = e.rows := hr
  rw [hr3] at hlk3
  have hrN := e2.seen.redN_len e.look l
  refine CallT.out ?_
  refine CallT.intro tab_ok Tryz.func25 rfl (by kernel_rfl) (Nat.le_of_ble_eq_true rfl) ?_
  refine VC.reg tab_ok [] rfl ?_
  refine VX.meek rfl ?_
  refine VX.nil ?_
  refine VC.reg tab_ok [] rfl ?_
  refine VX.meek rfl ?_
  refine VX.callO rfl rfl (hlk) rfl ?_
  refine VX.meek rfl ?_
  refine VX.nil ?_
  refine VC.reg tab_ok [] rfl ?_
  refine VX.meek rfl ?_
  refine VX.callT rfl rfl (CallT.frame hdoes [0] rfl au_ci hcs ?_); rintro _ _ ⟨rfl, rfl⟩; refine frK au_co (CvOut_c (CvL.pure hp2) (CvOut_c (CvL.pure hpl) CvOut_nil)) ?_
  refine VX.meek rfl ?_
  refine VX.nil ?_
  refine VC.view ([(0, .ptr 0 0), (6, .slc 1 0 l.length 4 none)]) ([.c (edC e2), .c (encL cRq l)]) [5] rfl (by refine ⟨[some 0, some 1], rfl, by first | trivial | decide, by first | rfl | (simp only [noO, Bool.and_true, Bool.and_eq_true]; first | assumption | (refine ⟨?_, ?_⟩ <;> assumption)) | (simp only [noO, *, Bool.and_true, Bool.true_and, Bool.and_self]; done), ?_, ?_⟩ <;> (repeat' first | exact trivial | exact CvB_n | exact CvB_d | exact CvB_o rfl | refine CvE_app ?_ ?_ | refine CvE_cons rfl ?_ ?_ | refine CvH_cons ?_ ?_ | refine CvB_c rfl ?_ | fail) <;> first | exact au_v | (first | exact CvL.pure hp2 | exact CvL.pure hpl | exact Cv.pure (by simp only [T.pure, hpk]))) ?_
  refine VC.drw tab_ok [] [_, _, _, _, _, _, _, _, _, _, _, _, _, _, _] rfl (by kernel_rfl) (by kernel_rfl) ?_
  iterate 3 refine VX.meek rfl ?_
  first | refine VX.meek rfl ?_ | refine VX.loadI rfl rfl au_l ?_ | refine VX.loadP rfl rfl rfl au_l ?_
  iterate 4 refine VX.meek rfl ?_
  first | refine VX.meek rfl ?_ | refine VX.loadI rfl rfl au_l ?_ | refine VX.loadP rfl rfl rfl au_l ?_
  refine VX.callP0 rfl rfl rfl (hst) ?_
  iterate 5 refine VX.meek rfl ?_
  iterate 2 refine VX.nil ?_
  refine VC.drwC tab_ok [] [_, _, _, _, _, _, _, _, _] ([.c (edC e2)]) [false, false, false, false, false, false, false, false, false] rfl (by kernel_rfl) (by kernel_rfl) (by kernel_rfl) (by repeat' first | exact seen_nil | refine seen_dead ?_ | refine seen_same ?_) ?_
  refine VD.meek rfl ?_
  refine VD.meek rfl ?_
  refine VD.meek rfl ?_
  refine VD.meek rfl ?_
  first | refine VD.meek rfl ?_ | refine VD.loadI rfl rfl au_l ?_
  refine VD.meek rfl ?_
  refine VD.meek rfl ?_
  refine VD.lookO rfl rfl (hro) rfl ?_
  refine VD.callP rfl rfl (hs1) ?_
  refine VD.nil ?_
  iterate 2 refine VX.meek rfl ?_
  refine VX.store rfl rfl rfl rfl rfl au_s rfl ?_
  refine VX.nil ?_
  refine VC.view ([(0, .ptr 0 0), (6, .slc 1 0 l.length 4 none)]) ([.c (edC { e2 with top := sightN e2.top (spotN e2.c.bf.text e2.c.cur).1 e2.rows }), .c (encL cRq l)]) [5, 8] rfl (by refine ⟨[some 0, some 1], rfl, by first | trivial | decide, by first | rfl | (simp only [noO, Bool.and_true, Bool.and_eq_true]; first | assumption | (refine ⟨?_, ?_⟩ <;> assumption)) | (simp only [noO, *, Bool.and_true, Bool.true_and, Bool.and_self]; done), ?_, ?_⟩ <;> (repeat' first | exact trivial | exact CvB_n | exact CvB_d | exact CvB_o rfl | refine CvE_app ?_ ?_ | refine CvE_cons rfl ?_ ?_ | refine CvH_cons ?_ ?_ | refine CvB_c rfl ?_ | fail) <;> first | exact au_v | (first | exact CvL.eq rfl (ed_pure _) | exact CvL.pure hpl | exact Cv.pure (by simp only [T.pure, hpk]))) ?_
  refine VC.drwC tab_ok [] [_, _, _, _, _, _, _, _, _] ([.c (edC { e2 with top := sightN e2.top (spotN e2.c.bf.text e2.c.cur).1 e2.rows })]) [false, false, false, false, false, false, false, false, false] rfl (by kernel_rfl) (by kernel_rfl) (by kernel_rfl) (by repeat' first | exact seen_nil | refine seen_dead ?_ | refine seen_same ?_) ?_
  refine VD.meek rfl ?_
  refine VD.meek rfl ?_
  refine VD.meek rfl ?_
  refine VD.meek rfl ?_
  first | refine VD.meek rfl ?_ | refine VD.loadI rfl rfl au_l ?_
  refine VD.meek rfl ?_
  refine VD.meek rfl ?_
  refine VD.lookO rfl rfl (hco) rfl ?_
  refine VD.callP rfl rfl (hs22) ?_
  refine VD.nil ?_
  iterate 2 refine VX.meek rfl ?_
  refine VX.store rfl rfl rfl rfl rfl au_s rfl ?_
  refine VX.nil ?_
  refine VC.view ([(0, .ptr 0 0), (6, .slc 1 0 l.length 4 none)]) ([.c (edC e2.seen), .c (encL cRq l)]) [5] rfl (by refine ⟨[some 0, some 1], rfl, by first | trivial | decide, by first | rfl | (simp only [noO, Bool.and_true, Bool.and_eq_true]; first | assumption | (refine ⟨?_, ?_⟩ <;> assumption)) | (simp only [noO, *, Bool.and_true, Bool.true_and, Bool.and_self]; done), ?_, ?_⟩ <;> (repeat' first | exact trivial | exact CvB_n | exact CvB_d | exact CvB_o rfl | refine CvE_app ?_ ?_ | refine CvE_cons rfl ?_ ?_ | refine CvH_cons ?_ ?_ | refine CvB_c rfl ?_ | fail) <;> first | exact au_v | (first | exact CvL.eq rfl (ed_pure _) | exact CvL.pure hpl | exact Cv.pure (by simp only [T.pure, hpk]))) ?_
  refine VC.seq ?_
  refine VC.reg tab_ok [] rfl ?_
  refine VX.meek rfl ?_
  refine VX.callO rfl rfl (hlk3) rfl ?_
  iterate 2 refine VX.meek rfl ?_
  refine VX.nil ?_
  refine VC.block ?_
  refine VC.loopS (σ := Nat) (fun y => e.rows - y) (fun y => y ≤ e.rows) (fun y => [(53, I64 (y : Nat)), (0, .ptr 0 0), (6, .slc 1 0 (e2.seen.redN e.look l y).length 4 none)]) (fun y => [.c (edC e2.seen), .c (encL cRq (e2.seen.redN e.look l y))]) [5, 51, 52] rfl (0) ?_ ?_ ?_
  · refine ⟨[some 0, some 1], rfl, by first | trivial | decide, by first | rfl | (simp only [noO, Bool.and_true, Bool.and_eq_true]; first | assumption | (refine ⟨?_, ?_⟩ <;> assumption)) | (simp only [noO, *, Bool.and_true, Bool.true_and, Bool.and_self]; done), ?_, ?_⟩ <;> (repeat' first | exact trivial | exact CvB_n | exact CvB_d | exact CvB_o rfl | refine CvE_app ?_ ?_ | refine CvE_cons rfl ?_ ?_ | refine CvH_cons ?_ ?_ | refine CvB_c rfl ?_ | fail) <;> first | exact au_v | (first | exact CvL.pure hp3 | exact CvL.eq (by rw [Ed.redN_zero]) (encL_pure _ _) | exact Cv.pure (by simp only [T.pure, hpk]) | exact Cv.pure (by simp only [T.pure, hpk3]) | exact Cv.slcE rfl (by rw [Ed.redN_zero]) (.inl rfl))
  · (try dsimp only); omega
  rintro y hy
  refine VC.reg tab_ok [] rfl ?_
  refine VX.meek rfl ?_
  refine VX.nil ?_
  refine VC.seq ?_
  refine VC.cond rfl (fun hc0 => ?_) (fun hc0 => ?_)
  · (try simp only [au_std] at hc0); have hyl : y < e.rows := (by omega); have hrg := look_rg e2.seen y hw3; have hdr := drawn_l e2.seen y (e2.seen.look y) (by omega) hrg; have hdn := e2.seen.drawnR_len y (e2.seen.look y); have hrNy := hrN y
    refine VC.skip ?_
    refine VC.seq ?_
    refine VC.block ?_
    refine VC.reg tab_ok [] rfl ?_
    refine VX.meek rfl ?_
    refine VX.idxI (m := y) rfl rfl rfl rfl rfl rfl hyl ?_
    refine VX.loadI rfl rfl (encL_part0 cLk (m := y) (a := e2.seen.look y) (e2.seen.lk_at hyl) (by decide) rfl) ?_
    refine VX.new rfl rfl ?_
    refine VX.meek rfl ?_
    refine VX.store rfl rfl rfl rfl rfl au_s rfl ?_
    refine VX.nil ?_
    refine VC.drw tab_ok [] [_, _, _, _, _, _] rfl (by kernel_rfl) (by kernel_rfl) ?_
    first | refine VX.meek rfl ?_ | refine VX.loadI rfl rfl au_l ?_ | refine VX.loadP rfl rfl rfl au_l ?_
    iterate 2 refine VX.meek rfl ?_
    refine VX.idxI (m := y) rfl rfl rfl rfl rfl rfl hyl ?_
    refine VX.loadI rfl rfl (encL_part0 cLk (m := y) (a := e.look y) (e.lk_at hyl) (by decide) rfl) ?_
    refine VX.neqLk (e2.seen.look y) (e.look y) rfl rfl ?_
    iterate 2 refine VX.nil ?_
    refine VC.cond rfl (fun hc1 => ?_) (fun hc1 => ?_)
    · have hne : ¬ e2.seen.look y = e.look y := (by simpa using hc1); have eT := Ed.redN_new (l := l) hne
      refine VC.regN tab_ok [] rfl ?_
      iterate 3 refine VX.meek rfl ?_
      first | refine VX.meek rfl ?_ | refine VX.loadI rfl rfl au_l ?_ | refine VX.loadP rfl rfl rfl au_l ?_
      refine VX.callO rfl rfl (hdr) rfl ?_
      refine' VX.append rfl rfl rfl rfl rfl rfl (src_c cRq rfl rfl rfl rfl) rfl ?h1 ?h2 ?h3 ?h4 ?h5 ?_
      case h1 => rw [encL_len, cRq_sz]; omega
      case h2 => exact Nat.le_trans (Nat.mul_le_mul_right _ (show _ ≤ 1000 by omega)) (by decide)
      case h3 => omega
      case h4 => rw [encL_len]; rfl
      case h5 => exact encL_cb _ _
      refine VX.meek rfl ?_
      refine VX.nil ?_
      refine VC.regN tab_ok [] rfl ?_
      first | refine VX.add rfl rfl (by omega) ?_ | refine VX.meek rfl ?_
      refine VX.meek rfl ?_
      refine VX.nil ?_
      refine ⟨y + 1, by (try dsimp only); omega, ?_, (by refine ⟨[some 0, some 3], rfl, by first | trivial | decide, by first | rfl | (simp only [noO, Bool.and_true, Bool.and_eq_true]; first | assumption | (refine ⟨?_, ?_⟩ <;> assumption)) | (simp only [noO, *, Bool.and_true, Bool.true_and, Bool.and_self]; done), ?_, ?_⟩ <;> (repeat' first | exact trivial | exact CvB_n | exact CvB_d | exact CvB_o rfl | refine CvE_app ?_ ?_ | refine CvE_cons rfl ?_ ?_ | refine CvH_cons ?_ ?_ | refine CvB_c rfl ?_ | fail) <;> first | exact au_v | (first | exact CvL.pure hp3 | exact Cv.pure (by simp only [T.pure, hpk]) | exact Cv.pure (by simp only [T.pure, hpk3]) | (rw [eT, List.length_append]; exact Cv.slc rfl (.inr rfl)) | exact CvL.eq (by rw [eT, encL_append, List.drop_zero, List.take_of_length_le (by rw [encL_len, cRq_sz]; exact Nat.le_refl _)]) (encL_pure _ _)))⟩
      (try dsimp only); omega
    · have hne : e2.seen.look y = e.look y := (by simpa using hc1); have eF := Ed.redN_same (l := l) hne
      refine VC.skip ?_
      refine VC.regN tab_ok [] rfl ?_
      first | refine VX.add rfl rfl (by omega) ?_ | refine VX.meek rfl ?_
      refine VX.meek rfl ?_
      refine VX.nil ?_
      refine ⟨y + 1, by (try dsimp only); omega, ?_, (by refine ⟨[some 0, some 1], rfl, by first | trivial | decide, by first | rfl | (simp only [noO, Bool.and_true, Bool.and_eq_true]; first | assumption | (refine ⟨?_, ?_⟩ <;> assumption)) | (simp only [noO, *, Bool.and_true, Bool.true_and, Bool.and_self]; done), ?_, ?_⟩ <;> (repeat' first | exact trivial | exact CvB_n | exact CvB_d | exact CvB_o rfl | refine CvE_app ?_ ?_ | refine CvE_cons rfl ?_ ?_ | refine CvH_cons ?_ ?_ | refine CvB_c rfl ?_ | fail) <;> first | exact au_v | (first | exact CvL.pure hp3 | exact Cv.pure (by simp only [T.pure, hpk]) | exact Cv.pure (by simp only [T.pure, hpk3]) | (rw [eF]; exact Cv.slc rfl (.inl rfl)) | exact CvL.eq (by rw [eF]) (encL_pure _ _)))⟩
      (try dsimp only); omega
  · (try simp only [au_std] at hc0); obtain rfl : y = e.rows := (by omega)
    refine VC.exit ?_
    refine VC.reg tab_ok [] rfl ?_
    iterate 2 refine VX.meek rfl ?_
    refine VX.nil ?_
    refine VC.ret ?_
    exact ⟨trivial, _, rfl, out2 (b := 0) rfl rfl (CvL.pure hp3) (CvL.pure (encL_pure _ _))⟩
end
section
open Go.RowKit
set_option maxRecDepth 100000
set_option maxHeartbeats 2000000

/- a function's operations one by one, and what the ones that build come to -/
def opsC : Code → List Oper
  | .region _ ops _ => ops.toList
  | .seq a b => opsC a ++ opsC b
  | .cond _ a b => opsC a ++ opsC b
  | .block _ a => opsC a
  | .loop a => opsC a
  | _ => []
def isBuild (o : Oper) : Bool := match o.op with | .build .. => true | _ => false
def runC : List Oper → Env → Env
  | [], E => E
  | o :: r, E => match o.dst, opM tab (fun _ => none) 0 E.opd o.op with | some d, some (t, _) => runC r ((d, t) :: E) | _, _ => runC r E
def cellsT : Option T → List T
  | some (.agg cs) => cs
  | _ => []
def builtC (f : Func) (d : Nat) : List T := cellsT ((runC ((opsC (f.body.getD .skip)).filter isBuild) []).get d)
noncomputable def evCs : List T := builtC Tryz.f73 36
noncomputable def rqA : List T := builtC Tryz.f99 30
noncomputable def rqB : List T := builtC Tryz.f100 30
theorem evCs_len : evCs.length = 78 := by kernel_rfl
theorem rqA_len : rqA.length = 90 := by kernel_rfl
theorem rqB_len : rqB.length = 177 := by kernel_rfl
theorem evCs_pure : T.pureL evCs = true := by kernel_rfl
theorem rqA_pure : T.pureL rqA = true := by kernel_rfl
theorem rqB_pure : T.pureL rqB = true := by kernel_rfl
def evOne (n : Nat) (e : List T) : Bool :=
  match e with
  | [.v (.string a), .v (.string b), .v (.string c)] =>
    (mEq tab 121 (.agg [.v (.string a), .v (.string b), .v (.string c)]) (.agg [strT [], strT [], strT []]) == some false) && lineB b.data.toList && (needsE n == 0 || (fmOf (Lib.fields b.data.toList)).fx.length == needsE n)
  | _ => false
def evChk (cs : List T) : Bool := (List.range 25).all fun k => evOne (k + 1) ((cs.drop ((k + 1) * 3)).take 3)
def needsR (n : Nat) : Nat := if n = 9 then 7 else if n = 15 then 3 else 0
def rqOne (n : Nat) (e : List T) : Bool :=
  match e with
  | [.v (.string a), .v (.string b), .v (.string c)] => (c.data.toList == [] && needsR n == 0) || (lineB c.data.toList && (needsR n == 0 || (fmOf (Lib.fields c.data.toList)).fx.length == needsR n) && !(c.data.toList == []))
  | _ => false
def rqChk (cs : List T) (a n : Nat) : Bool := (List.range n).all fun k => rqOne (a + k) ((cs.drop ((a + k) * 3)).take 3)
theorem ev_ok : evChk evCs = true := by kernel_rfl
theorem rqA_ok : rqChk rqA 1 29 = true := by kernel_rfl
theorem rqB_ok : rqChk rqB 30 29 = true := by kernel_rfl
end
section
open Go.RowKit
set_option maxRecDepth 100000
set_option maxHeartbeats 2000000
section
variable {q : Bool} {P : Program} {tab : Tab} {im : List Nat} {ds : List (Option Nat)} {l : List Oper} {E : Env} {H : Hp} {K : Env → Hp → Prop} {d : Nat} {ty : TypeId} {pos : String} {after : Array Edge}
def meekL (tab : Tab) (look : Look) (nx : Nat) : List Oper → Env → Option Env
  | [], E => some E
  | o :: r, E => match o with
    | ⟨some d, op, _, _, _, none⟩ => match opM tab look nx E.opd op with | some (t, none) => meekL tab look nx r ((d, t) :: E) | _ => none
    | _ => none
theorem VX.bulk [Dr] {E' : Env} : ∀ (l l2 : List Oper) (E : Env), meekL tab (lookH H) H.length l E = some E' → VX q P tab im ds l2 E' H K → VX q P tab im ds (l ++ l2) E H K
  | [], l2, E, h, k => by
    injection h with h
    subst h
    exact k
  | o :: r, l2, E, h, k => by
    obtain ⟨dst, op, ty, pos, after, g⟩ := o
    cases dst with
    | none => cases h
    | some d =>
      cases g with
      | some g => cases h
      | none =>
        simp only [meekL] at h
        split at h
        · rename_i t ht
          exact VX.meek ht (VX.bulk r l2 _ h k)
        · cases h
theorem VX.bulkN [Dr] (n : Nat) {E' : Env} {l : List Oper} (h : meekL tab (lookH H) H.length (l.take n) E = some E') (k : VX q P tab im ds (l.drop n) E' H K) : VX q P tab im ds l E H K := by
  have := VX.bulk (im := im) (ds := ds) (P := P) (q := q) _ _ _ h k
  rwa [List.take_append_drop] at this
theorem VX.bulkL [Dr] (n : Nat) (L : Env) {l : List Oper} (h : meekL tab (lookH H) H.length (l.take n) E = some (L ++ E)) (k : VX q P tab im ds (l.drop n) (L ++ E) H K) : VX q P tab im ds l E H K := VX.bulkN n h k
theorem VX.idxAr [Dr] {t e o m w : Nat} {x ix : Operand} {i j : TyI} {cs : List T} {k : IntKind} (hT : tab t = some i) (hk : i.k = .arr w e) (hj : tab e = some j) (hx : E.opd x = some (.iptr cs o)) (hi : E.opd ix = some (.v (.int k (m : Int)))) (hm : m < w)
    (kk : VX q P tab im ds l ((d, .iptr cs (o + m * j.sz)) :: E) H K) : VX q P tab im ds (⟨some d, .indexAddr t x ix, ty, pos, after, none⟩ :: l) E H K := by
  refine VX.meek (t := .iptr cs (o + m * j.sz)) ?_ kk
  simp only [opM, hx, hi, mIndexAddr, hT, hk, hj]
  rw [if_pos ⟨by omega, by omega⟩]; rfl
theorem VX.idxAg [Dr] {t e m w : Nat} {x ix : Operand} {i j : TyI} {cs : List T} {k : IntKind} (hT : tab t = some i) (hk : i.k = .arr w e) (hj : tab e = some j) (hg : j.k.agg = true) (hx : E.opd x = some (.agg cs)) (hi : E.opd ix = some (.v (.int k (m : Int)))) (hm : m < w) (hl : m * j.sz + j.sz ≤ cs.length)
    (kk : VX q P tab im ds l ((d, .agg ((cs.drop (m * j.sz)).take j.sz)) :: E) H K) : VX q P tab im ds (⟨some d, .index t x ix, ty, pos, after, none⟩ :: l) E H K := by
  refine VX.meek (t := .agg ((cs.drop (m * j.sz)).take j.sz)) ?_ kk
  simp only [opM, hx, hi, mIndex, hT, hk, hj]
  rw [if_pos ⟨by omega, by omega⟩]
  unfold partT
  rw [if_pos hg, Int.toNat_natCast, if_pos hl]
end
theorem str_back (a : ByteArray) : strT a.data.toList = .v (.string a) := by
  obtain ⟨d⟩ := a
  simp
theorem ev_at (n : Nat) (h1 : 1 ≤ n) (h2 : n ≤ 25) : ∃ a b c : List UInt8, (evCs.drop (n * 3)).take 3 = [strT a, strT b, strT c] ∧ mEq tab 121 (.agg [strT a, strT b, strT c]) (.agg [strT [], strT [], strT []]) = some false ∧ lineB b = true ∧ (needsE n = 0 ∨ (fmOf (Lib.fields b)).fx.length = needsE n) := by
  have h := List.all_eq_true.1 ev_ok (n - 1) (List.mem_range.2 (by omega))
  rw [show n - 1 + 1 = n from by omega] at h
  generalize (evCs.drop (n * 3)).take 3 = e at *
  unfold evOne at h
  split at h
  · rename_i a b c
    simp only [Bool.and_eq_true, Bool.or_eq_true, beq_iff_eq] at h
    refine ⟨a.data.toList, b.data.toList, c.data.toList, by rw [str_back, str_back, str_back], by rw [str_back, str_back, str_back]; exact h.1.1, h.1.2, ?_⟩
    rcases h.2 with k | k
    · exact .inl k
    · exact .inr k
  · cases h
noncomputable def tabL (cs : List T) (d n : Nat) : Env := (d + n, .agg cs) :: (List.range n).reverse.map fun k => (d + k, .agg ((cs.drop ((k + 1) * 3)).take 3))
theorem event_p (n : Nat) (h1 : 1 ≤ n) (h2 : n ≤ 25) : CallP Tryz.prog 73 [I64 n] (.agg ((evCs.drop (n * 3)).take 3)) := by
  obtain ⟨a, b, c, he, -, -, -⟩ := ev_at n h1 h2
  have hl := evCs_len
  have hpt : partT ⟨3, 48, [strT [], strT [], strT []], .st [(0, 9), (1, 9), (2, 9)], true⟩ evCs (0 + n * 3) = some (.agg [strT a, strT b, strT c]) := by
    unfold partT
    rw [if_pos (show (Kd.st [(0, 9), (1, 9), (2, 9)]).agg = true from rfl), if_pos (by show 0 + n * 3 + 3 ≤ _; omega), Nat.zero_add]
    exact congrArg (fun l => some (T.agg l)) he
  rw [he]
  refine CallP.intro2 au_pu au_pu ?_
  refine CallT.intro tab_ok Tryz.func73 rfl (by kernel_rfl) (Nat.le_of_ble_eq_true rfl) ?_
  refine VC.reg tab_ok [] rfl ?_
  refine VX.new rfl rfl ?_
  refine VX.nil ?_
  refine VC.seq ?_
  refine VC.reg tab_ok [] rfl ?_
  iterate 3 refine VX.meek rfl ?_
  refine' VX.merge (d := 9) [_, _, _] rfl ?_ rfl ?_
  rotate_left
  · refine VX.guard rfl rfl (fun hb1_2 => ?_) (fun hb1_2 => ?_)
    · have ghb1_2 := hb1_2
      try simp only [au_std, Bool.not_true, Bool.not_false] at ghb1_2
      refine VX.meek rfl ?_
      refine VX.guardT rfl rfl hb1_2 ?_
      refine VX.meek rfl ?_
      refine VX.pickO rfl (fun _ => rfl) ?_
      exact VX.nil ⟨rfl, rfl⟩
    · refine VX.guardF rfl rfl hb1_2 ?_
      exact VX.pickO rfl (fun h => absurd (h.symm.trans hb1_2) (by decide)) (VX.nil ⟨rfl, rfl⟩)
  refine VX.nil ?_
  refine VC.cond rfl (fun hc0 => ?_) (fun hc0 => ?_)
  · exact absurd hc0 (by simp; omega)
  · (try simp only [au_std] at hc0)
    refine VC.skip ?_
    refine VC.reg tab_ok [] rfl ?_
    refine VX.bulkL 26 (tabL evCs 11 25) ?h ?k
    case h => kernel_rfl
    skip
    skip
    skip
    skip
    skip
    skip
    skip
    skip
    skip
    skip
    skip
    skip
    skip
    skip
    skip
    skip
    skip
    skip
    skip
    skip
    skip
    skip
    skip
    skip
    skip
    refine VX.new rfl rfl ?_
    refine VX.store rfl rfl rfl rfl (by kernel_rfl) (Nat.le_of_ble_eq_true (by kernel_rfl)) (by kernel_rfl) ?_
    refine VX.nil ?_
    refine VC.view ([(2, .ptr 0 0), (3, .iptr evCs 0)]) ([.c [strT [], strT [], strT []]]) [0] rfl (by refine ⟨[some 0], rfl, by first | trivial | decide, by first | rfl | (simp only [noO, Bool.and_true, Bool.and_eq_true]; first | assumption | (refine ⟨?_, ?_⟩ <;> assumption)) | (simp only [noO, *, Bool.and_true, Bool.true_and, Bool.and_self]; done), ?_, ?_⟩ <;> (repeat' first | exact trivial | exact CvB_n | exact CvB_d | exact CvB_o rfl | refine CvE_app ?_ ?_ | refine CvE_cons rfl ?_ ?_ | refine CvH_cons ?_ ?_ | refine CvB_c rfl ?_ | fail) <;> first | exact au_v | (first | exact CvL.pure rfl | exact Cv.fptr ⟨rfl, (show some 1 ∉ [some 0] by simp)⟩ (CvL.eq (by kernel_rfl) evCs_pure))) ?_
    refine VC.reg tab_ok [] rfl ?_
    refine VX.meek rfl ?_
    refine VX.idxAr rfl rfl rfl rfl rfl (by omega) ?_
    refine VX.loadI rfl rfl hpt ?_
    refine VX.store rfl rfl rfl rfl rfl au_s rfl ?_
    refine VX.nil ?_
    refine VC.ret ?_
    exact ⟨trivial, _, rfl, Cv.eq (by first | rfl | (simp [*]; done)) rfl⟩
end
section
open Go.RowKit
set_option maxRecDepth 100000
set_option maxHeartbeats 2000000
section
variable {q : Bool} {P : Program} {tab : Tab} {im : List Nat} {ds : List (Option Nat)} {l : List Oper} {E : Env} {H : Hp} {K : Env → Hp → Prop} {d : Nat} {ty : TypeId} {pos : String} {after : Array Edge}
theorem VX.eqlAg [Dr] {x y : Operand} {t t2 : Nat} (xs ys : List T) {r : Bool} (hx : E.opd x = some (.agg xs)) (hy : E.opd y = some (.agg ys)) (h : mEq tab t (.agg xs) (.agg ys) = some r) (k : VX q P tab im ds l ((d, BL r) :: E) H K) : VX q P tab im ds (⟨some d, .binOp .eql t x y t2, ty, pos, after, none⟩ :: l) E H K := by
  refine VX.meek (t := BL r) ?_ k
  simp only [opM, hx, hy, mBin, h]
end
theorem fm_pure (m : Fm) : T.pureL [cIf m.fx, BL m.b, I64 m.l] = true := by simp only [T.pureL, T.pure, encL_pure]; rfl
abbrev fm0 : Fm := ⟨[], false, 0⟩
theorem eventN (code : Int) (h : code < 1 ∨ 25 < code) : CallP Tryz.prog 42 [I64 code] (.tup [fmT fm0, BL false]) := by
  have hev : CallP Tryz.prog 73 [I64 code] (.agg [strT [], strT [], strT []]) := by
    refine CallP.intro2 au_pu au_pu ?_
    refine CallT.intro tab_ok Tryz.func73 rfl (by kernel_rfl) (Nat.le_of_ble_eq_true rfl) ?_
    refine VC.reg tab_ok [] rfl ?_
    refine VX.new rfl rfl ?_
    refine VX.nil ?_
    refine VC.seq ?_
    refine VC.reg tab_ok [] rfl ?_
    iterate 3 refine VX.meek rfl ?_
    refine' VX.merge (d := 9) [_, _, _] rfl ?_ rfl ?_
    rotate_left
    · refine VX.guard rfl rfl (fun hb1_2 => ?_) (fun hb1_2 => ?_)
      · have ghb1_2 := hb1_2
        try simp only [au_std, Bool.not_true, Bool.not_false] at ghb1_2
        refine VX.meek rfl ?_
        refine VX.guardT rfl rfl hb1_2 ?_
        refine VX.meek rfl ?_
        refine VX.pickO rfl (fun _ => rfl) ?_
        exact VX.nil ⟨rfl, rfl⟩
      · refine VX.guardF rfl rfl hb1_2 ?_
        exact VX.pickO rfl (fun h => absurd (h.symm.trans hb1_2) (by decide)) (VX.nil ⟨rfl, rfl⟩)
    refine VX.nil ?_
    refine VC.cond rfl (fun hc0 => ?_) (fun hc0 => ?_)
    · (try simp only [au_std] at hc0)
      refine VC.reg tab_ok [] rfl ?_
      refine VX.meek rfl ?_
      refine VX.store rfl rfl rfl rfl rfl au_s rfl ?_
      refine VX.nil ?_
      refine VC.ret ?_
      exact ⟨trivial, _, rfl, Cv.eq (by first | rfl | (simp [*]; done)) rfl⟩
    · exact absurd hc0 (by simp; omega)
  refine CallP.intro2 au_pu au_pu ?_
  refine CallT.intro tab_ok Tryz.func42 rfl (by kernel_rfl) (Nat.le_of_ble_eq_true rfl) ?_
  refine VC.reg tab_ok [] rfl ?_
  refine VX.new rfl rfl ?_
  refine VX.meek rfl ?_
  refine VX.nil ?_
  refine VC.reg tab_ok [] rfl ?_
  refine VX.meek rfl ?_
  refine VX.callP0 rfl rfl rfl (hev) ?_
  refine VX.new rfl rfl ?_
  refine VX.store rfl rfl rfl rfl rfl au_s rfl ?_
  refine VX.nil ?_
  refine VC.seq ?_
  refine VC.reg tab_ok [] rfl ?_
  first | refine VX.meek rfl ?_ | refine VX.loadI rfl rfl au_l ?_ | refine VX.loadP rfl rfl rfl au_l ?_
  refine VX.meek rfl ?_
  refine VX.eqlAg [strT [], strT [], strT []] [strT [], strT [], strT []] (r := true) rfl rfl (by kernel_rfl) ?_
  refine VX.nil ?_
  refine VC.condT rfl ?_
  refine VC.reg tab_ok [] rfl ?_
  refine VX.meek rfl ?_
  refine VX.store rfl rfl rfl rfl rfl au_s rfl ?_
  refine VX.meek rfl ?_
  refine VX.nil ?_
  refine VC.ret ?_
  exact ⟨trivial, _, rfl, Cv.tup (CvL.cons (Cv.agg (CvL.cons (Cv.nil _ (.inl rfl)) (CvL.pure rfl))) (CvL.cons (Cv.pure rfl) CvL.nil))⟩
noncomputable def tabA (cs : List T) (a d n : Nat) : Env := (d + n, .agg cs) :: (List.range n).reverse.map fun k => (d + k, .agg ((cs.drop ((a + k) * 3)).take 3))
theorem early_p : CallP Tryz.prog 99 [] (.agg rqA) := by
  have hpu := rqA_pure
  refine CallP.intro2 au_pu au_pu ?_
  refine CallT.intro tab_ok Tryz.func99 rfl (by kernel_rfl) (Nat.le_of_ble_eq_true rfl) ?_
  refine VC.reg tab_ok [] rfl ?_
  refine VX.new rfl rfl ?_
  refine VX.nil ?_
  refine VC.reg tab_ok [] rfl ?_
  refine VX.bulkL 30 (tabA rqA 1 1 29) ?h ?k
  case h => kernel_rfl
  skip
  skip
  skip
  skip
  skip
  skip
  skip
  skip
  skip
  skip
  skip
  skip
  skip
  skip
  skip
  skip
  skip
  skip
  skip
  skip
  skip
  skip
  skip
  skip
  skip
  skip
  skip
  skip
  skip
  refine VX.store rfl rfl rfl rfl (by kernel_rfl) (Nat.le_of_ble_eq_true (by kernel_rfl)) (by kernel_rfl) ?_
  refine VX.nil ?_
  refine VC.ret ?_
  exact ⟨trivial, _, rfl, Cv.agg (CvL.eq (by kernel_rfl) rqA_pure)⟩
theorem late_p : CallP Tryz.prog 100 [] (.agg rqB) := by
  have hpu := rqB_pure
  refine CallP.intro2 au_pu au_pu ?_
  refine CallT.intro tab_ok Tryz.func100 rfl (by kernel_rfl) (Nat.le_of_ble_eq_true rfl) ?_
  refine VC.reg tab_ok [] rfl ?_
  refine VX.new rfl rfl ?_
  refine VX.nil ?_
  refine VC.reg tab_ok [] rfl ?_
  refine VX.bulkL 30 (tabA rqB 30 1 29) ?h ?k
  case h => kernel_rfl
  skip
  skip
  skip
  skip
  skip
  skip
  skip
  skip
  skip
  skip
  skip
  skip
  skip
  skip
  skip
  skip
  skip
  skip
  skip
  skip
  skip
  skip
  skip
  skip
  skip
  skip
  skip
  skip
  skip
  refine VX.store rfl rfl rfl rfl (by kernel_rfl) (Nat.le_of_ble_eq_true (by kernel_rfl)) (by kernel_rfl) ?_
  refine VX.nil ?_
  refine VC.ret ?_
  exact ⟨trivial, _, rfl, Cv.agg (CvL.eq (by kernel_rfl) rqB_pure)⟩
theorem rq_at (cs : List T) (a m : Nat) (hc : rqChk cs a m = true) (n : Nat) (h1 : a ≤ n) (h2 : n < a + m) : ∃ x b c : List UInt8, (cs.drop (n * 3)).take 3 = [strT x, strT b, strT c] ∧ ((c = [] ∧ needsR n = 0) ∨ (c ≠ [] ∧ lineB c = true ∧ (needsR n = 0 ∨ (fmOf (Lib.fields c)).fx.length = needsR n))) := by
  have h := List.all_eq_true.1 hc (n - a) (List.mem_range.2 (by omega))
  rw [show a + (n - a) = n from by omega] at h
  generalize (cs.drop (n * 3)).take 3 = e at *
  unfold rqOne at h
  split at h
  · rename_i x b c
    simp only [Bool.and_eq_true, Bool.or_eq_true, beq_iff_eq, Bool.not_eq_true', beq_eq_false_iff_ne] at h
    refine ⟨x.data.toList, b.data.toList, c.data.toList, by rw [str_back, str_back, str_back], ?_⟩
    rcases h with k | k
    · exact .inl k
    · exact .inr ⟨k.2, k.1.1, k.1.2⟩
  · cases h
theorem replyX (code : Int) (x b c : List UInt8) (h : CallP Tryz.prog 71 [I64 code] (.agg [strT x, strT b, strT c])) (hl : c ≠ [] → lineB c = true) :
    CallP Tryz.prog 41 [I64 code] (.tup [fmT (if c = [] then fm0 else fmOf (Lib.fields c)), BL (c != [])]) := by
  by_cases hc : c = []
  · subst hc
    rw [if_pos rfl]
    refine CallP.intro2 au_pu au_pu ?_
    refine CallT.intro tab_ok Tryz.func41 rfl (by kernel_rfl) (Nat.le_of_ble_eq_true rfl) ?_
    refine VC.reg tab_ok [] rfl ?_
    refine VX.new rfl rfl ?_
    refine VX.meek rfl ?_
    refine VX.nil ?_
    refine VC.reg tab_ok [] rfl ?_
    refine VX.meek rfl ?_
    refine VX.callP0 rfl rfl rfl (h) ?_
    refine VX.new rfl rfl ?_
    refine VX.store rfl rfl rfl rfl rfl au_s rfl ?_
    refine VX.nil ?_
    refine VC.seq ?_
    refine VC.reg tab_ok [] rfl ?_
    refine VX.meek rfl ?_
    first | refine VX.meek rfl ?_ | refine VX.loadI rfl rfl au_l ?_ | refine VX.loadP rfl rfl rfl au_l ?_
    refine VX.strEqN rfl rfl ?_
    refine VX.nil ?_
    refine VC.condT rfl ?_
    refine VC.reg tab_ok [] rfl ?_
    refine VX.meek rfl ?_
    refine VX.store rfl rfl rfl rfl rfl au_s rfl ?_
    refine VX.meek rfl ?_
    refine VX.nil ?_
    refine VC.ret ?_
    exact ⟨trivial, _, rfl, Cv.tup (CvL.cons (Cv.agg (CvL.cons (Cv.nil _ (.inl rfl)) (CvL.pure rfl))) (CvL.cons (Cv.pure rfl) CvL.nil))⟩
  · rw [if_neg hc]
    have hfo := form_p c (hl hc)
    have hb : (c == []) = false := beq_eq_false_iff_ne.2 hc
    have hb2 : (c != []) = true := by rw [bne, hb]; rfl
    rw [hb2]
    refine CallP.intro2 au_pu au_pu ?_
    refine CallT.intro tab_ok Tryz.func41 rfl (by kernel_rfl) (Nat.le_of_ble_eq_true rfl) ?_
    refine VC.reg tab_ok [] rfl ?_
    refine VX.new rfl rfl ?_
    refine VX.meek rfl ?_
    refine VX.nil ?_
    refine VC.reg tab_ok [] rfl ?_
    refine VX.meek rfl ?_
    refine VX.callP0 rfl rfl rfl (h) ?_
    refine VX.new rfl rfl ?_
    refine VX.store rfl rfl rfl rfl rfl au_s rfl ?_
    refine VX.nil ?_
    refine VC.seq ?_
    refine VC.reg tab_ok [] rfl ?_
    refine VX.meek rfl ?_
    first | refine VX.meek rfl ?_ | refine VX.loadI rfl rfl au_l ?_ | refine VX.loadP rfl rfl rfl au_l ?_
    refine VX.strEqN rfl rfl ?_; rw [hb]
    refine VX.nil ?_
    refine VC.condF rfl ?_
    refine VC.skip ?_
    refine VC.reg tab_ok [] rfl ?_
    refine VX.meek rfl ?_
    first | refine VX.meek rfl ?_ | refine VX.loadI rfl rfl au_l ?_ | refine VX.loadP rfl rfl rfl au_l ?_
    refine VX.callP0 rfl rfl rfl (hfo) ?_
    refine VX.store rfl rfl rfl rfl rfl au_s rfl ?_
    refine VX.meek rfl ?_
    refine VX.nil ?_
    refine VC.ret ?_
    exact ⟨trivial, _, rfl, Cv.tup (CvL.cons (Cv.agg (CvL.eq rfl (fm_pure _))) (CvL.cons (Cv.pure rfl) CvL.nil))⟩
end
section
open Go.RowKit
set_option maxRecDepth 100000
set_option maxHeartbeats 1000000
def nOk (n : List Int) : Prop := ∀ v ∈ n, -4294967296 ≤ v ∧ v ≤ 4294967296
theorem nOk.at {n : List Int} (h : nOk n) {i : Nat} (hi : i < n.length) : -4294967296 ≤ n[i]! ∧ n[i]! ≤ 4294967296 := h _ (List.mem_iff_getElem?.2 ⟨i, getE hi⟩)
theorem and255g {s : Int} (h : -9223372036854775808 ≤ s ∧ s ≤ 9223372036854775807) : bitV .and .i64 s 255 = s % 256 := by
  have e : (BitVec.ofInt 64 s &&& BitVec.ofInt 64 255).toNat = (s % 256).toNat := by
    rw [BitVec.toNat_and]
    have e1 : (BitVec.ofInt 64 s).toNat = (s % 18446744073709551616).toNat := by simp only [BitVec.toNat_ofInt]; rfl
    have e2 : (BitVec.ofInt 64 255).toNat = 2 ^ 8 - 1 := by decide
    rw [e1, e2, Nat.and_two_pow_sub_one_eq_mod]
    omega
  show IntKind.i64.wrap ((BitVec.ofInt 64 s &&& BitVec.ofInt 64 255).toNat : Int) = _
  rw [e, wrap_in (by omega)]
  omega
theorem nat_and256 (x : Nat) : x &&& 2 ^ 8 = if x / 2 ^ 8 % 2 = 1 then 2 ^ 8 else 0 := by
  apply Nat.eq_of_testBit_eq
  intro j
  rw [Nat.testBit_and, Nat.testBit_two_pow]
  by_cases hj : 8 = j
  · subst hj
    rw [decide_eq_true rfl, Bool.and_true, Nat.testBit_eq_decide_div_mod_eq]
    by_cases h : x / 2 ^ 8 % 2 = 1
    · rw [if_pos h, decide_eq_true h]; rfl
    · rw [if_neg h, decide_eq_false h]; rfl
  · rw [decide_eq_false hj, Bool.and_false]
    split
    · rw [Nat.testBit_two_pow, decide_eq_false hj]
    · rw [Nat.zero_testBit]
theorem and256g {s : Int} (h : -9223372036854775808 ≤ s ∧ s ≤ 9223372036854775807) : bitV .and .i64 s 256 = (s / 256 % 2) * 256 := by
  have e : (BitVec.ofInt 64 s &&& BitVec.ofInt 64 256).toNat = ((s / 256 % 2) * 256).toNat := by
    rw [BitVec.toNat_and]
    have e1 : (BitVec.ofInt 64 s).toNat = (s % 18446744073709551616).toNat := by simp only [BitVec.toNat_ofInt]; rfl
    have e2 : (BitVec.ofInt 64 256).toNat = 2 ^ 8 := by decide
    rw [e1, e2, nat_and256]
    split <;> omega
  show IntKind.i64.wrap ((BitVec.ofInt 64 s &&& BitVec.ofInt 64 256).toNat : Int) = _
  rw [e, wrap_in (by omega)]
  omega
def Ed.pt (e : Ed) (n : List Int) : Nat := placeN e.c.bf.text (e.top + max n[5]! 0 / 6) (e.left + max n[4]! 0 / 4)
theorem pointed_p (e : Ed) (hw : e.W) (n : List Int) (hn : nOk n) (hl : 6 ≤ n.length) : CallP Tryz.prog 87 [.iptr (edC e) 0, cIf n] (I64 (e.pt n : Nat)) := by
  have hp := ed_pure e
  have hpn := encL_pure cI n
  have h4 := hn.at (i := 4) (by omega)
  have h5 := hn.at (i := 5) (by omega)
  have h3 := hw.t
  have hpl := place_p e.c.bf (e.top + max n[5]! 0 / 6) (e.left + max n[4]! 0 / 4) hw.len (by omega) (by omega)
  refine CallP.intro2 au_pu au_pu ?_
  refine CallT.intro tab_ok Tryz.func87 rfl (by kernel_rfl) (Nat.le_of_ble_eq_true rfl) ?_
  refine VC.reg tab_ok [] rfl ?_
  refine VX.meek rfl ?_
  refine VX.nil ?_
  refine VC.drw tab_ok [] [_, _, _, _, _, _, _, _, _, _] rfl (by kernel_rfl) (by kernel_rfl) ?_
  refine VX.meek rfl ?_
  refine VX.idxI (m := 4) rfl rfl rfl rfl rfl rfl (by omega) ?_
  refine VX.loadI rfl rfl (encL_part0 cI (m := 4) (getE (by omega)) (by decide) rfl) ?_
  first | refine VX.maxX rfl rfl ?_ | refine VX.meek rfl ?_
  refine VX.meek rfl ?_
  refine VX.idxI (m := 5) rfl rfl rfl rfl rfl rfl (by omega) ?_
  refine VX.loadI rfl rfl (encL_part0 cI (m := 5) (getE (by omega)) (by decide) rfl) ?_
  first | refine VX.maxX rfl rfl ?_ | refine VX.meek rfl ?_
  iterate 2 refine VX.meek rfl ?_
  iterate 2 refine VX.nil ?_
  refine VC.drw tab_ok [] [_, _, _, _, _, _, _, _, _, _, _, _, _, _, _, _, _, _, _, _] rfl (by kernel_rfl) (by kernel_rfl) ?_
  iterate 3 refine VX.meek rfl ?_
  first | refine VX.meek rfl ?_ | refine VX.loadI rfl rfl au_l ?_ | refine VX.loadP rfl rfl rfl au_l ?_
  iterate 3 refine VX.meek rfl ?_
  first | refine VX.meek rfl ?_ | refine VX.loadI rfl rfl au_l ?_ | refine VX.loadP rfl rfl rfl au_l ?_
  refine VX.meek rfl ?_
  refine VX.quoX rfl rfl (by omega) (by omega) (by omega) ?_
  first | refine VX.add rfl rfl (by omega) ?_ | refine VX.meek rfl ?_
  iterate 3 refine VX.meek rfl ?_
  first | refine VX.meek rfl ?_ | refine VX.loadI rfl rfl au_l ?_ | refine VX.loadP rfl rfl rfl au_l ?_
  refine VX.meek rfl ?_
  refine VX.quoX rfl rfl (by omega) (by omega) (by omega) ?_
  first | refine VX.add rfl rfl (by omega) ?_ | refine VX.meek rfl ?_
  refine VX.callP0 rfl rfl rfl (hpl) ?_
  refine VX.meek rfl ?_
  iterate 2 refine VX.nil ?_
  refine VC.ret ?_
  exact ⟨trivial, _, rfl, Cv.eq rfl rfl⟩
theorem pointed_l (e : Ed) (hw : e.W) (n : List Int) (hn : nOk n) (hl : 6 ≤ n.length) : LookT Tryz.prog 87 [cIf n] (I64 (e.pt n : Nat)) (edC e) :=
  LookT.of_p (pointed_p e hw n hn hl) rfl rfl (ed_pure e) (by simp only [T.pureL, T.pure, encL_pure]; rfl)
abbrev EvT (f : FuncId) (e : Ed) (n : List Int) (p : Ed × List Rq) : Prop := CallT Tryz.prog f [.ptr 0 0, cIf n] [.c (edC e)] (fun t H' => t = .slc 1 0 p.2.length 4 none ∧ H' = [.c (edC p.1), .c (encL cRq p.2)])
def Ed.anew (e e2 : Ed) (l : List Rq) : Ed × List Rq := (e2.seen, e2.seen.redN e.look l e.rows)
theorem keyR_len (e : Ed) (code mods time : Int) : (e.keyR code mods time).length ≤ 10 := by
  unfold Ed.keyR Ed.cmdR
  repeat' split
  all_goals simp
theorem pressed1_t (e : Ed) (hw : e.W) (n : List Int) (hn : nOk n) (hl : 9 ≤ n.length) : CallT Tryz.prog 84 ([] ++ [] ++ [.iptr [.ptr 0 0] 0, .iptr [cIf n] 0]) [.c (edC e)]
    (fun t H' => t = .slc 1 0 (e.keyR n[2]! (n[3]! % 256) n[8]!).length 4 none ∧ H' = [.c (edC (e.wc (e.c.key n[2]! (n[3]! % 256)))), .c (encL cRq (e.keyR n[2]! (n[3]! % 256) n[8]!))]) := by
  have hpn := encL_pure cI n
  have h3 := hn.at (i := 3) (by omega)
  have hk := key_t e hw.o n[2]! (n[3]! % 256) n[8]! (by omega)
  have hpl := encL_pure cRq (e.keyR n[2]! (n[3]! % 256) n[8]!)
  have ha := and255g (s := n[3]!) (by omega)
  show CallT Tryz.prog 84 [.iptr [.ptr 0 0] 0, .iptr [cIf n] 0] _ _
  refine CallT.intro tab_ok Tryz.func84 rfl (by kernel_rfl) (Nat.le_of_ble_eq_true rfl) ?_
  refine VC.reg tab_ok [] rfl ?_
  refine VX.meek rfl ?_
  refine VX.nil ?_
  refine VC.drw tab_ok [] [_, _, _, _, _, _, _, _, _, _, _] rfl (by kernel_rfl) (by kernel_rfl) ?_
  first | refine VX.meek rfl ?_ | refine VX.loadI rfl rfl au_l ?_ | refine VX.loadP rfl rfl rfl au_l ?_
  first | refine VX.meek rfl ?_ | refine VX.loadI rfl rfl au_l ?_ | refine VX.loadP rfl rfl rfl au_l ?_
  refine VX.idxI (m := 2) rfl rfl rfl rfl rfl rfl (by omega) ?_
  refine VX.loadI rfl rfl (encL_part0 cI (m := 2) (getE (by omega)) (by decide) rfl) ?_
  first | refine VX.meek rfl ?_ | refine VX.loadI rfl rfl au_l ?_ | refine VX.loadP rfl rfl rfl au_l ?_
  refine VX.idxI (m := 3) rfl rfl rfl rfl rfl rfl (by omega) ?_
  refine VX.loadI rfl rfl (encL_part0 cI (m := 3) (getE (by omega)) (by decide) rfl) ?_
  refine VX.meek (t := I64 (n[3]! % 256)) (by show some (T.v (.int .i64 (bitV .and .i64 n[3]! 255)), (none : Option (Nat × List T))) = _; rw [ha]) ?_
  first | refine VX.meek rfl ?_ | refine VX.loadI rfl rfl au_l ?_ | refine VX.loadP rfl rfl rfl au_l ?_
  refine VX.idxI (m := 8) rfl rfl rfl rfl rfl rfl (by omega) ?_
  refine VX.loadI rfl rfl (encL_part0 cI (m := 8) (getE (by omega)) (by decide) rfl) ?_
  refine VX.nil ?_
  refine VX.callT rfl rfl (CallT.frame (hk) [0] rfl au_ci au_ci ?_)
  rintro _ _ ⟨rfl, rfl⟩
  refine frK au_co au_co ?_
  refine VX.meek rfl ?_
  refine VX.nil ?_
  refine VC.ret ?_
  exact ⟨trivial, _, rfl, rfl, rfl⟩
theorem cap_cv (n : List Int) : CvL (vwIn [0]) [.iptr [.ptr 0 0] 0, .iptr [cIf n] 0] [.iptr [.ptr 0 0] 0, .iptr [cIf n] 0] :=
  CvL.cons (Cv.iptr (CvL.cons (Cv.ptr rfl) CvL.nil)) (CvL.cons (Cv.iptr (CvL.pure (by simp only [T.pureL, T.pure, encL_pure]; rfl))) CvL.nil)
theorem Ed.W.put_c {e : Ed} (hw : e.W) {c : Ec} (ok : c.Ok) : (e.wc c).W := ⟨hw.s, ok, hw.t⟩
theorem pressed_t (e : Ed) (hw : e.W) (n : List Int) (hn : nOk n) (hl : 9 ≤ n.length) : EvT 51 e n (e.anew (e.wc (e.c.key n[2]! (n[3]! % 256))) (e.keyR n[2]! (n[3]! % 256) n[8]!)) := by
  have hpn := encL_pure cI n
  have hr := redrawn_t e (e.wc (e.c.key n[2]! (n[3]! % 256))) hw (hw.put_c (hw.o.key _ _)) rfl _ (keyR_len e _ _ _) _ _ (pressed1_t e hw n hn hl) (cap_cv n)
  show CallT _ _ _ _ _
  unfold Ed.anew
  refine CallT.intro tab_ok Tryz.func51 rfl (by kernel_rfl) (Nat.le_of_ble_eq_true rfl) ?_
  refine VC.reg tab_ok [2, 3] rfl ?_
  iterate 2 refine VX.newI rfl rfl ?_
  refine VX.meek rfl ?_
  refine VX.nil ?_
  refine VC.reg tab_ok [] rfl ?_
  first | refine VX.meek rfl ?_ | refine VX.loadI rfl rfl au_l ?_ | refine VX.loadP rfl rfl rfl au_l ?_
  refine VX.meek rfl ?_
  refine VX.callT rfl rfl (CallT.frame (hr) [0] rfl au_ci au_ci ?_)
  rintro _ _ ⟨rfl, rfl⟩
  refine frK au_co au_co ?_
  refine VX.meek rfl ?_
  refine VX.nil ?_
  refine VC.ret ?_
  exact ⟨trivial, _, rfl, rfl, rfl⟩
theorem clicked1_t (e : Ed) (hw : e.W) (n : List Int) (hn : nOk n) (hl : 6 ≤ n.length) : CallT Tryz.prog 86 ([] ++ [] ++ [.iptr [.ptr 0 0] 0, .iptr [cIf n] 0]) [.c (edC e)]
    (fun t H' => t = .slc 1 0 ([] : List Rq).length 4 none ∧ H' = [.c (edC (e.wc { e.c with cur := e.pt n, anc := e.pt n })), .c (encL cRq [])]) := by
  have hpn := encL_pure cI n
  have hpo := pointed_l e hw n hn hl
  have hbo := both_t e (e.pt n)
  refine CallT.out ?_
  show CallT Tryz.prog 86 [.iptr [.ptr 0 0] 0, .iptr [cIf n] 0] _ _
  refine CallT.intro tab_ok Tryz.func86 rfl (by kernel_rfl) (Nat.le_of_ble_eq_true rfl) ?_
  refine VC.reg tab_ok [] rfl ?_
  refine VX.meek rfl ?_
  refine VX.nil ?_
  refine VC.drwC tab_ok [] [_, _, _, _, _, _] ([.c (edC e)]) [false, false, false, false, false, false] rfl (by kernel_rfl) (by kernel_rfl) (by kernel_rfl) (by repeat' first | exact seen_nil | refine seen_dead ?_ | refine seen_same ?_) ?_
  first | refine VD.meek rfl ?_ | refine VD.loadI rfl rfl au_l ?_
  refine VD.meek rfl ?_
  refine VD.meek rfl ?_
  first | refine VD.meek rfl ?_ | refine VD.loadI rfl rfl au_l ?_
  first | refine VD.meek rfl ?_ | refine VD.loadI rfl rfl au_l ?_
  refine VD.lookO rfl rfl (hpo) rfl ?_
  refine VD.nil ?_
  refine VX.callT rfl rfl (CallT.frame (hbo) [0] rfl au_ci au_ci ?_)
  rintro _ _ ⟨rfl, rfl⟩
  refine frK au_co au_co ?_
  refine VX.nil ?_
  refine VC.reg tab_ok [] rfl ?_
  refine VX.meek rfl ?_
  refine VX.nil ?_
  refine VC.ret ?_
  exact ⟨trivial, _, rfl, out2n rfl (CvL.eq rfl (ed_pure _))⟩
theorem pt_le (e : Ed) (n : List Int) : e.pt n ≤ e.c.bf.text.length := placeN_le _ _ _
theorem clicked_t (e : Ed) (hw : e.W) (n : List Int) (hn : nOk n) (hl : 6 ≤ n.length) : EvT 52 e n (e.anew (e.wc { e.c with cur := e.pt n, anc := e.pt n }) []) := by
  have hpn := encL_pure cI n
  have hr := redrawn_t e (e.wc { e.c with cur := e.pt n, anc := e.pt n }) hw (hw.put_c ⟨hw.o.bf, ⟨pt_le e n, pt_le e n⟩, hw.o.cop⟩) rfl [] (by simp) _ _ (clicked1_t e hw n hn hl) (cap_cv n)
  show CallT _ _ _ _ _
  unfold Ed.anew
  refine CallT.intro tab_ok Tryz.func52 rfl (by kernel_rfl) (Nat.le_of_ble_eq_true rfl) ?_
  refine VC.reg tab_ok [2, 3] rfl ?_
  iterate 2 refine VX.newI rfl rfl ?_
  refine VX.meek rfl ?_
  refine VX.nil ?_
  refine VC.reg tab_ok [] rfl ?_
  first | refine VX.meek rfl ?_ | refine VX.loadI rfl rfl au_l ?_ | refine VX.loadP rfl rfl rfl au_l ?_
  refine VX.meek rfl ?_
  refine VX.callT rfl rfl (CallT.frame (hr) [0] rfl au_ci au_ci ?_)
  rintro _ _ ⟨rfl, rfl⟩
  refine frK au_co au_co ?_
  refine VX.meek rfl ?_
  refine VX.nil ?_
  refine VC.ret ?_
  exact ⟨trivial, _, rfl, rfl, rfl⟩
theorem moved1_t (e : Ed) (hw : e.W) (n : List Int) (hn : nOk n) (hl : 6 ≤ n.length) : CallT Tryz.prog 88 ([] ++ [] ++ [.iptr [.ptr 0 0] 0, .iptr [cIf n] 0]) [.c (edC e)]
    (fun t H' => t = .slc 1 0 ([] : List Rq).length 4 none ∧ H' = [.c (edC (e.wc { e.c with cur := e.pt n })), .c (encL cRq [])]) := by
  have hpn := encL_pure cI n
  have hpo := pointed_l e hw n hn hl
  refine CallT.out ?_
  show CallT Tryz.prog 88 [.iptr [.ptr 0 0] 0, .iptr [cIf n] 0] _ _
  refine CallT.intro tab_ok Tryz.func88 rfl (by kernel_rfl) (Nat.le_of_ble_eq_true rfl) ?_
  refine VC.reg tab_ok [] rfl ?_
  refine VX.meek rfl ?_
  refine VX.nil ?_
  refine VC.drwC tab_ok [] [_, _, _, _] ([.c (edC e)]) [false, false, false, false] rfl (by kernel_rfl) (by kernel_rfl) (by kernel_rfl) (by repeat' first | exact seen_nil | refine seen_dead ?_ | refine seen_same ?_) ?_
  first | refine VD.meek rfl ?_ | refine VD.loadI rfl rfl au_l ?_
  first | refine VD.meek rfl ?_ | refine VD.loadI rfl rfl au_l ?_
  first | refine VD.meek rfl ?_ | refine VD.loadI rfl rfl au_l ?_
  refine VD.lookO rfl rfl (hpo) rfl ?_
  refine VD.nil ?_
  iterate 3 refine VX.meek rfl ?_
  refine VX.store rfl rfl rfl rfl rfl au_s rfl ?_
  refine VX.nil ?_
  refine VC.reg tab_ok [] rfl ?_
  refine VX.meek rfl ?_
  refine VX.nil ?_
  refine VC.ret ?_
  exact ⟨trivial, _, rfl, out2n rfl (CvL.eq rfl (ed_pure _))⟩
def Ed.movedN (e : Ed) (n : List Int) : Ed × List Rq := if n[3]! / 256 % 2 = 0 then (e, []) else e.anew (e.wc { e.c with cur := e.pt n }) []
theorem moved_t (e : Ed) (hw : e.W) (n : List Int) (hn : nOk n) (hl : 6 ≤ n.length) : EvT 53 e n (e.movedN n) := by
  have hp := ed_pure e
  have hpn := encL_pure cI n
  have h3 := hn.at (i := 3) (by omega)
  have ha := and256g (s := n[3]!) (by omega)
  have hr := redrawn_t e (e.wc { e.c with cur := e.pt n }) hw (hw.put_c ⟨hw.o.bf, ⟨pt_le e n, hw.o.cur.2⟩, hw.o.cop⟩) rfl [] (by simp) _ _ (moved1_t e hw n hn hl) (cap_cv n)
  show CallT _ _ _ _ _
  by_cases h : n[3]! / 256 % 2 = 0
  case pos =>
    rw [show e.movedN n = (e, []) from if_pos h]
    refine CallT.out ?_
    refine CallT.intro tab_ok Tryz.func53 rfl (by kernel_rfl) (Nat.le_of_ble_eq_true rfl) ?_
    refine VC.reg tab_ok [2, 3] rfl ?_
    iterate 2 refine VX.newI rfl rfl ?_
    refine VX.meek rfl ?_
    refine VX.nil ?_
    refine VC.seq ?_
    refine VC.reg tab_ok [] rfl ?_
    first | refine VX.meek rfl ?_ | refine VX.loadI rfl rfl au_l ?_ | refine VX.loadP rfl rfl rfl au_l ?_
    refine VX.idxI (m := 3) rfl rfl rfl rfl rfl rfl (by omega) ?_
    refine VX.loadI rfl rfl (encL_part0 cI (m := 3) (getE (by omega)) (by decide) rfl) ?_
    refine VX.meek (t := I64 0) (by show some (T.v (.int .i64 (bitV .and .i64 n[3]! 256)), (none : Option (Nat × List T))) = _; rw [ha, h]; rfl) ?_
    refine VX.meek rfl ?_
    refine VX.nil ?_
    refine VC.condT rfl ?_
    refine VC.reg tab_ok [] rfl ?_
    refine VX.meek rfl ?_
    refine VX.nil ?_
    refine VC.ret ?_
    exact ⟨trivial, _, rfl, out2n rfl (CvL.eq rfl (ed_pure _))⟩
  case neg =>
    rw [show e.movedN n = e.anew (e.wc { e.c with cur := e.pt n }) [] from if_neg h]
    unfold Ed.anew
    have h1 : n[3]! / 256 % 2 * 256 = 256 := by omega
    refine CallT.intro tab_ok Tryz.func53 rfl (by kernel_rfl) (Nat.le_of_ble_eq_true rfl) ?_
    refine VC.reg tab_ok [2, 3] rfl ?_
    iterate 2 refine VX.newI rfl rfl ?_
    refine VX.meek rfl ?_
    refine VX.nil ?_
    refine VC.seq ?_
    refine VC.reg tab_ok [] rfl ?_
    first | refine VX.meek rfl ?_ | refine VX.loadI rfl rfl au_l ?_ | refine VX.loadP rfl rfl rfl au_l ?_
    refine VX.idxI (m := 3) rfl rfl rfl rfl rfl rfl (by omega) ?_
    refine VX.loadI rfl rfl (encL_part0 cI (m := 3) (getE (by omega)) (by decide) rfl) ?_
    refine VX.meek (t := I64 256) (by show some (T.v (.int .i64 (bitV .and .i64 n[3]! 256)), (none : Option (Nat × List T))) = _; rw [ha, h1]) ?_
    refine VX.meek rfl ?_
    refine VX.nil ?_
    refine VC.condF rfl ?_
    refine VC.skip ?_
    refine VC.reg tab_ok [] rfl ?_
    first | refine VX.meek rfl ?_ | refine VX.loadI rfl rfl au_l ?_ | refine VX.loadP rfl rfl rfl au_l ?_
    refine VX.meek rfl ?_
    refine VX.callT rfl rfl (CallT.frame (hr) [0] rfl au_ci au_ci ?_)
    rintro _ _ ⟨rfl, rfl⟩
    refine frK au_co au_co ?_
    refine VX.meek rfl ?_
    refine VX.nil ?_
    refine VC.ret ?_
    exact ⟨trivial, _, rfl, rfl, rfl⟩
def Ed.clearN (e : Ed) (n : List Int) : Ed := if n[1]! = 3 then e.wc { e.c with cop := [] } else e
theorem cleared_t (e : Ed) (hw : e.W) (n : List Int) (hl : 2 ≤ n.length) : EvT 56 e n (e.clearN n, []) := by
  have hp := ed_pure e
  have hpn := encL_pure cI n
  show CallT _ _ _ _ _
  refine CallT.out ?_
  unfold Ed.clearN
  refine CallT.intro tab_ok Tryz.func56 rfl (by kernel_rfl) (Nat.le_of_ble_eq_true rfl) ?_
  refine VC.reg tab_ok [] rfl ?_
  refine VX.meek rfl ?_
  refine VX.nil ?_
  refine VC.seq ?_
  refine VC.reg tab_ok [] rfl ?_
  refine VX.meek rfl ?_
  refine VX.idxI (m := 1) rfl rfl rfl rfl rfl rfl (by omega) ?_
  refine VX.loadI rfl rfl (encL_part0 cI (m := 1) (getE (by omega)) (by decide) rfl) ?_
  refine VX.meek rfl ?_
  refine VX.nil ?_
  refine VC.cond rfl (fun hc0 => ?_) (fun hc0 => ?_)
  · (try simp only [au_std] at hc0); rw [if_pos hc0]
    refine VC.regN tab_ok [] rfl ?_
    iterate 3 refine VX.meek rfl ?_
    refine VX.store rfl rfl rfl rfl rfl au_s rfl ?_
    refine VX.nil ?_
    refine VC.reg tab_ok [] rfl ?_
    refine VX.meek rfl ?_
    refine VX.nil ?_
    refine VC.ret ?_
    exact ⟨trivial, _, rfl, out2n rfl (CvL.eq rfl (ed_pure _))⟩
  · (try simp only [au_std] at hc0); rw [if_neg hc0]
    refine VC.skip ?_
    refine VC.reg tab_ok [] rfl ?_
    refine VX.meek rfl ?_
    refine VX.nil ?_
    refine VC.ret ?_
    exact ⟨trivial, _, rfl, out2n rfl (CvL.eq rfl (ed_pure _))⟩
def Ed.notiN (e : Ed) (n : List Int) : Ed × List Rq := if n[1]! ≠ 3 ∨ n[3]! ≠ 9 then (e, []) else ({ e with asked := e.cnt + 1 }, [⟨15, [e.win, 9, 4, 0, 4096, 1], [], []⟩])
theorem notified_t (e : Ed) (hc : 0 ≤ e.cnt ∧ e.cnt ≤ 1000000000) (n : List Int) (hl : 4 ≤ n.length) : EvT 55 e n (e.notiN n) := by
  have hp := ed_pure e
  have hpn := encL_pure cI n
  show CallT _ _ _ _ _
  refine CallT.out ?_
  unfold Ed.notiN
  refine CallT.intro tab_ok Tryz.func55 rfl (by kernel_rfl) (Nat.le_of_ble_eq_true rfl) ?_
  refine VC.reg tab_ok [] rfl ?_
  refine VX.meek rfl ?_
  refine VX.nil ?_
  refine VC.seq ?_
  refine VC.reg tab_ok [] rfl ?_
  refine VX.meek rfl ?_
  refine VX.idxI (m := 1) rfl rfl rfl rfl rfl rfl (by omega) ?_
  refine VX.loadI rfl rfl (encL_part0 cI (m := 1) (getE (by omega)) (by decide) rfl) ?_
  iterate 2 refine VX.meek rfl ?_
  refine' VX.merge (d := 14) [_, _, _, _, _] rfl ?_ rfl ?_
  rotate_left
  · refine VX.guard rfl rfl (fun hb1_4 => ?_) (fun hb1_4 => ?_)
    · have ghb1_4 := hb1_4
      try simp only [au_std, Bool.not_true, Bool.not_false] at ghb1_4
      refine VX.meek rfl ?_
      refine VX.guardT rfl rfl hb1_4 ?_
      refine VX.idxI (m := 3) rfl rfl rfl rfl rfl rfl (by omega) ?_
      refine VX.guardT rfl rfl hb1_4 ?_
      refine VX.loadI rfl rfl (encL_part0 cI (m := 3) (getE (by omega)) (by decide) rfl) ?_
      refine VX.guardT rfl rfl hb1_4 ?_
      refine VX.meek rfl ?_
      refine VX.pickO rfl (fun _ => rfl) ?_
      exact VX.nil ⟨rfl, rfl⟩
    · refine VX.guardF rfl rfl hb1_4 ?_
      iterate 2 refine VX.guardF rfl rfl hb1_4 ?_
      exact VX.pickO rfl (fun h => absurd (h.symm.trans hb1_4) (by decide)) (VX.nil ⟨rfl, rfl⟩)
  refine VX.nil ?_
  refine VC.cond rfl (fun hc0 => ?_) (fun hc0 => ?_)
  · (try simp only [au_std] at hc0); rw [if_pos hc0]
    refine VC.reg tab_ok [] rfl ?_
    refine VX.meek rfl ?_
    refine VX.nil ?_
    refine VC.ret ?_
    exact ⟨trivial, _, rfl, out2n rfl (CvL.eq rfl (ed_pure _))⟩
  · (try simp only [au_std] at hc0); rw [if_neg (by omega)]
    refine VC.skip ?_
    refine VC.reg tab_ok [] rfl ?_
    iterate 4 refine VX.meek rfl ?_
    first | refine VX.meek rfl ?_ | refine VX.loadI rfl rfl au_l ?_ | refine VX.loadP rfl rfl rfl au_l ?_
    first | refine VX.add rfl rfl (by omega) ?_ | refine VX.meek rfl ?_
    iterate 2 refine VX.meek rfl ?_
    refine VX.store rfl rfl rfl rfl rfl au_s rfl ?_
    refine VX.nil ?_
    refine VC.view ([(0, .ptr 0 0)]) ([.c (edC { e with asked := e.cnt + 1 })]) [] rfl (by refine ⟨[some 0], rfl, by first | trivial | decide, by first | rfl | (simp only [noO, Bool.and_true, Bool.and_eq_true]; first | assumption | (refine ⟨?_, ?_⟩ <;> assumption)) | (simp only [noO, *, Bool.and_true, Bool.true_and, Bool.and_self]; done), ?_, ?_⟩ <;> (repeat' first | exact trivial | exact CvB_n | exact CvB_d | exact CvB_o rfl | refine CvE_app ?_ ?_ | refine CvE_cons rfl ?_ ?_ | refine CvH_cons ?_ ?_ | refine CvB_c rfl ?_ | fail) <;> first | exact au_v | (exact CvL.eq rfl (ed_pure _))) ?_
    refine VC.reg tab_ok [27] rfl ?_
    iterate 3 refine VX.meek rfl ?_
    first | refine VX.meek rfl ?_ | refine VX.loadI rfl rfl au_l ?_ | refine VX.loadP rfl rfl rfl au_l ?_
    refine VX.newI rfl rfl ?_
    refine VX.meek rfl ?_
    refine VX.new rfl rfl ?_
    refine VX.meek rfl ?_
    refine VX.nil ?_
    refine VC.ret ?_
    refine ⟨trivial, _, rfl, out2 (b := 0) (xs := [_, _, _, _]) rfl rfl (CvL.eq rfl (ed_pure _)) ?_⟩; exact au_fr
end
section
open Go.RowKit
set_option maxRecDepth 100000
set_option maxHeartbeats 1000000
section
variable {q : Bool} {P : Program} {tab : Tab} {im : List Nat} {ds : List (Option Nat)} {l : List Oper} {E : Env} {H : Hp} {K : Env → Hp → Prop} {d : Nat} {ty : TypeId} {pos : String} {after : Array Edge}
theorem VX.strNeN [Dr] {x y : Operand} {t t2 : Nat} {a b : List UInt8} (hx : E.opd x = some (strT a)) (hy : E.opd y = some (strT b)) (k : VX q P tab im ds l ((d, BL (a != b)) :: E) H K) : VX q P tab im ds (⟨some d, .binOp .neq t x y t2, ty, pos, after, none⟩ :: l) E H K := by
  refine VX.meek (t := BL (a != b)) ?_ k
  simp only [opM, hx, hy, mBin, binStr]
  rw [str_beq]
  rfl
end
def meetsB (a y h : Int) : Bool := decide (0 < h) && decide (y < a + 6) && decide (a < y + h)
theorem meetsE_p (a y h : Int) (ha : 0 ≤ a ∧ a ≤ 100000) (hy : -4294967296 ≤ y ∧ y ≤ 4294967296) (hh : -4294967296 ≤ h ∧ h ≤ 4294967296) : CallP Tryz.prog 83 [I64 a, I64 y, I64 h] (BL (meetsB a y h)) := by
  refine CallP.intro2 au_pu au_pu ?_
  refine CallT.intro tab_ok Tryz.func83 rfl (by kernel_rfl) (Nat.le_of_ble_eq_true rfl) ?_
  refine VC.reg tab_ok [] rfl ?_
  refine VX.meek rfl ?_
  refine VX.nil ?_
  refine VC.seq ?_
  refine VC.reg tab_ok [] rfl ?_
  iterate 3 refine VX.meek rfl ?_
  refine' VX.merge (d := 14) [_, _, _, _, _] rfl ?_ rfl ?_
  rotate_left
  · refine VX.guard rfl rfl (fun hb1_2 => ?_) (fun hb1_2 => ?_)
    · have ghb1_2 := hb1_2
      try simp only [au_std, Bool.not_true, Bool.not_false] at ghb1_2
      refine VX.meek rfl ?_
      refine VX.guardT rfl rfl hb1_2 ?_
      refine VX.meek rfl ?_
      refine VX.guardT rfl rfl hb1_2 ?_
      first | refine VX.add rfl rfl (by omega) ?_ | refine VX.meek rfl ?_
      refine VX.guardT rfl rfl hb1_2 ?_
      refine VX.meek rfl ?_
      refine VX.pickO rfl (fun _ => rfl) ?_
      exact VX.nil ⟨rfl, rfl⟩
    · refine VX.guardF rfl rfl hb1_2 ?_
      iterate 2 refine VX.guardF rfl rfl hb1_2 ?_
      exact VX.pickO rfl (fun h => absurd (h.symm.trans hb1_2) (by decide)) (VX.nil ⟨rfl, rfl⟩)
  refine VX.nil ?_
  refine VC.cond rfl (fun hc0 => ?_) (fun hc0 => ?_)
  · (try simp only [au_std] at hc0); have e1 : meetsB a y h = false := (by unfold meetsB; simp; omega)
    refine VC.reg tab_ok [] rfl ?_
    refine VX.meek rfl ?_
    refine VX.nil ?_
    refine VC.ret ?_
    exact ⟨trivial, _, rfl, Cv.eq (by rw [e1]; rfl) rfl⟩
  · (try simp only [au_std] at hc0); skip
    refine VC.skip ?_
    refine VC.seq ?_
    refine VC.reg tab_ok [] rfl ?_
    iterate 2 refine VX.meek rfl ?_
    refine VX.nil ?_
    refine VC.cond rfl (fun hc1 => ?_) (fun hc1 => ?_)
    · (try simp only [au_std] at hc1); have e2 : meetsB a y h = decide (a < y + h) := (by unfold meetsB; rw [Bool.eq_iff_iff]; simp; omega)
      refine VC.reg tab_ok [] rfl ?_
      iterate 3 refine VX.meek rfl ?_
      first | refine VX.add rfl rfl (by omega) ?_ | refine VX.meek rfl ?_
      iterate 2 refine VX.meek rfl ?_
      refine VX.nil ?_
      refine VC.ret ?_
      exact ⟨trivial, _, rfl, Cv.eq (by rw [e2]) rfl⟩
    · (try simp only [au_std] at hc1); have e3 : meetsB a y h = decide (a - y < h) := (by unfold meetsB; rw [Bool.eq_iff_iff]; simp; omega)
      refine VC.skip ?_
      refine VC.reg tab_ok [] rfl ?_
      iterate 2 refine VX.meek rfl ?_
      first | refine VX.sub rfl rfl (by omega) ?_ | refine VX.meek rfl ?_
      iterate 3 refine VX.meek rfl ?_
      refine VX.nil ?_
      refine VC.ret ?_
      exact ⟨trivial, _, rfl, Cv.eq (by rw [e3]) rfl⟩
def Ed.expL (e : Ed) (n : List Int) (k : Nat) : List Rq := ((List.range k).map fun (y : Nat) => if meetsB (6 * (y : Int)) n[2]! n[4]! = true then e.drawnR y (e.look y) else []).flatten
theorem Ed.expL_t {e : Ed} {n : List Int} {k : Nat} (h : meetsB (6 * (k : Int)) n[2]! n[4]! = true) : e.expL n (k + 1) = e.expL n k ++ e.drawnR k (e.look k) := by
  unfold Ed.expL; rw [List.range_succ, List.map_append, List.flatten_append, List.map_singleton, if_pos h, List.flatten_singleton]
theorem Ed.expL_f {e : Ed} {n : List Int} {k : Nat} (h : meetsB (6 * (k : Int)) n[2]! n[4]! = false) : e.expL n (k + 1) = e.expL n k := by
  unfold Ed.expL; rw [List.range_succ, List.map_append, List.flatten_append, List.map_singleton, if_neg (by rw [h]; simp), List.flatten_singleton, List.append_nil]
theorem Ed.expL_len (e : Ed) (n : List Int) (k : Nat) : (e.expL n k).length ≤ 5 * k := by
  induction k with
  | zero => simp [Ed.expL]
  | succ k ih =>
    cases h : meetsB (6 * (k : Int)) n[2]! n[4]! with
    | true => rw [Ed.expL_t h, List.length_append]; have := e.drawnR_len k (e.look k); omega
    | false => rw [Ed.expL_f h]; omega
theorem exposedE_t (e : Ed) (hw : e.W) (n : List Int) (hn : nOk n) (hl : 5 ≤ n.length) : EvT 50 e n (e, e.expL n e.rows) := by
  have hp := ed_pure e
  have hpn := encL_pure cI n
  have h2 := hn.at (i := 2) (by omega)
  have h4 := hn.at (i := 4) (by omega)
  have hlk := looks_l e hw
  have hpk := encL_pure cLk (e.lk e.rows)
  have hR := hw.rows
  have hel := e.expL_len n
  show CallT _ _ _ _ _
  refine CallT.out ?_
  refine CallT.intro tab_ok Tryz.func50 rfl (by kernel_rfl) (Nat.le_of_ble_eq_true rfl) ?_
  refine VC.reg tab_ok [] rfl ?_
  refine VX.meek rfl ?_
  refine VX.nil ?_
  refine VC.reg tab_ok [] rfl ?_
  refine VX.meek rfl ?_
  refine VX.nil ?_
  refine VC.seq ?_
  refine VC.reg tab_ok [] rfl ?_
  refine VX.meek rfl ?_
  refine VX.callO rfl rfl (hlk) rfl ?_
  iterate 2 refine VX.meek rfl ?_
  refine VX.nil ?_
  refine VC.block ?_
  refine VC.loopS (σ := Nat) (fun y => e.rows - y) (fun y => y ≤ e.rows) (fun y => [(11, I64 (y : Nat)), (0, .ptr 0 0), (5, .slc 1 0 (e.expL n y).length 4 none)]) (fun y => [.c (edC e), .c (encL cRq (e.expL n y))]) [1, 9, 10] rfl (0) ?_ ?_ ?_
  · refine ⟨[some 0, none], rfl, by first | trivial | decide, by first | rfl | (simp only [noO, Bool.and_true, Bool.and_eq_true]; first | assumption | (refine ⟨?_, ?_⟩ <;> assumption)) | (simp only [noO, *, Bool.and_true, Bool.true_and, Bool.and_self]; done), ?_, ?_⟩ <;> (repeat' first | exact trivial | exact CvB_n | exact CvB_d | exact CvB_o rfl | refine CvE_app ?_ ?_ | refine CvE_cons rfl ?_ ?_ | refine CvH_cons ?_ ?_ | refine CvB_c rfl ?_ | fail) <;> first | exact au_v | (first | exact CvL.pure hp | exact CvL.pure rfl | exact Cv.pure (by simp only [T.pure, hpk]) | exact Cv.pure (by simp only [T.pure, hpn]))
  · (try dsimp only); omega
  rintro y hy
  refine VC.reg tab_ok [] rfl ?_
  refine VX.meek rfl ?_
  refine VX.nil ?_
  refine VC.seq ?_
  refine VC.cond rfl (fun hc0 => ?_) (fun hc0 => ?_)
  · (try simp only [au_std] at hc0); have hyl : y < e.rows := (by omega); have hrg := look_rg e y hw; have hdr := drawn_l e y (e.look y) (by omega) hrg; have hdn := e.drawnR_len y (e.look y); have hely := hel y; have hme := meetsE_p (6 * (y : Int)) n[2]! n[4]! (by omega) h2 h4; have hT := @Ed.expL_t e n y; have hF := @Ed.expL_f e n y
    refine VC.skip ?_
    refine VC.seq ?_
    refine VC.block ?_
    refine VC.reg tab_ok [] rfl ?_
    refine VX.meek rfl ?_
    refine VX.idxI (m := y) rfl rfl rfl rfl rfl rfl hyl ?_
    refine VX.loadI rfl rfl (encL_part0 cLk (m := y) (a := e.look y) (e.lk_at hyl) (by decide) rfl) ?_
    refine VX.new rfl rfl ?_
    refine VX.meek rfl ?_
    refine VX.store rfl rfl rfl rfl rfl au_sY rfl ?_
    refine VX.nil ?_
    refine VC.drw tab_ok [] [_, _, _, _, _, _, _, _, _] rfl (by kernel_rfl) (by kernel_rfl) ?_
    refine VX.meek rfl ?_
    first | refine VX.mul rfl rfl (by omega) ?_ | refine VX.meek rfl ?_
    refine VX.meek rfl ?_
    refine VX.idxI (m := 2) rfl rfl rfl rfl rfl rfl (by omega) ?_
    refine VX.loadI rfl rfl (encL_part0 cI (m := 2) (getE (by omega)) (by decide) rfl) ?_
    refine VX.meek rfl ?_
    refine VX.idxI (m := 4) rfl rfl rfl rfl rfl rfl (by omega) ?_
    refine VX.loadI rfl rfl (encL_part0 cI (m := 4) (getE (by omega)) (by decide) rfl) ?_
    refine VX.callP0 rfl rfl rfl (hme) ?_
    iterate 2 refine VX.nil ?_
    refine VC.cond rfl (fun hc1 => ?_) (fun hc1 => ?_)
    · have eT := hT hc1
      refine VC.regN tab_ok [] rfl ?_
      iterate 3 refine VX.meek rfl ?_
      first | refine VX.meek rfl ?_ | refine VX.loadI rfl rfl au_l ?_ | refine VX.loadP rfl rfl rfl au_l ?_
      refine VX.callO rfl rfl (hdr) rfl ?_
      refine' VX.append rfl rfl rfl rfl rfl rfl (src_c cRq rfl rfl rfl rfl) rfl ?h1 ?h2 ?h3 ?h4 ?h5 ?_
      case h1 => rw [encL_len, cRq_sz]; omega
      case h2 => exact Nat.le_trans (Nat.mul_le_mul_right _ (show _ ≤ 1000 by omega)) (by decide)
      case h3 => omega
      case h4 => rw [encL_len]; rfl
      case h5 => exact encL_cb _ _
      refine VX.meek rfl ?_
      refine VX.nil ?_
      refine VC.regN tab_ok [] rfl ?_
      first | refine VX.add rfl rfl (by omega) ?_ | refine VX.meek rfl ?_
      refine VX.meek rfl ?_
      refine VX.nil ?_
      refine ⟨y + 1, by (try dsimp only); omega, ?_, (by refine ⟨[some 0, some 3], rfl, by first | trivial | decide, by first | rfl | (simp only [noO, Bool.and_true, Bool.and_eq_true]; first | assumption | (refine ⟨?_, ?_⟩ <;> assumption)) | (simp only [noO, *, Bool.and_true, Bool.true_and, Bool.and_self]; done), ?_, ?_⟩ <;> (repeat' first | exact trivial | exact CvB_n | exact CvB_d | exact CvB_o rfl | refine CvE_app ?_ ?_ | refine CvE_cons rfl ?_ ?_ | refine CvH_cons ?_ ?_ | refine CvB_c rfl ?_ | fail) <;> first | exact au_v | (first | exact CvL.pure hp | exact Cv.pure (by simp only [T.pure, hpk]) | exact Cv.pure (by simp only [T.pure, hpn]) | (rw [eT, List.length_append]; exact Cv.slc rfl (.inr rfl)) | exact CvL.eq (by rw [eT, encL_append, List.drop_zero, List.take_of_length_le (by rw [encL_len, cRq_sz]; exact Nat.le_refl _)]) (encL_pure _ _)))⟩
      (try dsimp only); omega
    · have eF := hF hc1
      refine VC.skip ?_
      refine VC.regN tab_ok [] rfl ?_
      first | refine VX.add rfl rfl (by omega) ?_ | refine VX.meek rfl ?_
      refine VX.meek rfl ?_
      refine VX.nil ?_
      refine ⟨y + 1, by (try dsimp only); omega, ?_, (by refine ⟨[some 0, some 1], rfl, by first | trivial | decide, by first | rfl | (simp only [noO, Bool.and_true, Bool.and_eq_true]; first | assumption | (refine ⟨?_, ?_⟩ <;> assumption)) | (simp only [noO, *, Bool.and_true, Bool.true_and, Bool.and_self]; done), ?_, ?_⟩ <;> (repeat' first | exact trivial | exact CvB_n | exact CvB_d | exact CvB_o rfl | refine CvE_app ?_ ?_ | refine CvE_cons rfl ?_ ?_ | refine CvH_cons ?_ ?_ | refine CvB_c rfl ?_ | fail) <;> first | exact au_v | (first | exact CvL.pure hp | exact Cv.pure (by simp only [T.pure, hpk]) | exact Cv.pure (by simp only [T.pure, hpn]) | (rw [eF]; exact Cv.slc rfl (.inl rfl)) | exact CvL.eq (by rw [eF]) (encL_pure _ _)))⟩
      (try dsimp only); omega
  · (try simp only [au_std] at hc0); obtain rfl : y = e.rows := (by omega)
    refine VC.exit ?_
    refine VC.reg tab_ok [] rfl ?_
    iterate 2 refine VX.meek rfl ?_
    refine VX.nil ?_
    refine VC.ret ?_
    exact ⟨trivial, _, rfl, out2 (b := 0) rfl rfl (CvL.pure hp) (CvL.pure (encL_pure _ _))⟩
def Ed.givR (e : Ed) (n : List Int) : List Rq :=
  if n[2]! = 3 ∧ n[3]! = 4 ∧ n[4]! ≠ 0 ∧ e.c.cop ≠ [] then [⟨13, [n[1]!, n[4]!, 4, 8, 0], [], e.c.cop.map fun b => (b.toNat : Int)⟩, ⟨53, [n[1]!, 0, 0, 24], [], [n[1]!, n[2]!, n[3]!, n[4]!, n[5]!]⟩]
  else [⟨53, [n[1]!, 0, 0, 24], [], [n[1]!, n[2]!, n[3]!, 0, n[5]!]⟩]
theorem given_t (e : Ed) (hw : e.W) (n : List Int) (hl : 6 ≤ n.length) : EvT 54 e n (e, e.givR n) := by
  have hp := ed_pure e
  have hpn := encL_pure cI n
  have hcop := hw.o.cop
  show CallT _ _ _ _ _
  refine CallT.out ?_
  unfold Ed.givR
  refine CallT.intro tab_ok Tryz.func54 rfl (by kernel_rfl) (Nat.le_of_ble_eq_true rfl) ?_
  refine VC.reg tab_ok [] rfl ?_
  refine VX.meek rfl ?_
  refine VX.nil ?_
  refine VC.drw tab_ok [] [_, _, _, _, _, _, _, _] rfl (by kernel_rfl) (by kernel_rfl) ?_
  refine VX.meek rfl ?_
  refine VX.idxI (m := 1) rfl rfl rfl rfl rfl rfl (by omega) ?_
  refine VX.loadI rfl rfl (encL_part0 cI (m := 1) (getE (by omega)) (by decide) rfl) ?_
  refine VX.meek rfl ?_
  refine VX.idxI (m := 4) rfl rfl rfl rfl rfl rfl (by omega) ?_
  refine VX.loadI rfl rfl (encL_part0 cI (m := 4) (getE (by omega)) (by decide) rfl) ?_
  iterate 2 refine VX.meek rfl ?_
  iterate 2 refine VX.nil ?_
  refine VC.reg tab_ok [] rfl ?_
  refine VX.meek rfl ?_
  refine VX.nil ?_
  refine VC.seq ?_
  refine VC.reg tab_ok [] rfl ?_
  refine VX.meek rfl ?_
  refine VX.idxI (m := 2) rfl rfl rfl rfl rfl rfl (by omega) ?_
  refine VX.loadI rfl rfl (encL_part0 cI (m := 2) (getE (by omega)) (by decide) rfl) ?_
  iterate 2 refine VX.meek rfl ?_
  refine' VX.merge (d := 25) [_, _, _, _, _] rfl ?_ rfl ?_
  rotate_left
  · refine VX.guard rfl rfl (fun hb3_4 => ?_) (fun hb3_4 => ?_)
    · have ghb3_4 := hb3_4
      try simp only [au_std, Bool.not_true, Bool.not_false] at ghb3_4
      refine VX.meek rfl ?_
      refine VX.guardT rfl rfl hb3_4 ?_
      refine VX.idxI (m := 3) rfl rfl rfl rfl rfl rfl (by omega) ?_
      refine VX.guardT rfl rfl hb3_4 ?_
      refine VX.loadI rfl rfl (encL_part0 cI (m := 3) (getE (by omega)) (by decide) rfl) ?_
      refine VX.guardT rfl rfl hb3_4 ?_
      refine VX.meek rfl ?_
      refine VX.pickA rfl (fun _ => rfl) ?_
      exact VX.nil ⟨rfl, rfl⟩
    · refine VX.guardF rfl rfl hb3_4 ?_
      iterate 2 refine VX.guardF rfl rfl hb3_4 ?_
      exact VX.pickA rfl (fun h => absurd (h.symm.trans hb3_4) (by decide)) (VX.nil ⟨rfl, rfl⟩)
  refine VX.meek rfl ?_
  refine' VX.merge (d := 29) [_, _, _] rfl ?_ rfl ?_
  rotate_left
  · refine VX.guard rfl rfl (fun hb3_10 => ?_) (fun hb3_10 => ?_)
    · have ghb3_10 := hb3_10
      try simp only [au_std, Bool.not_true, Bool.not_false] at ghb3_10
      refine VX.meek rfl ?_
      refine VX.guardT rfl rfl hb3_10 ?_
      refine VX.meek rfl ?_
      refine VX.pickA rfl (fun _ => rfl) ?_
      exact VX.nil ⟨rfl, rfl⟩
    · refine VX.guardF rfl rfl hb3_10 ?_
      exact VX.pickA rfl (fun h => absurd (h.symm.trans hb3_10) (by decide)) (VX.nil ⟨rfl, rfl⟩)
  refine VX.meek rfl ?_
  refine' VX.merge (d := 36) [_, _, _, _, _, _] rfl ?_ rfl ?_
  rotate_left
  · refine VX.guard rfl rfl (fun hb3_14 => ?_) (fun hb3_14 => ?_)
    · have ghb3_14 := hb3_14
      try simp only [au_std, Bool.not_true, Bool.not_false] at ghb3_14
      refine VX.meek rfl ?_
      refine VX.guardT rfl rfl hb3_14 ?_
      refine VX.meek rfl ?_
      refine VX.guardT rfl rfl hb3_14 ?_
      refine VX.meek rfl ?_
      refine VX.guardT rfl rfl hb3_14 ?_
      first | refine VX.meek rfl ?_ | refine VX.loadI rfl rfl au_l ?_ | refine VX.loadP rfl rfl rfl au_l ?_
      refine VX.guardT rfl rfl hb3_14 ?_
      refine VX.strNeN (a := e.c.cop) (b := []) rfl rfl ?_
      refine VX.pickA rfl (fun _ => rfl) ?_
      exact VX.nil ⟨rfl, rfl⟩
    · refine VX.guardF rfl rfl hb3_14 ?_
      iterate 3 refine VX.guardF rfl rfl hb3_14 ?_
      exact VX.pickA rfl (fun h => absurd (h.symm.trans hb3_14) (by decide)) (VX.nil ⟨rfl, rfl⟩)
  refine VX.nil ?_
  refine VC.cond rfl (fun hc0 => ?_) (fun hc0 => ?_)
  · (try simp only [au_std] at hc0); rw [if_pos ⟨hc0.1.1.1, hc0.1.1.2, hc0.1.2, hc0.2⟩]
    refine VC.reg tab_ok [] rfl ?_
    refine VX.meek rfl ?_
    refine VX.nil ?_
    refine VC.seq ?_
    refine VC.reg tab_ok [] rfl ?_
    iterate 3 refine VX.meek rfl ?_
    first | refine VX.meek rfl ?_ | refine VX.loadI rfl rfl au_l ?_ | refine VX.loadP rfl rfl rfl au_l ?_
    refine VX.meek (t := I64 (e.c.cop.length : Nat)) rfl ?_
    refine VX.meek rfl ?_
    refine VX.nil ?_
    refine VC.block ?_
    refine VC.loopS (σ := Nat) (fun i => e.c.cop.length - i) (fun i => i ≤ e.c.cop.length) (fun i => [(42, I64 (i : Nat)), (0, .ptr 0 0), (8, .slc 1 0 i 1 none)]) (fun i => [.c (edC e), .c (encL cI ((e.c.cop.take i).map fun b => (b.toNat : Int)))]) [1, 5, 6, 7, 41] rfl (0) ?_ ?_ ?_
    · refine ⟨[some 0, none], rfl, by first | trivial | decide, by first | rfl | (simp only [noO, Bool.and_true, Bool.and_eq_true]; first | assumption | (refine ⟨?_, ?_⟩ <;> assumption)) | (simp only [noO, *, Bool.and_true, Bool.true_and, Bool.and_self]; done), ?_, ?_⟩ <;> (repeat' first | exact trivial | exact CvB_n | exact CvB_d | exact CvB_o rfl | refine CvE_app ?_ ?_ | refine CvE_cons rfl ?_ ?_ | refine CvH_cons ?_ ?_ | refine CvB_c rfl ?_ | fail) <;> first | exact au_v | (first | exact CvL.pure hp | exact CvL.pure rfl | exact Cv.pure (by simp only [T.pure, hpn]))
    · (try dsimp only); omega
    rintro i hi
    refine VC.reg tab_ok [] rfl ?_
    refine VX.meek rfl ?_
    refine VX.nil ?_
    refine VC.seq ?_
    refine VC.cond rfl (fun hc1 => ?_) (fun hc1 => ?_)
    · (try simp only [au_std] at hc1); have hil : i < e.c.cop.length := (by omega); have hat : e.c.cop[i]? = some (e.c.cop[i]?.getD 0) := (by rw [List.getElem?_eq_getElem hil]; rfl); have hbt := (e.c.cop[i]?.getD 0).toNat_lt; have hsn : (e.c.cop.take (i + 1)).map (fun b => (b.toNat : Int)) = (e.c.cop.take i).map (fun b => (b.toNat : Int)) ++ [((e.c.cop[i]?.getD 0).toNat : Int)] := (by rw [List.take_add_one, List.map_append, hat]; rfl); have hml : ((e.c.cop.take i).map (fun b => (b.toNat : Int))).length = i := (by rw [List.length_map, List.length_take]; omega)
      refine VC.skip ?_
      refine VC.seq ?_
      refine VC.block ?_
      refine VC.reg tab_ok [] rfl ?_
      iterate 2 refine VX.meek rfl ?_
      refine VX.nil ?_
      refine VC.regN tab_ok [53] rfl ?_
      iterate 4 refine VX.meek rfl ?_
      first | refine VX.meek rfl ?_ | refine VX.loadI rfl rfl au_l ?_ | refine VX.loadP rfl rfl rfl au_l ?_
      refine VX.meek rfl ?_
      refine VX.idxY rfl rfl rfl rfl rfl hat ?_
      refine VX.meek (t := I64 (e.c.cop[i]?.getD 0).toNat) (by show some (T.v (.int .i64 (IntKind.i64.wrap ((e.c.cop[i]?.getD 0).toNat : Int))), (none : Option (Nat × List T))) = _; rw [wrap_in (by omega)]) ?_
      refine VX.newI rfl rfl ?_
      refine' VX.append rfl rfl rfl rfl rfl rfl rfl rfl ?h1 ?h2 ?h3 ?h4 ?h5 ?_
      case h1 => rw [encL_len, cI_sz, hml]; (try dsimp only); omega
      case h2 => exact Nat.le_trans (Nat.mul_le_mul_right _ (show _ ≤ 10000 by omega)) (by decide)
      case h3 => omega
      case h4 => rfl
      case h5 => rfl
      refine VX.meek rfl ?_
      refine VX.nil ?_
      refine VC.regN tab_ok [] rfl ?_
      first | refine VX.add rfl rfl (by omega) ?_ | refine VX.meek rfl ?_
      refine VX.meek rfl ?_
      refine VX.nil ?_
      refine ⟨i + 1, by (try dsimp only); omega, ?_, (by refine ⟨[some 0, some 2], rfl, by first | trivial | decide, by first | rfl | (simp only [noO, Bool.and_true, Bool.and_eq_true]; first | assumption | (refine ⟨?_, ?_⟩ <;> assumption)) | (simp only [noO, *, Bool.and_true, Bool.true_and, Bool.and_self]; done), ?_, ?_⟩ <;> (repeat' first | exact trivial | exact CvB_n | exact CvB_d | exact CvB_o rfl | refine CvE_app ?_ ?_ | refine CvE_cons rfl ?_ ?_ | refine CvH_cons ?_ ?_ | refine CvB_c rfl ?_ | fail) <;> first | exact au_v | (first | exact CvL.pure hp | exact Cv.pure (by simp only [T.pure, hpn]) | exact Cv.slc rfl (.inl rfl) | exact CvL.eq (by rw [hsn, encL_append, List.drop_zero, List.take_of_length_le (by rw [encL_len, cI_sz, hml]; exact Nat.le_refl _)]; rfl) (encL_pure _ _)))⟩
      (try dsimp only); omega
    · (try simp only [au_std] at hc1); obtain rfl : i = e.c.cop.length := (by omega); rw [List.take_length]
      refine VC.exit ?_
      refine VC.regN tab_ok [59, 62] rfl ?_
      iterate 3 refine VX.meek rfl ?_
      refine VX.newI rfl rfl ?_
      iterate 2 refine VX.meek rfl ?_
      refine VX.newI rfl rfl ?_
      first | refine VX.appendNil rfl rfl rfl rfl rfl rfl au_sY au_sY au_sY ?_ | refine VX.append rfl rfl rfl rfl rfl rfl rfl rfl au_sY au_sY au_sY au_sY au_sY ?_
      refine VX.meek rfl ?_
      refine VX.nil ?_
      refine VC.drw tab_ok [66, 78, 80] [_, _, _, _, _, _, _, _, _, _, _, _, _, _, _, _, _] rfl (by kernel_rfl) (by kernel_rfl) ?_
      iterate 2 refine VX.meek rfl ?_
      refine VX.newI rfl rfl ?_
      iterate 2 refine VX.meek rfl ?_
      refine VX.idxI (m := 2) rfl rfl rfl rfl rfl rfl (by omega) ?_
      refine VX.loadI rfl rfl (encL_part0 cI (m := 2) (getE (by omega)) (by decide) rfl) ?_
      refine VX.meek rfl ?_
      refine VX.idxI (m := 3) rfl rfl rfl rfl rfl rfl (by omega) ?_
      refine VX.loadI rfl rfl (encL_part0 cI (m := 3) (getE (by omega)) (by decide) rfl) ?_
      iterate 2 refine VX.meek rfl ?_
      refine VX.idxI (m := 5) rfl rfl rfl rfl rfl rfl (by omega) ?_
      refine VX.loadI rfl rfl (encL_part0 cI (m := 5) (getE (by omega)) (by decide) rfl) ?_
      refine VX.newI rfl rfl ?_
      refine VX.meek rfl ?_
      refine VX.newI rfl rfl ?_
      refine VX.nil ?_
      first | refine VX.appendNil rfl rfl rfl rfl rfl rfl au_sY au_sY au_sY ?_ | refine VX.append rfl rfl rfl rfl rfl rfl rfl rfl au_sY au_sY au_sY au_sY au_sY ?_
      refine VX.meek rfl ?_
      refine VX.nil ?_
      refine VC.ret ?_
      refine ⟨trivial, _, rfl, out2 (b := 2) (xs := [_, _, _, _, _, _, _, _]) rfl rfl (CvL.eq rfl (ed_pure _)) ?_⟩; repeat' first | exact CvL.nil | refine CvL.cons ?_ ?_ | exact Cv.nil _ (.inl rfl) | exact Cv.fslcE (by simp) ⟨rfl, by simp⟩ (CvL.pure (encL_pure _ _)) | refine Cv.islc ?_ (.inr rfl) | exact Cv.pure au_p0
  · (try simp only [au_std] at hc0); rw [if_neg (fun h => absurd h.2.2.2 (by have := hc0 ⟨⟨h.1, h.2.1⟩, h.2.2.1⟩; simpa using this))]
    refine VC.regN tab_ok [] rfl ?_
    refine VX.meek rfl ?_
    refine VX.nil ?_
    refine VC.drw tab_ok [66, 78, 80] [_, _, _, _, _, _, _, _, _, _, _, _, _, _, _, _, _] rfl (by kernel_rfl) (by kernel_rfl) ?_
    iterate 2 refine VX.meek rfl ?_
    refine VX.newI rfl rfl ?_
    iterate 2 refine VX.meek rfl ?_
    refine VX.idxI (m := 2) rfl rfl rfl rfl rfl rfl (by omega) ?_
    refine VX.loadI rfl rfl (encL_part0 cI (m := 2) (getE (by omega)) (by decide) rfl) ?_
    refine VX.meek rfl ?_
    refine VX.idxI (m := 3) rfl rfl rfl rfl rfl rfl (by omega) ?_
    refine VX.loadI rfl rfl (encL_part0 cI (m := 3) (getE (by omega)) (by decide) rfl) ?_
    iterate 2 refine VX.meek rfl ?_
    refine VX.idxI (m := 5) rfl rfl rfl rfl rfl rfl (by omega) ?_
    refine VX.loadI rfl rfl (encL_part0 cI (m := 5) (getE (by omega)) (by decide) rfl) ?_
    refine VX.newI rfl rfl ?_
    refine VX.meek rfl ?_
    refine VX.newI rfl rfl ?_
    refine VX.nil ?_
    first | refine VX.appendNil rfl rfl rfl rfl rfl rfl au_sY au_sY au_sY ?_ | refine VX.append rfl rfl rfl rfl rfl rfl rfl rfl au_sY au_sY au_sY au_sY au_sY ?_
    refine VX.meek rfl ?_
    refine VX.nil ?_
    refine VC.ret ?_
    refine ⟨trivial, _, rfl, out2 (b := 0) (xs := [_, _, _, _]) rfl rfl (CvL.eq rfl (ed_pure _)) ?_⟩; exact au_fr
def gotP (v : Int) : Bool := v == 10 || (decide (32 ≤ v) && decide (v ≤ 126))
def gotB (l : List Int) : List UInt8 := (l.filter gotP).map fun v => UInt8.ofNat v.toNat
theorem gotB_snoc (l : List Int) (v : Int) : gotB (l ++ [v]) = gotB l ++ (if gotP v = true then [UInt8.ofNat v.toNat] else []) := by
  unfold gotB
  rw [List.filter_append, List.map_append]
  congr 1
  cases h : gotP v with
  | true => rw [List.filter_cons_of_pos h]; rfl
  | false => rw [List.filter_cons_of_neg (by rw [h]; simp)]; rfl
theorem gotB_len (l : List Int) : (gotB l).length ≤ l.length := by unfold gotB; rw [List.length_map]; exact List.length_filter_le _ _
theorem gotP_let {v : Int} (h : gotP v = true) : (v = 10 ∨ (32 ≤ v ∧ v ≤ 126)) := by unfold gotP at h; simpa using h
theorem gotB_right (l : List Int) : rightB (gotB l) = true := by
  unfold rightB gotB
  rw [List.all_eq_true]
  intro b hb
  obtain ⟨v, hv, rfl⟩ := List.mem_map.1 hb
  have h := gotP_let (List.mem_filter.1 hv).2
  unfold okB
  rw [UInt8.toNat_ofNat']
  simp
  omega
def Ed.pasteE (e : Ed) (row : List Int) : Ed := { e with asked := 0, c := if gotB row = [] then e.c else e.c.put (gotB row) }
theorem pasted_t (e : Ed) (hw : e.W) (row : List Int) (hl : row.length ≤ 100000) : CallT Tryz.prog 27 [.ptr 0 0, cIf row] [.c (edC e)] (fun t H' => t = .slc 1 0 ([] : List Rq).length 4 none ∧ H' = [.c (edC (e.pasteE row)), .c (encL cRq [])]) := by
  have hp := ed_pure e
  have hp0 := ed_pure { e with asked := 0 }
  have hpr := encL_pure cI row
  have hgl := gotB_len row
  have hgr := gotB_right row
  have hpu := fun (h : gotB row ≠ []) => put_t { e with asked := 0 } hw.o (gotB row) h hgr (by omega)
  have hgk := fun k => gotB_len (row.take k)
  refine CallT.out ?_
  unfold Ed.pasteE
  refine CallT.intro tab_ok Tryz.func27 rfl (by kernel_rfl) (Nat.le_of_ble_eq_true rfl) ?_
  refine VC.reg tab_ok [] rfl ?_
  refine VX.meek rfl ?_
  refine VX.nil ?_
  refine VC.reg tab_ok [] rfl ?_
  iterate 3 refine VX.meek rfl ?_
  refine VX.store rfl rfl rfl rfl rfl au_sY rfl ?_
  refine VX.nil ?_
  refine VC.reg tab_ok [] rfl ?_
  refine VX.meek rfl ?_
  refine VX.nil ?_
  refine VC.seq ?_
  refine VC.reg tab_ok [] rfl ?_
  iterate 3 refine VX.meek rfl ?_
  refine VX.nil ?_
  refine VC.block ?_
  refine VC.loopS (σ := Nat) (fun k => row.length - k) (fun k => k ≤ row.length) (fun k => [(13, I64 (k : Nat)), (0, .ptr 0 0), (5, .slc 1 0 (gotB (row.take k)).length 1 none)]) (fun k => [.c (edC { e with asked := 0 }), .c (encL cY (gotB (row.take k)))]) [11, 12] rfl (0) ?_ ?_ ?_
  · refine ⟨[some 0, none], rfl, by first | trivial | decide, by first | rfl | (simp only [noO, Bool.and_true, Bool.and_eq_true]; first | assumption | (refine ⟨?_, ?_⟩ <;> assumption)) | (simp only [noO, *, Bool.and_true, Bool.true_and, Bool.and_self]; done), ?_, ?_⟩ <;> (repeat' first | exact trivial | exact CvB_n | exact CvB_d | exact CvB_o rfl | refine CvE_app ?_ ?_ | refine CvE_cons rfl ?_ ?_ | refine CvH_cons ?_ ?_ | refine CvB_c rfl ?_ | fail) <;> first | exact au_v | (first | exact CvL.eq rfl hp0 | exact CvL.pure rfl | exact Cv.pure (by simp only [T.pure, hpr]))
  · (try dsimp only); omega
  rintro k hk
  refine VC.reg tab_ok [] rfl ?_
  refine VX.meek rfl ?_
  refine VX.nil ?_
  refine VC.seq ?_
  refine VC.cond rfl (fun hc0 => ?_) (fun hc0 => ?_)
  · (try simp only [au_std] at hc0); have hkl : k < row.length := (by omega); have hat : row.take (k + 1) = row.take k ++ [row[k]!] := (by rw [List.take_add_one, getE hkl]; rfl); have hsn := gotB_snoc (row.take k) row[k]!; rw [← hat] at hsn; have hgkk := hgk k; rw [List.length_take] at hgkk
    refine VC.skip ?_
    refine VC.seq ?_
    refine VC.block ?_
    refine VC.reg tab_ok [] rfl ?_
    refine VX.idxI (m := k) rfl rfl rfl rfl rfl rfl hkl ?_
    refine VX.loadI rfl rfl (encL_part0 cI (m := k) (getE hkl) (by decide) rfl) ?_
    refine VX.meek rfl ?_
    refine VX.nil ?_
    refine VC.reg tab_ok [] rfl ?_
    iterate 3 refine VX.meek rfl ?_
    refine' VX.merge (d := 26) [_, _, _, _, _, _, _] rfl ?_ rfl ?_
    rotate_left
    · refine VX.guard rfl rfl (fun hb6_2 => ?_) (fun hb6_2 => ?_)
      · have ghb6_2 := hb6_2
        try simp only [au_std, Bool.not_true, Bool.not_false] at ghb6_2
        refine VX.meek rfl ?_
        refine VX.guardT rfl rfl hb6_2 ?_
        refine VX.meek rfl ?_
        refine VX.guardT rfl rfl hb6_2 ?_
        refine VX.meek rfl ?_
        refine' VX.merge (d := 25) [_, _, _] rfl ?_ rfl ?_
        rotate_left
        · refine VX.guard rfl rfl (fun hb6_5 => ?_) (fun hb6_5 => ?_)
          · have ghb6_5 := hb6_5
            try simp only [au_std, Bool.not_true, Bool.not_false] at ghb6_5
            refine VX.meek rfl ?_
            refine VX.guardT rfl rfl hb6_5 ?_
            refine VX.meek rfl ?_
            refine VX.guardT rfl rfl hb6_2 ?_
            refine VX.pickA rfl (fun _ => rfl) ?_
            exact VX.nil ⟨rfl, rfl⟩
          · refine VX.guardF rfl rfl hb6_5 ?_
            refine VX.guardT rfl rfl hb6_2 ?_
            exact VX.pickA rfl (fun h => absurd (h.symm.trans hb6_5) (by decide)) (VX.nil ⟨rfl, rfl⟩)
        refine VX.pickO rfl (fun _ => rfl) ?_
        exact VX.nil ⟨rfl, rfl⟩
      · refine VX.guardF rfl rfl hb6_2 ?_
        refine VX.guardF rfl rfl hb6_2 ?_
        iterate 2 refine VX.guardU rfl rfl ?_
        refine VX.guardF rfl rfl hb6_2 ?_
        exact VX.pickO rfl (fun h => absurd (h.symm.trans hb6_2) (by decide)) (VX.nil ⟨rfl, rfl⟩)
    refine VX.nil ?_
    refine VC.cond rfl (fun hc1 => ?_) (fun hc1 => ?_)
    · (try simp only [au_std] at hc1); have hg : gotP row[k]! = true := (by unfold gotP; simp only [au_std]; omega); have eT : gotB (row.take (k + 1)) = gotB (row.take k) ++ [UInt8.ofNat row[k]!.toNat] := (by rw [hsn, if_pos hg]); have hv := gotP_let hg; have hw8 : IntKind.u8.wrap row[k]! = ((UInt8.ofNat row[k]!.toNat).toNat : Int) := (by rw [UInt8.toNat_ofNat', wrapU (by omega)]; omega)
      refine VC.regN tab_ok [30] rfl ?_
      iterate 2 refine VX.meek rfl ?_
      refine VX.meek (t := U8 ((UInt8.ofNat row[k]!.toNat).toNat : Nat)) (by show some (T.v (.int .u8 (IntKind.u8.wrap row[k]!)), (none : Option (Nat × List T))) = _; rw [hw8]) ?_
      refine VX.newI rfl rfl ?_
      refine' VX.append rfl rfl rfl rfl rfl rfl rfl rfl ?h1 ?h2 ?h3 ?h4 ?h5 ?_
      case h1 => rw [encL_len, cY_sz]; (try dsimp only); omega
      case h2 => exact Nat.le_trans (Nat.mul_le_mul_right _ (show _ ≤ 200000 by omega)) (by decide)
      case h3 => omega
      case h4 => rfl
      case h5 => rfl
      refine VX.meek rfl ?_
      refine VX.nil ?_
      refine VC.regN tab_ok [] rfl ?_
      first | refine VX.add rfl rfl (by omega) ?_ | refine VX.meek rfl ?_
      refine VX.meek rfl ?_
      refine VX.nil ?_
      refine ⟨k + 1, by (try dsimp only); omega, ?_, (by refine ⟨[some 0, some 2], rfl, by first | trivial | decide, by first | rfl | (simp only [noO, Bool.and_true, Bool.and_eq_true]; first | assumption | (refine ⟨?_, ?_⟩ <;> assumption)) | (simp only [noO, *, Bool.and_true, Bool.true_and, Bool.and_self]; done), ?_, ?_⟩ <;> (repeat' first | exact trivial | exact CvB_n | exact CvB_d | exact CvB_o rfl | refine CvE_app ?_ ?_ | refine CvE_cons rfl ?_ ?_ | refine CvH_cons ?_ ?_ | refine CvB_c rfl ?_ | fail) <;> first | exact au_v | (first | exact CvL.pure hp0 | exact Cv.pure (by simp only [T.pure, hpr]) | (rw [eT, List.length_append]; exact Cv.slc rfl (.inl rfl)) | exact CvL.eq (by rw [eT, encL_append, List.drop_zero, List.take_of_length_le (by rw [encL_len, cY_sz]; exact Nat.le_refl _)]; rfl) (encL_pure _ _)))⟩
      (try dsimp only); omega
    · (try simp only [au_std] at hc1); have hg : gotP row[k]! = false := (by unfold gotP; simp only [au_std]; refine ⟨?_, fun h1 => ?_⟩ <;> omega); have eF : gotB (row.take (k + 1)) = gotB (row.take k) := (by rw [hsn, if_neg (by rw [hg]; simp), List.append_nil])
      refine VC.skip ?_
      refine VC.regN tab_ok [] rfl ?_
      first | refine VX.add rfl rfl (by omega) ?_ | refine VX.meek rfl ?_
      refine VX.meek rfl ?_
      refine VX.nil ?_
      refine ⟨k + 1, by (try dsimp only); omega, ?_, (by refine ⟨[some 0, some 1], rfl, by first | trivial | decide, by first | rfl | (simp only [noO, Bool.and_true, Bool.and_eq_true]; first | assumption | (refine ⟨?_, ?_⟩ <;> assumption)) | (simp only [noO, *, Bool.and_true, Bool.true_and, Bool.and_self]; done), ?_, ?_⟩ <;> (repeat' first | exact trivial | exact CvB_n | exact CvB_d | exact CvB_o rfl | refine CvE_app ?_ ?_ | refine CvE_cons rfl ?_ ?_ | refine CvH_cons ?_ ?_ | refine CvB_c rfl ?_ | fail) <;> first | exact au_v | (first | exact CvL.pure hp0 | exact Cv.pure (by simp only [T.pure, hpr]) | (rw [eF]; exact Cv.slc rfl (.inl rfl)) | exact CvL.eq (by rw [eF]) (encL_pure _ _)))⟩
      (try dsimp only); omega
  · (try simp only [au_std] at hc0); obtain rfl : k = row.length := (by omega); rw [List.take_length]
    refine VC.exit ?_
    refine VC.seq ?_
    refine VC.reg tab_ok [] rfl ?_
    iterate 3 refine VX.meek rfl ?_
    refine VX.nil ?_
    refine VC.cond rfl (fun hc2 => ?_) (fun hc2 => ?_)
    · (try simp only [au_std] at hc2); have hne : gotB row ≠ [] := (by intro h; rw [h] at hc2; simp at hc2); rw [if_neg hne]; have hpu2 := hpu hne
      refine VC.regN tab_ok [] rfl ?_
      iterate 2 refine VX.meek rfl ?_
      refine VX.strY (xs := gotB row) rfl rfl rfl rfl rfl rfl rfl rfl (by rw [encL_len, cY_sz]; omega) (by rw [List.drop_zero, List.take_of_length_le (by rw [encL_len, cY_sz]; omega)]) ?_
      refine VX.callT rfl rfl (CallT.frame (hpu2) [0] rfl au_ci au_ci ?_)
      rintro _ _ ⟨rfl, rfl⟩
      refine frK au_co au_co ?_
      refine VX.nil ?_
      refine VC.reg tab_ok [] rfl ?_
      refine VX.meek rfl ?_
      refine VX.nil ?_
      refine VC.ret ?_
      exact ⟨trivial, _, rfl, out2n rfl (CvL.eq rfl (ed_pure _))⟩
    · (try simp only [au_std] at hc2); have hne : gotB row = [] := (by cases h : gotB row with | nil => rfl | cons a l => rw [h] at hc2; simp at hc2; omega); rw [if_pos hne]
      refine VC.skip ?_
      refine VC.reg tab_ok [] rfl ?_
      refine VX.meek rfl ?_
      refine VX.nil ?_
      refine VC.ret ?_
      exact ⟨trivial, _, rfl, out2n rfl (CvL.eq rfl (ed_pure _))⟩
abbrev otC (o : Ot) : List T := [I64 o.kind, I64 o.code, I64 o.seq, cIf o.n, strT o.b, cIf o.l]
abbrev otT (o : Ot) : T := .agg (otC o)
theorem ot_pure (o : Ot) : T.pureL (otC o) = true := by simp only [T.pureL, T.pure, encL_pure]; rfl
theorem step1_t (e : Ed) (hw : e.W) (o : Ot) (hl : o.l.length ≤ 100000) : CallT Tryz.prog 26 ([] ++ [] ++ [.ptr 0 0, .iptr (otC o) 0]) [.c (edC e)] (fun t H' => t = .slc 1 0 ([] : List Rq).length 4 none ∧ H' = [.c (edC (e.pasteE o.l)), .c (encL cRq [])]) := by
  have hot := ot_pure o
  have hpa := pasted_t e hw o.l hl
  show CallT Tryz.prog 26 [.ptr 0 0, .iptr (otC o) 0] _ _
  refine CallT.intro tab_ok Tryz.func26 rfl (by kernel_rfl) (Nat.le_of_ble_eq_true rfl) ?_
  refine VC.reg tab_ok [] rfl ?_
  refine VX.meek rfl ?_
  refine VX.nil ?_
  refine VC.reg tab_ok [] rfl ?_
  refine VX.meek rfl ?_
  first | refine VX.meek rfl ?_ | refine VX.loadI rfl rfl au_l ?_ | refine VX.loadP rfl rfl rfl au_l ?_
  refine VX.callT rfl rfl (CallT.frame (hpa) [0] rfl au_ci au_ci ?_)
  rintro _ _ ⟨rfl, rfl⟩
  refine frK au_co au_co ?_
  refine VX.meek rfl ?_
  refine VX.nil ?_
  refine VC.ret ?_
  exact ⟨trivial, _, rfl, rfl, rfl⟩
end
section
open Go.RowKit
set_option maxRecDepth 100000
set_option maxHeartbeats 2000000
def evN (code : Int) : Option Nat := if code < 1 ∨ 25 < code then none else ([9, 9, 9, 9, 9, 8, 8, 2, 2, 6, 6, 1, 7, 2, 3, 2, 2, 8, 9, 6, 4, 3, 6, 5, 2] : List Nat)[(code - 1).toNat]?
def reN (code : Int) : Option Nat := if code = 9 then some 7 else if code = 10 then some 1 else if code = 11 then some 1 else if code = 12 then some 0 else if code = 15 then some 3 else if code = 16 then some 0 else if code = 25 then some 2 else if code = 35 then some 2 else if code = 38 then some 2 else if code = 39 then some 1 else if code = 43 then some 1 else if code = 48 then some 6 else if code = 51 then some 1 else none
def evOneX (n : Nat) (e : List T) : Bool :=
  match e with
  | [.v (.string a), .v (.string b), .v (.string c)] => evN n == some (fmOf (Lib.fields b.data.toList)).fx.length
  | _ => false
def evChkX (cs : List T) : Bool := (List.range 25).all fun k => evOneX (k + 1) ((cs.drop ((k + 1) * 3)).take 3)
theorem ev_okX : evChkX evCs = true := by kernel_rfl
def rqOneX (n : Nat) (e : List T) : Bool :=
  match e with
  | [.v (.string a), .v (.string b), .v (.string c)] => reN n == (if c.data.toList == [] then none else some (fmOf (Lib.fields c.data.toList)).fx.length)
  | _ => false
def rqChkX (cs : List T) (a n : Nat) : Bool := (List.range n).all fun k => rqOneX (a + k) ((cs.drop ((a + k) * 3)).take 3)
theorem rqA_okX : rqChkX rqA 1 29 = true := by kernel_rfl
theorem rqB_okX : rqChkX rqB 30 29 = true := by kernel_rfl
abbrev FormT (f : FuncId) (code : Int) (r : Option Nat) : Prop := ∃ m : Fm, CallP Tryz.prog f [I64 code] (.tup [fmT m, BL r.isSome]) ∧ ∀ k, r = some k → m.fx.length = k
theorem eventE (code : Int) : FormT 42 code (evN code) := by
  by_cases h : code < 1 ∨ 25 < code
  · rw [show evN code = none from if_pos h]
    exact ⟨fm0, eventN code h, fun k hk => by cases hk⟩
  · obtain ⟨n, rfl⟩ := Int.eq_ofNat_of_zero_le (show 0 ≤ code by omega)
    obtain ⟨a, b, c, he, heq, hb, -⟩ := ev_at n (by omega) (by omega)
    have hk := List.all_eq_true.1 ev_okX (n - 1) (List.mem_range.2 (by omega))
    rw [show n - 1 + 1 = n from by omega, he] at hk
    have hk2 : evN (n : Int) = some (fmOf (Lib.fields b)).fx.length := by simpa [evOneX] using hk
    have hev := event_p n (by omega) (by omega)
    rw [he] at hev
    have hfo := form_p b hb
    rw [hk2]
    refine ⟨fmOf (Lib.fields b), ?_, fun k hk => by injection hk⟩
    have hpu := encL_pure cI (fmOf (Lib.fields b)).fx
    show CallP _ _ _ (.tup [fmT (fmOf (Lib.fields b)), BL true])
    refine CallP.intro2 au_pu au_pu ?_
    refine CallT.intro tab_ok Tryz.func42 rfl (by kernel_rfl) (Nat.le_of_ble_eq_true rfl) ?_
    refine VC.reg tab_ok [] rfl ?_
    refine VX.new rfl rfl ?_
    refine VX.meek rfl ?_
    refine VX.nil ?_
    refine VC.reg tab_ok [] rfl ?_
    refine VX.meek rfl ?_
    refine VX.callP0 rfl rfl rfl (hev) ?_
    refine VX.new rfl rfl ?_
    refine VX.store rfl rfl rfl rfl rfl au_s rfl ?_
    refine VX.nil ?_
    refine VC.seq ?_
    refine VC.reg tab_ok [] rfl ?_
    first | refine VX.meek rfl ?_ | refine VX.loadI rfl rfl au_l ?_ | refine VX.loadP rfl rfl rfl au_l ?_
    refine VX.meek rfl ?_
    refine VX.eqlAg [strT a, strT b, strT c] [strT [], strT [], strT []] rfl rfl heq ?_
    refine VX.nil ?_
    refine VC.condF rfl ?_
    refine VC.skip ?_
    refine VC.reg tab_ok [] rfl ?_
    refine VX.meek rfl ?_
    first | refine VX.meek rfl ?_ | refine VX.loadI rfl rfl au_l ?_ | refine VX.loadP rfl rfl rfl au_l ?_
    refine VX.callP0 rfl rfl rfl (hfo) ?_
    refine VX.store rfl rfl rfl rfl rfl au_s rfl ?_
    refine VX.meek rfl ?_
    refine VX.nil ?_
    refine VC.ret ?_
    exact ⟨trivial, _, rfl, Cv.tup (CvL.cons (Cv.agg (CvL.eq rfl (fm_pure _))) (CvL.cons (Cv.pure rfl) CvL.nil))⟩
theorem rq_atX (cs : List T) (a m : Nat) (hc : rqChkX cs a m = true) (n : Nat) (h1 : a ≤ n) (h2 : n < a + m) (x b c : List UInt8) (he : (cs.drop (n * 3)).take 3 = [strT x, strT b, strT c]) : reN n = if c = [] then none else some (fmOf (Lib.fields c)).fx.length := by
  have hk := List.all_eq_true.1 hc (n - a) (List.mem_range.2 (by omega))
  rw [show a + (n - a) = n from by omega, he] at hk
  simpa [rqOneX] using hk
theorem request_pX (n : Nat) (h1 : 1 ≤ n) (h2 : n ≤ 58) : ∃ x b c : List UInt8, CallP Tryz.prog 71 [I64 n] (.agg [strT x, strT b, strT c]) ∧ (c ≠ [] → lineB c = true) ∧ reN n = if c = [] then none else some (fmOf (Lib.fields c)).fx.length := by
  by_cases hs : n ≤ 29
  · obtain ⟨x, b, c, he, hk⟩ := rq_at rqA 1 29 rqA_ok n h1 (by omega)
    refine ⟨x, b, c, ?_, fun hc => ?_, rq_atX rqA 1 29 rqA_okX n h1 (by omega) x b c he⟩
    · have hA := early_p
      have hl := rqA_len
      refine CallP.intro2 au_pu au_pu ?_
      refine CallT.intro tab_ok Tryz.func71 rfl (by kernel_rfl) (Nat.le_of_ble_eq_true rfl) ?_
      refine VC.reg tab_ok [] rfl ?_
      refine VX.new rfl rfl ?_
      refine VX.nil ?_
      refine VC.seq ?_
      refine VC.block ?_
      refine VC.reg tab_ok [] rfl ?_
      iterate 3 refine VX.meek rfl ?_
      refine' VX.merge (d := 9) [_, _, _] rfl ?_ rfl ?_
      rotate_left
      · refine VX.guard rfl rfl (fun hb1_2 => ?_) (fun hb1_2 => ?_)
        · have ghb1_2 := hb1_2
          try simp only [au_std, Bool.not_true, Bool.not_false] at ghb1_2
          refine VX.meek rfl ?_
          refine VX.guardT rfl rfl hb1_2 ?_
          refine VX.meek rfl ?_
          refine VX.pickO rfl (fun _ => rfl) ?_
          exact VX.nil ⟨rfl, rfl⟩
        · refine VX.guardF rfl rfl hb1_2 ?_
          exact VX.pickO rfl (fun h => absurd (h.symm.trans hb1_2) (by decide)) (VX.nil ⟨rfl, rfl⟩)
      refine VX.meek rfl ?_
      refine VX.nil ?_
      refine VC.cond rfl (fun hc0 => ?_) (fun hc0 => ?_)
      · exact absurd hc0 (by simp; omega)
      · (try simp only [au_std] at hc0)
        refine VC.reg tab_ok [] rfl ?_
        iterate 3 refine VX.meek rfl ?_
        refine VX.nil ?_
        refine VC.cond rfl (fun hc1 => ?_) (fun hc1 => ?_)
        · (try simp only [au_std] at hc1)
          refine VC.reg tab_ok [] rfl ?_
          refine VX.callP0 rfl rfl rfl (hA) ?_
          refine VX.meek rfl ?_
          refine VX.idxAg rfl rfl rfl rfl rfl rfl (by omega) (by show n * 3 + 3 ≤ _; omega) ?_; rw [show (rqA.drop (n * _)).take _ = [strT x, strT b, strT c] from he]
          refine VX.store rfl rfl rfl rfl rfl au_s rfl ?_
          refine VX.nil ?_
          refine VC.ret ?_
          exact ⟨trivial, _, rfl, Cv.eq (by first | rfl | (simp [*]; done)) rfl⟩
        · exact absurd hc1 (by simp; omega)
    · rcases hk with ⟨k1, -⟩ | ⟨-, k2, -⟩
      · exact absurd k1 hc
      · exact k2
  · obtain ⟨x, b, c, he, hk⟩ := rq_at rqB 30 29 rqB_ok n (by omega) (by omega)
    refine ⟨x, b, c, ?_, fun hc => ?_, rq_atX rqB 30 29 rqB_okX n (by omega) (by omega) x b c he⟩
    · have hB := late_p
      have hl := rqB_len
      refine CallP.intro2 au_pu au_pu ?_
      refine CallT.intro tab_ok Tryz.func71 rfl (by kernel_rfl) (Nat.le_of_ble_eq_true rfl) ?_
      refine VC.reg tab_ok [] rfl ?_
      refine VX.new rfl rfl ?_
      refine VX.nil ?_
      refine VC.seq ?_
      refine VC.block ?_
      refine VC.reg tab_ok [] rfl ?_
      iterate 3 refine VX.meek rfl ?_
      refine' VX.merge (d := 9) [_, _, _] rfl ?_ rfl ?_
      rotate_left
      · refine VX.guard rfl rfl (fun hb1_2 => ?_) (fun hb1_2 => ?_)
        · have ghb1_2 := hb1_2
          try simp only [au_std, Bool.not_true, Bool.not_false] at ghb1_2
          refine VX.meek rfl ?_
          refine VX.guardT rfl rfl hb1_2 ?_
          refine VX.meek rfl ?_
          refine VX.pickO rfl (fun _ => rfl) ?_
          exact VX.nil ⟨rfl, rfl⟩
        · refine VX.guardF rfl rfl hb1_2 ?_
          exact VX.pickO rfl (fun h => absurd (h.symm.trans hb1_2) (by decide)) (VX.nil ⟨rfl, rfl⟩)
      refine VX.meek rfl ?_
      refine VX.nil ?_
      refine VC.cond rfl (fun hc0 => ?_) (fun hc0 => ?_)
      · exact absurd hc0 (by simp; omega)
      · (try simp only [au_std] at hc0)
        refine VC.reg tab_ok [] rfl ?_
        iterate 3 refine VX.meek rfl ?_
        refine VX.nil ?_
        refine VC.cond rfl (fun hc1 => ?_) (fun hc1 => ?_)
        · exact absurd hc1 (by simp; omega)
        · (try simp only [au_std] at hc1)
          refine VC.skip ?_
          refine VC.reg tab_ok [] rfl ?_
          refine VX.callP0 rfl rfl rfl (hB) ?_
          refine VX.meek rfl ?_
          refine VX.idxAg rfl rfl rfl rfl rfl rfl (by omega) (by show n * 3 + 3 ≤ _; omega) ?_; rw [show (rqB.drop (n * _)).take _ = [strT x, strT b, strT c] from he]
          refine VX.store rfl rfl rfl rfl rfl au_s rfl ?_
          refine VX.nil ?_
          refine VC.ret ?_
          exact ⟨trivial, _, rfl, Cv.eq (by first | rfl | (simp [*]; done)) rfl⟩
    · rcases hk with ⟨k1, -⟩ | ⟨-, k2, -⟩
      · exact absurd k1 hc
      · exact k2
theorem replyE (code : Int) : FormT 41 code (reN code) := by
  by_cases h : code < 1 ∨ 58 < code
  · have hr : CallP Tryz.prog 71 [I64 code] (.agg [strT [], strT [], strT []]) := by
      refine CallP.intro2 au_pu au_pu ?_
      refine CallT.intro tab_ok Tryz.func71 rfl (by kernel_rfl) (Nat.le_of_ble_eq_true rfl) ?_
      refine VC.reg tab_ok [] rfl ?_
      refine VX.new rfl rfl ?_
      refine VX.nil ?_
      refine VC.seq ?_
      refine VC.block ?_
      refine VC.reg tab_ok [] rfl ?_
      iterate 3 refine VX.meek rfl ?_
      refine' VX.merge (d := 9) [_, _, _] rfl ?_ rfl ?_
      rotate_left
      · refine VX.guard rfl rfl (fun hb1_2 => ?_) (fun hb1_2 => ?_)
        · have ghb1_2 := hb1_2
          try simp only [au_std, Bool.not_true, Bool.not_false] at ghb1_2
          refine VX.meek rfl ?_
          refine VX.guardT rfl rfl hb1_2 ?_
          refine VX.meek rfl ?_
          refine VX.pickO rfl (fun _ => rfl) ?_
          exact VX.nil ⟨rfl, rfl⟩
        · refine VX.guardF rfl rfl hb1_2 ?_
          exact VX.pickO rfl (fun h => absurd (h.symm.trans hb1_2) (by decide)) (VX.nil ⟨rfl, rfl⟩)
      refine VX.meek rfl ?_
      refine VX.nil ?_
      refine VC.cond rfl (fun hc0 => ?_) (fun hc0 => ?_)
      · (try simp only [au_std] at hc0)
        refine VC.reg tab_ok [] rfl ?_
        refine VX.meek rfl ?_
        refine VX.store rfl rfl rfl rfl rfl au_s rfl ?_
        refine VX.nil ?_
        refine VC.ret ?_
        exact ⟨trivial, _, rfl, Cv.eq (by first | rfl | (simp [*]; done)) rfl⟩
      · exact absurd hc0 (by simp; omega)
    rw [show reN code = none from by unfold reN; repeat rw [if_neg (by omega)]]
    exact ⟨fm0, replyX code [] [] [] hr (fun k => absurd rfl k), fun k hk => by cases hk⟩
  · obtain ⟨n, rfl⟩ := Int.eq_ofNat_of_zero_le (show 0 ≤ code by omega)
    obtain ⟨x, b, c, hr, hl, hk⟩ := request_pX n (by omega) (by omega)
    rw [hk]
    by_cases hc : c = []
    · have := replyX n x b c hr hl
      rw [if_pos hc] at this ⊢
      subst hc
      exact ⟨fm0, this, fun k hk => by cases hk⟩
    · have := replyX n x b c hr hl
      rw [if_neg hc] at this ⊢
      refine ⟨_, ?_, fun k hk => by injection hk⟩
      rw [show (c != []) = true from by simpa using hc] at this
      exact this
def fits (r : Option Nat) (n : Nat) : Bool := match r with | some k => decide (k ≤ n) | none => false
def wholeB (o : Ot) : Bool := if o.kind = 1 then fits (reN o.code) o.n.length else if o.kind = 2 then fits (evN o.code) o.n.length else false
theorem whole_p (o : Ot) : CallP Tryz.prog 24 [otT o] (BL (wholeB o)) := by
  have hot := ot_pure o
  obtain ⟨m1, hre, hl1⟩ := replyE o.code
  obtain ⟨m2, hev, hl2⟩ := eventE o.code
  have hm1 := fm_pure m1
  have hm2 := fm_pure m2
  unfold wholeB
  refine CallP.intro2 au_pu au_pu ?_
  refine CallT.intro tab_ok Tryz.func24 rfl (by kernel_rfl) (Nat.le_of_ble_eq_true rfl) ?_
  refine VC.reg tab_ok [1] rfl ?_
  refine VX.newI rfl rfl ?_
  refine VX.meek rfl ?_
  refine VX.nil ?_
  refine VC.seq ?_
  refine VC.reg tab_ok [] rfl ?_
  refine VX.meek rfl ?_
  first | refine VX.meek rfl ?_ | refine VX.loadI rfl rfl au_l ?_ | refine VX.loadP rfl rfl rfl au_l ?_
  refine VX.nil ?_
  refine VC.block ?_
  refine VC.reg tab_ok [] rfl ?_
  iterate 2 refine VX.meek rfl ?_
  refine VX.nil ?_
  refine VC.cond rfl (fun hc0 => ?_) (fun hc0 => ?_)
  · (try simp only [au_std] at hc0); rw [if_pos hc0]
    refine VC.reg tab_ok [] rfl ?_
    refine VX.meek rfl ?_
    first | refine VX.meek rfl ?_ | refine VX.loadI rfl rfl au_l ?_ | refine VX.loadP rfl rfl rfl au_l ?_
    refine VX.callP0 rfl rfl rfl (hre) ?_
    iterate 3 refine VX.meek rfl ?_
    refine VX.new rfl rfl ?_
    refine VX.store rfl rfl rfl rfl rfl au_s rfl ?_
    refine VX.meek rfl ?_
    refine VX.nil ?_
    refine VC.reg tab_ok [] rfl ?_
    iterate 2 refine VX.meek rfl ?_
    refine' VX.merge (d := 26) [_, _, _, _, _, _, _, _] rfl ?_ rfl ?_
    rotate_left
    · refine VX.guard rfl rfl (fun hb4_1 => ?_) (fun hb4_1 => ?_)
      · have ghb4_1 := hb4_1
        try simp only [au_std, Bool.not_true, Bool.not_false] at ghb4_1
        refine VX.meek rfl ?_
        refine VX.guardT rfl rfl hb4_1 ?_
        first | refine VX.meek rfl ?_ | refine VX.loadI rfl rfl au_l ?_ | refine VX.loadP rfl rfl rfl au_l ?_
        refine VX.guardT rfl rfl hb4_1 ?_
        refine VX.meek rfl ?_
        refine VX.guardT rfl rfl hb4_1 ?_
        refine VX.meek rfl ?_
        refine VX.guardT rfl rfl hb4_1 ?_
        first | refine VX.meek rfl ?_ | refine VX.loadI rfl rfl au_l ?_ | refine VX.loadP rfl rfl rfl au_l ?_
        refine VX.guardT rfl rfl hb4_1 ?_
        refine VX.meek rfl ?_
        refine VX.guardT rfl rfl hb4_1 ?_
        refine VX.meek rfl ?_
        refine VX.pickA rfl (fun _ => rfl) ?_
        exact VX.nil ⟨rfl, rfl⟩
      · refine VX.guardF rfl rfl hb4_1 ?_
        iterate 5 refine VX.guardF rfl rfl hb4_1 ?_
        exact VX.pickA rfl (fun h => absurd (h.symm.trans hb4_1) (by decide)) (VX.nil ⟨rfl, rfl⟩)
    refine VX.meek rfl ?_
    refine VX.nil ?_
    refine VC.ret ?_
    exact ⟨trivial, _, rfl, Cv.eq (by cases hr : reN o.code with | none => rfl | some k => rw [← hl1 k hr]; show T.v (.bool (true && decide ((m1.fx.length : Int) ≤ (o.n.length : Int)))) = BL (decide (m1.fx.length ≤ o.n.length)); rw [Bool.true_and]; congr 3; exact propext Int.ofNat_le) rfl⟩
  · (try simp only [au_std] at hc0); rw [if_neg hc0]
    refine VC.reg tab_ok [] rfl ?_
    iterate 2 refine VX.meek rfl ?_
    refine VX.nil ?_
    refine VC.cond rfl (fun hc1 => ?_) (fun hc1 => ?_)
    · (try simp only [au_std] at hc1); rw [if_pos hc1]
      refine VC.reg tab_ok [] rfl ?_
      refine VX.meek rfl ?_
      first | refine VX.meek rfl ?_ | refine VX.loadI rfl rfl au_l ?_ | refine VX.loadP rfl rfl rfl au_l ?_
      refine VX.callP0 rfl rfl rfl (hev) ?_
      iterate 3 refine VX.meek rfl ?_
      refine VX.new rfl rfl ?_
      refine VX.store rfl rfl rfl rfl rfl au_s rfl ?_
      refine VX.meek rfl ?_
      refine VX.nil ?_
      refine VC.reg tab_ok [] rfl ?_
      iterate 2 refine VX.meek rfl ?_
      refine' VX.merge (d := 44) [_, _, _, _, _, _, _, _] rfl ?_ rfl ?_
      rotate_left
      · refine VX.guard rfl rfl (fun hb7_1 => ?_) (fun hb7_1 => ?_)
        · have ghb7_1 := hb7_1
          try simp only [au_std, Bool.not_true, Bool.not_false] at ghb7_1
          refine VX.meek rfl ?_
          refine VX.guardT rfl rfl hb7_1 ?_
          first | refine VX.meek rfl ?_ | refine VX.loadI rfl rfl au_l ?_ | refine VX.loadP rfl rfl rfl au_l ?_
          refine VX.guardT rfl rfl hb7_1 ?_
          refine VX.meek rfl ?_
          refine VX.guardT rfl rfl hb7_1 ?_
          refine VX.meek rfl ?_
          refine VX.guardT rfl rfl hb7_1 ?_
          first | refine VX.meek rfl ?_ | refine VX.loadI rfl rfl au_l ?_ | refine VX.loadP rfl rfl rfl au_l ?_
          refine VX.guardT rfl rfl hb7_1 ?_
          refine VX.meek rfl ?_
          refine VX.guardT rfl rfl hb7_1 ?_
          refine VX.meek rfl ?_
          refine VX.pickA rfl (fun _ => rfl) ?_
          exact VX.nil ⟨rfl, rfl⟩
        · refine VX.guardF rfl rfl hb7_1 ?_
          iterate 5 refine VX.guardF rfl rfl hb7_1 ?_
          exact VX.pickA rfl (fun h => absurd (h.symm.trans hb7_1) (by decide)) (VX.nil ⟨rfl, rfl⟩)
      refine VX.meek rfl ?_
      refine VX.nil ?_
      refine VC.ret ?_
      exact ⟨trivial, _, rfl, Cv.eq (by cases hr : evN o.code with | none => rfl | some k => rw [← hl2 k hr]; show T.v (.bool (true && decide ((m2.fx.length : Int) ≤ (o.n.length : Int)))) = BL (decide (m2.fx.length ≤ o.n.length)); rw [Bool.true_and]; congr 3; exact propext Int.ofNat_le) rfl⟩
    · (try simp only [au_std] at hc1); rw [if_neg hc1]
      refine VC.skip ?_
      refine VC.reg tab_ok [] rfl ?_
      refine VX.meek rfl ?_
      refine VX.nil ?_
      refine VC.ret ?_
      exact ⟨trivial, _, rfl, Cv.eq rfl rfl⟩
end
section
open Go.RowKit
set_option maxRecDepth 100000
set_option maxHeartbeats 2000000
abbrev eeK : List Value := [.int .i64 10, .int .i64 1, .int .i64 3, .int .i64 5, .int .i64 23, .int .i64 24, .int .i64 22]
abbrev eeT : List T := [.clo 50 [] [], .clo 51 [] [], .clo 52 [] [], .clo 53 [] [], .clo 54 [] [], .clo 55 [] [], .clo 56 [] []]
theorem events_e : CallP Tryz.prog 28 [] (.mp eeK eeT) := by
  refine CallP.intro2 au_pu au_pu ?_
  refine CallT.intro tab_ok Tryz.func28 rfl (by kernel_rfl) (Nat.le_of_ble_eq_true rfl) ?_
  refine VC.reg tab_ok [] rfl ?_
  refine VX.meek rfl ?_
  refine VX.nil ?_
  refine VC.reg tab_ok [] rfl ?_
  refine VX.makeMap ?_
  refine VX.insNew tab_ok rfl rfl rfl rfl rfl rfl rfl rfl (by first | rfl | assumption | decide) (by first | assumption | (simp; done)) ?_
  refine VX.insNew tab_ok rfl rfl rfl rfl rfl rfl rfl rfl (by first | rfl | assumption | decide) (by first | assumption | (simp; done)) ?_
  refine VX.insNew tab_ok rfl rfl rfl rfl rfl rfl rfl rfl (by first | rfl | assumption | decide) (by first | assumption | (simp; done)) ?_
  refine VX.insNew tab_ok rfl rfl rfl rfl rfl rfl rfl rfl (by first | rfl | assumption | decide) (by first | assumption | (simp; done)) ?_
  refine VX.insNew tab_ok rfl rfl rfl rfl rfl rfl rfl rfl (by first | rfl | assumption | decide) (by first | assumption | (simp; done)) ?_
  refine VX.insNew tab_ok rfl rfl rfl rfl rfl rfl rfl rfl (by first | rfl | assumption | decide) (by first | assumption | (simp; done)) ?_
  refine VX.insNew tab_ok rfl rfl rfl rfl rfl rfl rfl rfl (by first | rfl | assumption | decide) (by first | assumption | (simp; done)) ?_
  iterate 2 refine VX.meek rfl ?_
  refine VX.nil ?_
  refine VC.ret ?_
  exact ⟨trivial, _, rfl, Cv.fom ⟨rfl, by simp⟩ (CvL.pure rfl)⟩
abbrev lookE (code : Int) : Option T := mLookup tab 81 (.mp eeK eeT) (I64 code) true
theorem lookE_no (code : Int) (h : code ≠ 10 ∧ code ≠ 1 ∧ code ≠ 3 ∧ code ≠ 5 ∧ code ≠ 23 ∧ code ≠ 24 ∧ code ≠ 22) : lookE code = some (.tup [.v .nilFunc, BL false]) := by
  obtain ⟨h1, h2, h3, h4, h5, h6, h7⟩ := h
  have e : mFind (.int .i64) (.int .i64 code) eeK eeT = none := by
    simp only [mFind, likeK, if_true, Option.some.injEq, beq_iff_eq]
    rw [if_neg (by omega), if_neg (by omega), if_neg (by omega), if_neg (by omega), if_neg (by omega), if_neg (by omega), if_neg (by omega)]
  rw [show lookE code = mLook2 tab 81 eeK eeT (.int .i64 code) true from rfl]
  unfold mLook2
  simp only [tab_81, tab_3, tab_79, e]
  rfl
abbrev StepT (e : Ed) (o : Ot) (p : Ed × List Rq) : Prop := CallP Tryz.prog 10 [edT e, otT o] (.tup [edT p.1, rqT p.2])
theorem step_out (e : Ed) (o : Ot) (h : e.made = false ∨ wholeB o = false) : StepT e o (e, []) := by
  have hp := ed_pure e
  have hot := ot_pure o
  have hwh := whole_p o
  refine CallP.intro2 au_pu au_pu ?_
  refine CallT.intro tab_ok Tryz.func10 rfl (by kernel_rfl) (Nat.le_of_ble_eq_true rfl) ?_
  refine VC.reg tab_ok [3] rfl ?_
  refine VX.new rfl rfl ?_
  refine VX.newI rfl rfl ?_
  refine VX.new rfl rfl ?_
  refine VX.meek rfl ?_
  refine VX.nil ?_
  refine VC.seq ?_
  refine VC.reg tab_ok [] rfl ?_
  refine VX.meek rfl ?_
  first | refine VX.meek rfl ?_ | refine VX.loadI rfl rfl au_l ?_ | refine VX.loadP rfl rfl rfl au_l ?_
  iterate 2 refine VX.meek rfl ?_
  refine' VX.merge (d := 16) [_, _, _, _] rfl ?_ rfl ?_
  rotate_left
  · refine VX.guard rfl rfl (fun hb1_3 => ?_) (fun hb1_3 => ?_)
    · have ghb1_3 := hb1_3
      try simp only [au_std, Bool.not_true, Bool.not_false] at ghb1_3
      first | refine VX.meek rfl ?_ | refine VX.loadI rfl rfl au_l ?_ | refine VX.loadP rfl rfl rfl au_l ?_
      refine VX.guardT rfl rfl hb1_3 ?_
      refine VX.callP0 rfl rfl rfl (hwh) ?_
      refine VX.guardT rfl rfl hb1_3 ?_
      refine VX.meek rfl ?_
      refine VX.pickO rfl (fun _ => rfl) ?_
      exact VX.nil ⟨rfl, rfl⟩
    · refine VX.guardF rfl rfl hb1_3 ?_
      refine VX.guardF rfl rfl hb1_3 ?_
      exact VX.pickO rfl (fun h => absurd (h.symm.trans hb1_3) (by decide)) (VX.nil ⟨rfl, rfl⟩)
  refine VX.nil ?_
  refine VC.cond rfl (fun hc0 => ?_) (fun hc0 => ?_)
  · (try simp only [au_std] at hc0)
    refine VC.reg tab_ok [] rfl ?_
    first | refine VX.meek rfl ?_ | refine VX.loadI rfl rfl au_l ?_ | refine VX.loadP rfl rfl rfl au_l ?_
    refine VX.store rfl rfl rfl rfl rfl au_s rfl ?_
    refine VX.meek rfl ?_
    refine VX.nil ?_
    refine VC.ret ?_
    exact ⟨trivial, _, rfl, Cv.tup (CvL.cons (Cv.agg (CvL.pure hp)) (CvL.cons (Cv.nil _ (.inl rfl)) CvL.nil))⟩
  · (try simp only [au_std] at hc0); rw [hc0.1, hc0.2] at h; simp at h
theorem step_a0 (e : Ed) (o : Ot) (hm : e.made = true) (hw : wholeB o = true) (hk : o.kind = 1) (h : o.code ≠ 15 ∨ e.asked = 0 ∨ o.seq ≠ e.asked) : StepT e o (e, []) := by
  have hp := ed_pure e
  have hot := ot_pure o
  have hwh := whole_p o
  refine CallP.intro2 au_pu au_pu ?_
  refine CallT.intro tab_ok Tryz.func10 rfl (by kernel_rfl) (Nat.le_of_ble_eq_true rfl) ?_
  refine VC.reg tab_ok [3] rfl ?_
  refine VX.new rfl rfl ?_
  refine VX.newI rfl rfl ?_
  refine VX.new rfl rfl ?_
  refine VX.meek rfl ?_
  refine VX.nil ?_
  refine VC.seq ?_
  refine VC.reg tab_ok [] rfl ?_
  refine VX.meek rfl ?_
  first | refine VX.meek rfl ?_ | refine VX.loadI rfl rfl au_l ?_ | refine VX.loadP rfl rfl rfl au_l ?_
  iterate 2 refine VX.meek rfl ?_
  refine' VX.merge (d := 16) [_, _, _, _] rfl ?_ rfl ?_
  rotate_left
  · refine VX.guard rfl rfl (fun hb1_3 => ?_) (fun hb1_3 => ?_)
    · have ghb1_3 := hb1_3
      try simp only [au_std, Bool.not_true, Bool.not_false] at ghb1_3
      first | refine VX.meek rfl ?_ | refine VX.loadI rfl rfl au_l ?_ | refine VX.loadP rfl rfl rfl au_l ?_
      refine VX.guardT rfl rfl hb1_3 ?_
      refine VX.callP0 rfl rfl rfl (hwh) ?_
      refine VX.guardT rfl rfl hb1_3 ?_
      refine VX.meek rfl ?_
      refine VX.pickO rfl (fun _ => rfl) ?_
      exact VX.nil ⟨rfl, rfl⟩
    · refine VX.guardF rfl rfl hb1_3 ?_
      refine VX.guardF rfl rfl hb1_3 ?_
      exact VX.pickO rfl (fun h => absurd (h.symm.trans hb1_3) (by decide)) (VX.nil ⟨rfl, rfl⟩)
  refine VX.nil ?_
  refine VC.cond rfl (fun hc0 => ?_) (fun hc0 => ?_)
  · (try simp only [au_std] at hc0); rcases hc0 with k | k; (rw [hm] at k; cases k); (rw [hw] at k; cases k)
  · (try simp only [au_std] at hc0)
    refine VC.skip ?_
    refine VC.reg tab_ok [] rfl ?_
    refine VX.meek rfl ?_
    refine VX.nil ?_
    refine VC.seq ?_
    refine VC.reg tab_ok [] rfl ?_
    refine VX.meek rfl ?_
    first | refine VX.meek rfl ?_ | refine VX.loadI rfl rfl au_l ?_ | refine VX.loadP rfl rfl rfl au_l ?_
    refine VX.meek rfl ?_
    refine VX.nil ?_
    refine VC.cond rfl (fun hc1 => ?_) (fun hc1 => ?_)
    · (try simp only [au_std] at hc1)
      refine VC.seq ?_
      refine VC.reg tab_ok [] rfl ?_
      refine VX.meek rfl ?_
      first | refine VX.meek rfl ?_ | refine VX.loadI rfl rfl au_l ?_ | refine VX.loadP rfl rfl rfl au_l ?_
      iterate 2 refine VX.meek rfl ?_
      refine' VX.merge (d := 28) [_, _, _, _] rfl ?_ rfl ?_
      rotate_left
      · refine VX.guard rfl rfl (fun hb5_3 => ?_) (fun hb5_3 => ?_)
        · have ghb5_3 := hb5_3
          try simp only [au_std, Bool.not_true, Bool.not_false] at ghb5_3
          refine VX.meek rfl ?_
          refine VX.guardT rfl rfl hb5_3 ?_
          first | refine VX.meek rfl ?_ | refine VX.loadI rfl rfl au_l ?_ | refine VX.loadP rfl rfl rfl au_l ?_
          refine VX.guardT rfl rfl hb5_3 ?_
          refine VX.meek rfl ?_
          refine VX.pickO rfl (fun _ => rfl) ?_
          exact VX.nil ⟨rfl, rfl⟩
        · refine VX.guardF rfl rfl hb5_3 ?_
          refine VX.guardF rfl rfl hb5_3 ?_
          exact VX.pickO rfl (fun h => absurd (h.symm.trans hb5_3) (by decide)) (VX.nil ⟨rfl, rfl⟩)
      refine VX.meek rfl ?_
      refine' VX.merge (d := 35) [_, _, _, _, _, _] rfl ?_ rfl ?_
      rotate_left
      · refine VX.guard rfl rfl (fun hb5_8 => ?_) (fun hb5_8 => ?_)
        · have ghb5_8 := hb5_8
          try simp only [au_std, Bool.not_true, Bool.not_false] at ghb5_8
          refine VX.meek rfl ?_
          refine VX.guardT rfl rfl hb5_8 ?_
          first | refine VX.meek rfl ?_ | refine VX.loadI rfl rfl au_l ?_ | refine VX.loadP rfl rfl rfl au_l ?_
          refine VX.guardT rfl rfl hb5_8 ?_
          refine VX.meek rfl ?_
          refine VX.guardT rfl rfl hb5_8 ?_
          first | refine VX.meek rfl ?_ | refine VX.loadI rfl rfl au_l ?_ | refine VX.loadP rfl rfl rfl au_l ?_
          refine VX.guardT rfl rfl hb5_8 ?_
          refine VX.meek rfl ?_
          refine VX.pickO rfl (fun _ => rfl) ?_
          exact VX.nil ⟨rfl, rfl⟩
        · refine VX.guardF rfl rfl hb5_8 ?_
          iterate 3 refine VX.guardF rfl rfl hb5_8 ?_
          exact VX.pickO rfl (fun h => absurd (h.symm.trans hb5_8) (by decide)) (VX.nil ⟨rfl, rfl⟩)
      refine VX.nil ?_
      refine VC.cond rfl (fun hc2 => ?_) (fun hc2 => ?_)
      · (try simp only [au_std] at hc2)
        refine VC.reg tab_ok [] rfl ?_
        first | refine VX.meek rfl ?_ | refine VX.loadI rfl rfl au_l ?_ | refine VX.loadP rfl rfl rfl au_l ?_
        refine VX.store rfl rfl rfl rfl rfl au_s rfl ?_
        refine VX.meek rfl ?_
        refine VX.nil ?_
        refine VC.ret ?_
        exact ⟨trivial, _, rfl, Cv.tup (CvL.cons (Cv.agg (CvL.pure hp)) (CvL.cons (Cv.nil _ (.inl rfl)) CvL.nil))⟩
      · (try simp only [au_std] at hc2); omega
    · (try simp only [au_std] at hc1); exact absurd hk hc1
theorem evN_pos {code : Int} {k : Nat} (h : evN code = some k) : 1 ≤ k ∧ 1 ≤ code ∧ code ≤ 25 := by
  unfold evN at h
  split at h
  · cases h
  · rename_i hc
    refine ⟨?_, by omega, by omega⟩
    have hm := List.mem_of_getElem? h
    revert hm
    generalize k = j
    intro hm
    simp at hm
    omega
theorem whole_ev {o : Ot} (hw : wholeB o = true) (hk : o.kind ≠ 1) : o.kind = 2 ∧ ∃ k, evN o.code = some k ∧ k ≤ o.n.length := by
  unfold wholeB at hw
  rw [if_neg hk] at hw
  split at hw
  · rename_i h2
    refine ⟨h2, ?_⟩
    unfold fits at hw
    cases he : evN o.code with
    | none => rw [he] at hw; cases hw
    | some k => rw [he] at hw; exact ⟨k, rfl, by simpa using hw⟩
  · cases hw
theorem step_w (e : Ed) (o : Ot) (hm : e.made = true) (hw : wholeB o = true) (hk : o.kind ≠ 1) (h : o.n[0]! ≠ e.win) : StepT e o (e, []) := by
  have hp := ed_pure e
  have hot := ot_pure o
  have hwh := whole_p o
  obtain ⟨hk2, k, he, hl⟩ := whole_ev hw hk
  have hpos := evN_pos he
  refine CallP.intro2 au_pu au_pu ?_
  refine CallT.intro tab_ok Tryz.func10 rfl (by kernel_rfl) (Nat.le_of_ble_eq_true rfl) ?_
  refine VC.reg tab_ok [3] rfl ?_
  refine VX.new rfl rfl ?_
  refine VX.newI rfl rfl ?_
  refine VX.new rfl rfl ?_
  refine VX.meek rfl ?_
  refine VX.nil ?_
  refine VC.seq ?_
  refine VC.reg tab_ok [] rfl ?_
  refine VX.meek rfl ?_
  first | refine VX.meek rfl ?_ | refine VX.loadI rfl rfl au_l ?_ | refine VX.loadP rfl rfl rfl au_l ?_
  iterate 2 refine VX.meek rfl ?_
  refine' VX.merge (d := 16) [_, _, _, _] rfl ?_ rfl ?_
  rotate_left
  · refine VX.guard rfl rfl (fun hb1_3 => ?_) (fun hb1_3 => ?_)
    · have ghb1_3 := hb1_3
      try simp only [au_std, Bool.not_true, Bool.not_false] at ghb1_3
      first | refine VX.meek rfl ?_ | refine VX.loadI rfl rfl au_l ?_ | refine VX.loadP rfl rfl rfl au_l ?_
      refine VX.guardT rfl rfl hb1_3 ?_
      refine VX.callP0 rfl rfl rfl (hwh) ?_
      refine VX.guardT rfl rfl hb1_3 ?_
      refine VX.meek rfl ?_
      refine VX.pickO rfl (fun _ => rfl) ?_
      exact VX.nil ⟨rfl, rfl⟩
    · refine VX.guardF rfl rfl hb1_3 ?_
      refine VX.guardF rfl rfl hb1_3 ?_
      exact VX.pickO rfl (fun h => absurd (h.symm.trans hb1_3) (by decide)) (VX.nil ⟨rfl, rfl⟩)
  refine VX.nil ?_
  refine VC.cond rfl (fun hc0 => ?_) (fun hc0 => ?_)
  · (try simp only [au_std] at hc0); rcases hc0 with k | k; (rw [hm] at k; cases k); (rw [hw] at k; cases k)
  · (try simp only [au_std] at hc0)
    refine VC.skip ?_
    refine VC.reg tab_ok [] rfl ?_
    refine VX.meek rfl ?_
    refine VX.nil ?_
    refine VC.seq ?_
    refine VC.reg tab_ok [] rfl ?_
    refine VX.meek rfl ?_
    first | refine VX.meek rfl ?_ | refine VX.loadI rfl rfl au_l ?_ | refine VX.loadP rfl rfl rfl au_l ?_
    refine VX.meek rfl ?_
    refine VX.nil ?_
    refine VC.cond rfl (fun hc1 => ?_) (fun hc1 => ?_)
    · (try simp only [au_std] at hc1); exact absurd hc1 hk
    · (try simp only [au_std] at hc1)
      refine VC.seq ?_
      refine VC.drw tab_ok [] [_, _, _, _, _, _, _] rfl (by kernel_rfl) (by kernel_rfl) ?_
      refine VX.meek rfl ?_
      first | refine VX.meek rfl ?_ | refine VX.loadI rfl rfl au_l ?_ | refine VX.loadP rfl rfl rfl au_l ?_
      refine VX.idxI (m := 0) rfl rfl rfl rfl rfl rfl (by omega) ?_
      refine VX.loadI rfl rfl (encL_part0 cI (m := 0) (getE (by omega)) (by decide) rfl) ?_
      refine VX.meek rfl ?_
      first | refine VX.meek rfl ?_ | refine VX.loadI rfl rfl au_l ?_ | refine VX.loadP rfl rfl rfl au_l ?_
      refine VX.meek rfl ?_
      iterate 2 refine VX.nil ?_
      refine VC.cond rfl (fun hc3 => ?_) (fun hc3 => ?_)
      · (try simp only [au_std] at hc3)
        refine VC.reg tab_ok [] rfl ?_
        first | refine VX.meek rfl ?_ | refine VX.loadI rfl rfl au_l ?_ | refine VX.loadP rfl rfl rfl au_l ?_
        refine VX.store rfl rfl rfl rfl rfl au_s rfl ?_
        refine VX.meek rfl ?_
        refine VX.nil ?_
        refine VC.ret ?_
        exact ⟨trivial, _, rfl, Cv.tup (CvL.cons (Cv.agg (CvL.pure hp)) (CvL.cons (Cv.nil _ (.inl rfl)) CvL.nil))⟩
      · (try simp only [au_std] at hc3); exact absurd hc3 h
theorem step_n (e : Ed) (o : Ot) (hm : e.made = true) (hw : wholeB o = true) (hk : o.kind ≠ 1) (h : o.n[0]! = e.win) (hlk : lookE o.code = some (.tup [.v .nilFunc, BL false])) : StepT e o (e, []) := by
  have hp := ed_pure e
  have hot := ot_pure o
  have hwh := whole_p o
  obtain ⟨hk2, k, he, hl⟩ := whole_ev hw hk
  have hpos := evN_pos he
  refine CallP.intro2 au_pu au_pu ?_
  refine CallT.intro tab_ok Tryz.func10 rfl (by kernel_rfl) (Nat.le_of_ble_eq_true rfl) ?_
  refine VC.reg tab_ok [3] rfl ?_
  refine VX.new rfl rfl ?_
  refine VX.newI rfl rfl ?_
  refine VX.new rfl rfl ?_
  refine VX.meek rfl ?_
  refine VX.nil ?_
  refine VC.seq ?_
  refine VC.reg tab_ok [] rfl ?_
  refine VX.meek rfl ?_
  first | refine VX.meek rfl ?_ | refine VX.loadI rfl rfl au_l ?_ | refine VX.loadP rfl rfl rfl au_l ?_
  iterate 2 refine VX.meek rfl ?_
  refine' VX.merge (d := 16) [_, _, _, _] rfl ?_ rfl ?_
  rotate_left
  · refine VX.guard rfl rfl (fun hb1_3 => ?_) (fun hb1_3 => ?_)
    · have ghb1_3 := hb1_3
      try simp only [au_std, Bool.not_true, Bool.not_false] at ghb1_3
      first | refine VX.meek rfl ?_ | refine VX.loadI rfl rfl au_l ?_ | refine VX.loadP rfl rfl rfl au_l ?_
      refine VX.guardT rfl rfl hb1_3 ?_
      refine VX.callP0 rfl rfl rfl (hwh) ?_
      refine VX.guardT rfl rfl hb1_3 ?_
      refine VX.meek rfl ?_
      refine VX.pickO rfl (fun _ => rfl) ?_
      exact VX.nil ⟨rfl, rfl⟩
    · refine VX.guardF rfl rfl hb1_3 ?_
      refine VX.guardF rfl rfl hb1_3 ?_
      exact VX.pickO rfl (fun h => absurd (h.symm.trans hb1_3) (by decide)) (VX.nil ⟨rfl, rfl⟩)
  refine VX.nil ?_
  refine VC.cond rfl (fun hc0 => ?_) (fun hc0 => ?_)
  · (try simp only [au_std] at hc0); rcases hc0 with k | k; (rw [hm] at k; cases k); (rw [hw] at k; cases k)
  · (try simp only [au_std] at hc0)
    refine VC.skip ?_
    refine VC.reg tab_ok [] rfl ?_
    refine VX.meek rfl ?_
    refine VX.nil ?_
    refine VC.seq ?_
    refine VC.reg tab_ok [] rfl ?_
    refine VX.meek rfl ?_
    first | refine VX.meek rfl ?_ | refine VX.loadI rfl rfl au_l ?_ | refine VX.loadP rfl rfl rfl au_l ?_
    refine VX.meek rfl ?_
    refine VX.nil ?_
    refine VC.cond rfl (fun hc1 => ?_) (fun hc1 => ?_)
    · (try simp only [au_std] at hc1); exact absurd hc1 hk
    · (try simp only [au_std] at hc1)
      refine VC.seq ?_
      refine VC.drw tab_ok [] [_, _, _, _, _, _, _] rfl (by kernel_rfl) (by kernel_rfl) ?_
      refine VX.meek rfl ?_
      first | refine VX.meek rfl ?_ | refine VX.loadI rfl rfl au_l ?_ | refine VX.loadP rfl rfl rfl au_l ?_
      refine VX.idxI (m := 0) rfl rfl rfl rfl rfl rfl (by omega) ?_
      refine VX.loadI rfl rfl (encL_part0 cI (m := 0) (getE (by omega)) (by decide) rfl) ?_
      refine VX.meek rfl ?_
      first | refine VX.meek rfl ?_ | refine VX.loadI rfl rfl au_l ?_ | refine VX.loadP rfl rfl rfl au_l ?_
      refine VX.meek rfl ?_
      iterate 2 refine VX.nil ?_
      refine VC.cond rfl (fun hc3 => ?_) (fun hc3 => ?_)
      · (try simp only [au_std] at hc3); exact absurd h hc3
      · (try simp only [au_std] at hc3)
        refine VC.skip ?_
        refine VC.drw tab_ok [] [_, _, _, _, _, _, _, _, _] rfl (by kernel_rfl) (by kernel_rfl) ?_
        refine VX.callP0 rfl rfl rfl (events_e) ?_
        refine VX.meek rfl ?_
        first | refine VX.meek rfl ?_ | refine VX.loadI rfl rfl au_l ?_ | refine VX.loadP rfl rfl rfl au_l ?_
        refine VX.meek (t := .tup [.v .nilFunc, BL false]) (by show (match lookE o.code with | some r => some (r, (none : Option (Nat × List T))) | none => none) = _; rw [hlk]) ?_
        iterate 5 refine VX.meek rfl ?_
        iterate 2 refine VX.nil ?_
        refine VC.seq ?_
        refine VC.reg tab_ok [] rfl ?_
        iterate 2 refine VX.meek rfl ?_
        refine VX.nil ?_
        refine VC.condT rfl ?_
        refine VC.reg tab_ok [] rfl ?_
        first | refine VX.meek rfl ?_ | refine VX.loadI rfl rfl au_l ?_ | refine VX.loadP rfl rfl rfl au_l ?_
        refine VX.store rfl rfl rfl rfl rfl au_s rfl ?_
        refine VX.meek rfl ?_
        refine VX.nil ?_
        refine VC.ret ?_
        exact ⟨trivial, _, rfl, Cv.tup (CvL.cons (Cv.agg (CvL.pure hp)) (CvL.cons (Cv.nil _ (.inl rfl)) CvL.nil))⟩
def doneE (p : Ed × List Rq) : Ed × List Rq := ({ p.1 with cnt := p.1.cnt + p.2.length }, p.2)
theorem step_e (e : Ed) (o : Ot) (hm : e.made = true) (hw : wholeB o = true) (hk : o.kind ≠ 1) (h : o.n[0]! = e.win) (f : FuncId) (hlk : lookE o.code = some (.tup [.clo f [] [], BL true])) (p : Ed × List Rq)
    (hact : EvT f e o.n p) (hc : 0 ≤ p.1.cnt ∧ p.1.cnt ≤ 1000000000) (hpl : p.2.length ≤ 100000) : StepT e o (doneE p) := by
  have hp := ed_pure e
  have hp1 := ed_pure p.1
  have hp2 := ed_pure (doneE p).1
  have hot := ot_pure o
  have hwh := whole_p o
  obtain ⟨hk2, k, he, hl⟩ := whole_ev hw hk
  have hpos := evN_pos he
  unfold doneE at *
  refine CallP.intro2 au_pu au_pu ?_
  refine CallT.intro tab_ok Tryz.func10 rfl (by kernel_rfl) (Nat.le_of_ble_eq_true rfl) ?_
  refine VC.reg tab_ok [3] rfl ?_
  refine VX.new rfl rfl ?_
  refine VX.newI rfl rfl ?_
  refine VX.new rfl rfl ?_
  refine VX.meek rfl ?_
  refine VX.nil ?_
  refine VC.seq ?_
  refine VC.reg tab_ok [] rfl ?_
  refine VX.meek rfl ?_
  first | refine VX.meek rfl ?_ | refine VX.loadI rfl rfl au_l ?_ | refine VX.loadP rfl rfl rfl au_l ?_
  iterate 2 refine VX.meek rfl ?_
  refine' VX.merge (d := 16) [_, _, _, _] rfl ?_ rfl ?_
  rotate_left
  · refine VX.guard rfl rfl (fun hb1_3 => ?_) (fun hb1_3 => ?_)
    · have ghb1_3 := hb1_3
      try simp only [au_std, Bool.not_true, Bool.not_false] at ghb1_3
      first | refine VX.meek rfl ?_ | refine VX.loadI rfl rfl au_l ?_ | refine VX.loadP rfl rfl rfl au_l ?_
      refine VX.guardT rfl rfl hb1_3 ?_
      refine VX.callP0 rfl rfl rfl (hwh) ?_
      refine VX.guardT rfl rfl hb1_3 ?_
      refine VX.meek rfl ?_
      refine VX.pickO rfl (fun _ => rfl) ?_
      exact VX.nil ⟨rfl, rfl⟩
    · refine VX.guardF rfl rfl hb1_3 ?_
      refine VX.guardF rfl rfl hb1_3 ?_
      exact VX.pickO rfl (fun h => absurd (h.symm.trans hb1_3) (by decide)) (VX.nil ⟨rfl, rfl⟩)
  refine VX.nil ?_
  refine VC.cond rfl (fun hc0 => ?_) (fun hc0 => ?_)
  · (try simp only [au_std] at hc0); rcases hc0 with k | k; (rw [hm] at k; cases k); (rw [hw] at k; cases k)
  · (try simp only [au_std] at hc0)
    refine VC.skip ?_
    refine VC.reg tab_ok [] rfl ?_
    refine VX.meek rfl ?_
    refine VX.nil ?_
    refine VC.seq ?_
    refine VC.reg tab_ok [] rfl ?_
    refine VX.meek rfl ?_
    first | refine VX.meek rfl ?_ | refine VX.loadI rfl rfl au_l ?_ | refine VX.loadP rfl rfl rfl au_l ?_
    refine VX.meek rfl ?_
    refine VX.nil ?_
    refine VC.cond rfl (fun hc1 => ?_) (fun hc1 => ?_)
    · (try simp only [au_std] at hc1); exact absurd hc1 hk
    · (try simp only [au_std] at hc1)
      refine VC.seq ?_
      refine VC.drw tab_ok [] [_, _, _, _, _, _, _] rfl (by kernel_rfl) (by kernel_rfl) ?_
      refine VX.meek rfl ?_
      first | refine VX.meek rfl ?_ | refine VX.loadI rfl rfl au_l ?_ | refine VX.loadP rfl rfl rfl au_l ?_
      refine VX.idxI (m := 0) rfl rfl rfl rfl rfl rfl (by omega) ?_
      refine VX.loadI rfl rfl (encL_part0 cI (m := 0) (getE (by omega)) (by decide) rfl) ?_
      refine VX.meek rfl ?_
      first | refine VX.meek rfl ?_ | refine VX.loadI rfl rfl au_l ?_ | refine VX.loadP rfl rfl rfl au_l ?_
      refine VX.meek rfl ?_
      iterate 2 refine VX.nil ?_
      refine VC.cond rfl (fun hc3 => ?_) (fun hc3 => ?_)
      · (try simp only [au_std] at hc3); exact absurd h hc3
      · (try simp only [au_std] at hc3)
        refine VC.skip ?_
        refine VC.drw tab_ok [] [_, _, _, _, _, _, _, _, _] rfl (by kernel_rfl) (by kernel_rfl) ?_
        refine VX.callP0 rfl rfl rfl (events_e) ?_
        refine VX.meek rfl ?_
        first | refine VX.meek rfl ?_ | refine VX.loadI rfl rfl au_l ?_ | refine VX.loadP rfl rfl rfl au_l ?_
        refine VX.meek (t := .tup [.clo f [] [], BL true]) (by show (match lookE o.code with | some r => some (r, (none : Option (Nat × List T))) | none => none) = _; rw [hlk]) ?_
        iterate 5 refine VX.meek rfl ?_
        iterate 2 refine VX.nil ?_
        refine VC.seq ?_
        refine VC.reg tab_ok [] rfl ?_
        iterate 2 refine VX.meek rfl ?_
        refine VX.nil ?_
        refine VC.condF rfl ?_
        refine VC.skip ?_
        refine VC.regN tab_ok [] rfl ?_
        iterate 2 refine VX.meek rfl ?_
        first | refine VX.meek rfl ?_ | refine VX.loadI rfl rfl au_l ?_ | refine VX.loadP rfl rfl rfl au_l ?_
        refine VX.callT rfl rfl (CallT.frame hact [0] rfl au_ci au_ci ?_); rintro _ _ ⟨rfl, rfl⟩; refine frK au_co (CvOut_c (CvL.pure hp1) (CvOut_c (CvL.pure (encL_pure _ _)) CvOut_nil)) ?_
        refine VX.meek rfl ?_
        refine VX.nil ?_
        refine VC.reg tab_ok [] rfl ?_
        refine VX.meek rfl ?_
        first | refine VX.meek rfl ?_ | refine VX.loadI rfl rfl au_l ?_ | refine VX.loadP rfl rfl rfl au_l ?_
        iterate 2 refine VX.meek rfl ?_
        first | refine VX.add rfl rfl (by omega) ?_ | refine VX.meek rfl ?_
        refine VX.meek rfl ?_
        refine VX.store rfl rfl rfl rfl rfl au_s rfl ?_
        refine VX.nil ?_
        refine VC.reg tab_ok [] rfl ?_
        first | refine VX.meek rfl ?_ | refine VX.loadI rfl rfl au_l ?_ | refine VX.loadP rfl rfl rfl au_l ?_
        refine VX.meek rfl ?_
        refine VX.store rfl rfl rfl rfl rfl au_s rfl ?_
        refine VX.meek rfl ?_
        refine VX.nil ?_
        refine VC.ret ?_
        exact ⟨trivial, _, rfl, Cv.tup (CvL.cons (Cv.agg (CvL.eq rfl hp2)) (CvL.cons (Cv.fslc0 ⟨rfl, by simp⟩ (CvL.pure (encL_pure _ _))) CvL.nil))⟩
theorem step_a1 (e : Ed) (o : Ot) (hW : e.W) (hm : e.made = true) (hw : wholeB o = true) (hk : o.kind = 1) (h : o.code = 15 ∧ e.asked ≠ 0 ∧ o.seq = e.asked) (hl : o.l.length ≤ 100000) (hc : 0 ≤ e.cnt ∧ e.cnt ≤ 1000000000) : StepT e o (doneE (e.anew (e.pasteE o.l) [])) := by
  have hp := ed_pure e
  have hot := ot_pure o
  have hwh := whole_p o
  have hW2 : (e.pasteE o.l).W := ⟨hW.s, by unfold Ed.pasteE; dsimp only; split; exact hW.o; exact hW.o.put _, hW.t⟩
  have hr := redrawn_t e (e.pasteE o.l) hW hW2 rfl [] (by simp) _ _ (step1_t e hW o hl) (CvL.cons (Cv.ptr rfl) (CvL.cons (Cv.iptr (CvL.pure hot)) CvL.nil))
  have hlen := (e.pasteE o.l).seen.redN_len e.look [] e.rows
  have hR := hW.rows
  have hcn : (e.pasteE o.l).seen.cnt = e.cnt := rfl
  unfold Ed.anew
  generalize hG : (e.pasteE o.l).seen = e3 at *
  have hp1 := ed_pure e3
  have hp2 := ed_pure (doneE (e3, e3.redN e.look [] e.rows)).1
  unfold doneE at *
  refine CallP.intro2 au_pu au_pu ?_
  refine CallT.intro tab_ok Tryz.func10 rfl (by kernel_rfl) (Nat.le_of_ble_eq_true rfl) ?_
  refine VC.reg tab_ok [3] rfl ?_
  refine VX.new rfl rfl ?_
  refine VX.newI rfl rfl ?_
  refine VX.new rfl rfl ?_
  refine VX.meek rfl ?_
  refine VX.nil ?_
  refine VC.seq ?_
  refine VC.reg tab_ok [] rfl ?_
  refine VX.meek rfl ?_
  first | refine VX.meek rfl ?_ | refine VX.loadI rfl rfl au_l ?_ | refine VX.loadP rfl rfl rfl au_l ?_
  iterate 2 refine VX.meek rfl ?_
  refine' VX.merge (d := 16) [_, _, _, _] rfl ?_ rfl ?_
  rotate_left
  · refine VX.guard rfl rfl (fun hb1_3 => ?_) (fun hb1_3 => ?_)
    · have ghb1_3 := hb1_3
      try simp only [au_std, Bool.not_true, Bool.not_false] at ghb1_3
      first | refine VX.meek rfl ?_ | refine VX.loadI rfl rfl au_l ?_ | refine VX.loadP rfl rfl rfl au_l ?_
      refine VX.guardT rfl rfl hb1_3 ?_
      refine VX.callP0 rfl rfl rfl (hwh) ?_
      refine VX.guardT rfl rfl hb1_3 ?_
      refine VX.meek rfl ?_
      refine VX.pickO rfl (fun _ => rfl) ?_
      exact VX.nil ⟨rfl, rfl⟩
    · refine VX.guardF rfl rfl hb1_3 ?_
      refine VX.guardF rfl rfl hb1_3 ?_
      exact VX.pickO rfl (fun h => absurd (h.symm.trans hb1_3) (by decide)) (VX.nil ⟨rfl, rfl⟩)
  refine VX.nil ?_
  refine VC.cond rfl (fun hc0 => ?_) (fun hc0 => ?_)
  · (try simp only [au_std] at hc0); rcases hc0 with k | k; (rw [hm] at k; cases k); (rw [hw] at k; cases k)
  · (try simp only [au_std] at hc0)
    refine VC.skip ?_
    refine VC.reg tab_ok [] rfl ?_
    refine VX.meek rfl ?_
    refine VX.nil ?_
    refine VC.seq ?_
    refine VC.reg tab_ok [] rfl ?_
    refine VX.meek rfl ?_
    first | refine VX.meek rfl ?_ | refine VX.loadI rfl rfl au_l ?_ | refine VX.loadP rfl rfl rfl au_l ?_
    refine VX.meek rfl ?_
    refine VX.nil ?_
    refine VC.cond rfl (fun hc1 => ?_) (fun hc1 => ?_)
    · (try simp only [au_std] at hc1)
      refine VC.seq ?_
      refine VC.reg tab_ok [] rfl ?_
      refine VX.meek rfl ?_
      first | refine VX.meek rfl ?_ | refine VX.loadI rfl rfl au_l ?_ | refine VX.loadP rfl rfl rfl au_l ?_
      iterate 2 refine VX.meek rfl ?_
      refine' VX.merge (d := 28) [_, _, _, _] rfl ?_ rfl ?_
      rotate_left
      · refine VX.guard rfl rfl (fun hb5_3 => ?_) (fun hb5_3 => ?_)
        · have ghb5_3 := hb5_3
          try simp only [au_std, Bool.not_true, Bool.not_false] at ghb5_3
          refine VX.meek rfl ?_
          refine VX.guardT rfl rfl hb5_3 ?_
          first | refine VX.meek rfl ?_ | refine VX.loadI rfl rfl au_l ?_ | refine VX.loadP rfl rfl rfl au_l ?_
          refine VX.guardT rfl rfl hb5_3 ?_
          refine VX.meek rfl ?_
          refine VX.pickO rfl (fun _ => rfl) ?_
          exact VX.nil ⟨rfl, rfl⟩
        · refine VX.guardF rfl rfl hb5_3 ?_
          refine VX.guardF rfl rfl hb5_3 ?_
          exact VX.pickO rfl (fun h => absurd (h.symm.trans hb5_3) (by decide)) (VX.nil ⟨rfl, rfl⟩)
      refine VX.meek rfl ?_
      refine' VX.merge (d := 35) [_, _, _, _, _, _] rfl ?_ rfl ?_
      rotate_left
      · refine VX.guard rfl rfl (fun hb5_8 => ?_) (fun hb5_8 => ?_)
        · have ghb5_8 := hb5_8
          try simp only [au_std, Bool.not_true, Bool.not_false] at ghb5_8
          refine VX.meek rfl ?_
          refine VX.guardT rfl rfl hb5_8 ?_
          first | refine VX.meek rfl ?_ | refine VX.loadI rfl rfl au_l ?_ | refine VX.loadP rfl rfl rfl au_l ?_
          refine VX.guardT rfl rfl hb5_8 ?_
          refine VX.meek rfl ?_
          refine VX.guardT rfl rfl hb5_8 ?_
          first | refine VX.meek rfl ?_ | refine VX.loadI rfl rfl au_l ?_ | refine VX.loadP rfl rfl rfl au_l ?_
          refine VX.guardT rfl rfl hb5_8 ?_
          refine VX.meek rfl ?_
          refine VX.pickO rfl (fun _ => rfl) ?_
          exact VX.nil ⟨rfl, rfl⟩
        · refine VX.guardF rfl rfl hb5_8 ?_
          iterate 3 refine VX.guardF rfl rfl hb5_8 ?_
          exact VX.pickO rfl (fun h => absurd (h.symm.trans hb5_8) (by decide)) (VX.nil ⟨rfl, rfl⟩)
      refine VX.nil ?_
      refine VC.cond rfl (fun hc2 => ?_) (fun hc2 => ?_)
      · (try simp only [au_std] at hc2); omega
      · (try simp only [au_std] at hc2)
        refine VC.skip ?_
        refine VC.regN tab_ok [] rfl ?_
        refine VX.meek rfl ?_
        refine VX.callT rfl rfl (CallT.frame (hr) [0] rfl au_ci au_ci ?_)
        rintro _ _ ⟨rfl, rfl⟩
        refine frK au_co au_co ?_
        refine VX.meek rfl ?_
        refine VX.nil ?_
        refine VC.reg tab_ok [] rfl ?_
        refine VX.meek rfl ?_
        first | refine VX.meek rfl ?_ | refine VX.loadI rfl rfl au_l ?_ | refine VX.loadP rfl rfl rfl au_l ?_
        iterate 2 refine VX.meek rfl ?_
        refine VX.add (a := e3.cnt) (b := ((e3.redN e.look [] e.rows).length : Nat)) rfl rfl (by simp only [List.length_nil] at hlen; omega) ?_
        refine VX.meek rfl ?_
        refine VX.store rfl rfl rfl rfl rfl au_s rfl ?_
        refine VX.nil ?_
        refine VC.reg tab_ok [] rfl ?_
        first | refine VX.meek rfl ?_ | refine VX.loadI rfl rfl au_l ?_ | refine VX.loadP rfl rfl rfl au_l ?_
        refine VX.meek rfl ?_
        refine VX.store rfl rfl rfl rfl rfl au_s rfl ?_
        refine VX.meek rfl ?_
        refine VX.nil ?_
        refine VC.ret ?_
        exact ⟨trivial, _, rfl, Cv.tup (CvL.cons (Cv.agg (CvL.eq rfl hp2)) (CvL.cons (Cv.fslc0 ⟨rfl, by simp⟩ (CvL.pure (encL_pure _ _))) CvL.nil))⟩
    · (try simp only [au_std] at hc1); exact absurd hk hc1
end
section
open Go.RowKit
set_option maxRecDepth 100000
set_option maxHeartbeats 2000000
def Ed.evs (e : Ed) (code : Int) (n : List Int) : Option (Ed × List Rq) :=
  if code = 10 then some (e, e.expL n e.rows)
  else if code = 1 then some (e.anew (e.wc (e.c.key n[2]! (n[3]! % 256))) (e.keyR n[2]! (n[3]! % 256) n[8]!))
  else if code = 3 then some (e.anew (e.wc { e.c with cur := e.pt n, anc := e.pt n }) [])
  else if code = 5 then some (e.movedN n)
  else if code = 23 then some (e, e.givR n)
  else if code = 24 then some (e.notiN n)
  else if code = 22 then some (e.clearN n, [])
  else none
def Ed.step (e : Ed) (o : Ot) : Ed × List Rq :=
  if e.made = false ∨ wholeB o = false then (e, [])
  else if o.kind = 1 then (if o.code ≠ 15 ∨ e.asked = 0 ∨ o.seq ≠ e.asked then (e, []) else doneE (e.anew (e.pasteE o.l) []))
  else if o.n[0]! ≠ e.win then (e, [])
  else match e.evs o.code o.n with | none => (e, []) | some p => doneE p
theorem anew_len (e e2 : Ed) (l : List Rq) (hw : e.W) : (e.anew e2 l).2.length ≤ l.length + 105 := by
  have := e2.seen.redN_len e.look l e.rows
  have hr := hw.rows
  unfold Ed.anew
  dsimp only
  omega
theorem evs_ok {e : Ed} {code : Int} {n : List Int} {p : Ed × List Rq} (hw : e.W) (h : e.evs code n = some p) : p.1.W ∧ p.1.cnt = e.cnt ∧ p.2.length ≤ 200 := by
  have hr := hw.rows
  unfold Ed.evs at h
  split at h
  · injection h with h; subst h
    have := e.expL_len n e.rows
    exact ⟨hw, rfl, by dsimp only; omega⟩
  split at h
  · injection h with h; subst h
    have h1 := keyR_len e n[2]! (n[3]! % 256) n[8]!
    have h2 := anew_len e (e.wc (e.c.key n[2]! (n[3]! % 256))) (e.keyR n[2]! (n[3]! % 256) n[8]!) hw
    exact ⟨(hw.put_c (hw.o.key _ _)).seen, rfl, by omega⟩
  split at h
  · injection h with h; subst h
    have h2 := anew_len e (e.wc { e.c with cur := e.pt n, anc := e.pt n }) [] hw
    simp only [List.length_nil] at h2
    exact ⟨(hw.put_c (c := { e.c with cur := e.pt n, anc := e.pt n }) ⟨hw.o.bf, ⟨pt_le e n, pt_le e n⟩, hw.o.cop⟩).seen, rfl, Nat.le_trans h2 (by omega)⟩
  split at h
  · injection h with h; subst h
    unfold Ed.movedN
    split
    · exact ⟨hw, rfl, by simp⟩
    · have h2 := anew_len e (e.wc { e.c with cur := e.pt n }) [] hw
      simp only [List.length_nil] at h2
      exact ⟨(hw.put_c (c := { e.c with cur := e.pt n }) ⟨hw.o.bf, ⟨pt_le e n, hw.o.cur.2⟩, hw.o.cop⟩).seen, rfl, Nat.le_trans h2 (by omega)⟩
  split at h
  · injection h with h; subst h
    exact ⟨hw, rfl, by unfold Ed.givR; dsimp only; split <;> simp⟩
  split at h
  · injection h with h; subst h
    unfold Ed.notiN
    split
    · exact ⟨hw, rfl, by simp⟩
    · exact ⟨⟨hw.s, hw.o, hw.t⟩, rfl, by simp⟩
  split at h
  · injection h with h; subst h
    refine ⟨?_, ?_, by simp⟩
    · show (e.clearN n).W
      unfold Ed.clearN
      split
      · exact hw.put_c ⟨hw.o.bf, hw.o.cur, by simp⟩
      · exact hw
    · show (e.clearN n).cnt = _
      unfold Ed.clearN
      split <;> rfl
  · cases h
theorem pasteE_W {e : Ed} (hW : e.W) (row : List Int) : (e.pasteE row).W := ⟨hW.s, by unfold Ed.pasteE; dsimp only; split; exact hW.o; exact hW.o.put _, hW.t⟩
theorem step_ok {e : Ed} (hw : e.W) (o : Ot) (hc : 0 ≤ e.cnt) : (e.step o).1.W ∧ 0 ≤ (e.step o).1.cnt ∧ (e.step o).1.cnt ≤ e.cnt + 200 ∧ (e.step o).2.length ≤ 200 := by
  have hsame : e.W ∧ 0 ≤ e.cnt ∧ e.cnt ≤ e.cnt + 200 ∧ ([] : List Rq).length ≤ 200 := ⟨hw, hc, by omega, by simp⟩
  unfold Ed.step
  split
  · exact hsame
  split
  · split
    · exact hsame
    · have h2 := anew_len e (e.pasteE o.l) [] hw
      have hW := (pasteE_W hw o.l).seen
      simp only [List.length_nil] at h2
      refine ⟨⟨hW.s, hW.o, hW.t⟩, ?_, ?_, by show (e.anew (e.pasteE o.l) []).2.length ≤ 200; omega⟩
      · show 0 ≤ e.cnt + _; omega
      · show e.cnt + ((e.anew (e.pasteE o.l) []).2.length : Int) ≤ e.cnt + 200; omega
  split
  · exact hsame
  cases h : e.evs o.code o.n with
  | none => exact hsame
  | some p =>
    obtain ⟨h1, h2, h3⟩ := evs_ok hw h
    refine ⟨⟨h1.s, h1.o, h1.t⟩, ?_, ?_, h3⟩
    · show 0 ≤ p.1.cnt + _; omega
    · show p.1.cnt + (p.2.length : Int) ≤ e.cnt + 200; omega
theorem evN_at {code : Int} {k : Nat} (h : evN code = some k) : (code = 10 → k = 6) ∧ (code = 1 → k = 9) ∧ (code = 3 → k = 9) ∧ (code = 5 → k = 9) ∧ (code = 23 → k = 6) ∧ (code = 24 → k = 5) ∧ (code = 22 → k = 3) := by
  refine ⟨?_, ?_, ?_, ?_, ?_, ?_, ?_⟩ <;> intro hc <;> subst hc <;> injection h with h <;> omega
theorem step_p (e : Ed) (o : Ot) (hW : e.W) (hc : 0 ≤ e.cnt ∧ e.cnt ≤ 900000000) (hn : nOk o.n) (hl : o.l.length ≤ 100000) : StepT e o (e.step o) := by
  unfold Ed.step
  by_cases h0 : e.made = false ∨ wholeB o = false
  · rw [if_pos h0]; exact step_out e o h0
  rw [if_neg h0]
  have hm : e.made = true := by cases h : e.made with | true => rfl | false => exact absurd (.inl h) h0
  have hwh : wholeB o = true := by cases h : wholeB o with | true => rfl | false => exact absurd (.inr h) h0
  by_cases hk : o.kind = 1
  · rw [if_pos hk]
    by_cases ha : o.code ≠ 15 ∨ e.asked = 0 ∨ o.seq ≠ e.asked
    · rw [if_pos ha]; exact step_a0 e o hm hwh hk ha
    · rw [if_neg ha]
      exact step_a1 e o hW hm hwh hk (by omega) hl (by omega)
  rw [if_neg hk]
  by_cases hwi : o.n[0]! ≠ e.win
  · rw [if_pos hwi]; exact step_w e o hm hwh hk hwi
  rw [if_neg hwi]
  have hwi2 : o.n[0]! = e.win := by simpa using hwi
  obtain ⟨hk2, k, he, hlen⟩ := whole_ev hwh hk
  obtain ⟨a1, a2, a3, a4, a5, a6, a7⟩ := evN_at he
  have hev : ∀ f p, lookE o.code = some (.tup [.clo f [] [], BL true]) → EvT f e o.n p → e.evs o.code o.n = some p → StepT e o (match e.evs o.code o.n with | none => (e, []) | some p => doneE p) := fun f p h1 h2 h3 => by
    obtain ⟨g1, g2, g3⟩ := evs_ok hW h3
    rw [h3]
    exact step_e e o hm hwh hk hwi2 f h1 p h2 (by omega) (by omega)
  by_cases c1 : o.code = 10
  · exact hev _ _ (by rw [c1]; rfl) (exposedE_t e hW o.n hn (by have := a1 c1; omega)) (by unfold Ed.evs; rw [if_pos c1])
  by_cases c2 : o.code = 1
  · exact hev _ _ (by rw [c2]; rfl) (pressed_t e hW o.n hn (by have := a2 c2; omega)) (by unfold Ed.evs; rw [if_neg c1, if_pos c2])
  by_cases c3 : o.code = 3
  · exact hev _ _ (by rw [c3]; rfl) (clicked_t e hW o.n hn (by have := a3 c3; omega)) (by unfold Ed.evs; rw [if_neg c1, if_neg c2, if_pos c3])
  by_cases c4 : o.code = 5
  · exact hev _ _ (by rw [c4]; rfl) (moved_t e hW o.n hn (by have := a4 c4; omega)) (by unfold Ed.evs; rw [if_neg c1, if_neg c2, if_neg c3, if_pos c4])
  by_cases c5 : o.code = 23
  · exact hev _ _ (by rw [c5]; rfl) (given_t e hW o.n (by have := a5 c5; omega)) (by unfold Ed.evs; rw [if_neg c1, if_neg c2, if_neg c3, if_neg c4, if_pos c5])
  by_cases c6 : o.code = 24
  · exact hev _ _ (by rw [c6]; rfl) (notified_t e (by omega) o.n (by have := a6 c6; omega)) (by unfold Ed.evs; rw [if_neg c1, if_neg c2, if_neg c3, if_neg c4, if_neg c5, if_pos c6])
  by_cases c7 : o.code = 22
  · exact hev _ _ (by rw [c7]; rfl) (cleared_t e hW o.n (by have := a7 c7; omega)) (by unfold Ed.evs; rw [if_neg c1, if_neg c2, if_neg c3, if_neg c4, if_neg c5, if_neg c6, if_pos c7])
  rw [show e.evs o.code o.n = none from by unfold Ed.evs; rw [if_neg c1, if_neg c2, if_neg c3, if_neg c4, if_neg c5, if_neg c6, if_neg c7]]
  exact step_n e o hm hwh hk hwi2 (lookE_no o.code ⟨c1, c2, c3, c4, c5, c6, c7⟩)
end
section
open Go.RowKit
set_option maxRecDepth 100000
set_option maxHeartbeats 2000000

/- a new editor -/
def newEd (b w h : Int) (s : List UInt8) : Ed := ⟨⟨0, 0, ⟨[], [], s⟩, []⟩, true, b + 1, b + 2, b + 3, w, h, 0, 0, 6, 0⟩
def newR (b w h : Int) : List Rq :=
  [⟨23, [b + 3], [116, 105, 110, 121], []⟩, ⟨19, [b + 2], [], []⟩, ⟨20, [b + 2, 28, 0, 0, 1, 0, b + 3], [], []⟩, ⟨1, [b + 1, 1, 0, 0, w, h, 0, 0, 0], [], []⟩, ⟨7, [b + 1, 32, 0, 0, 0, 0, 0, 277], [], []⟩, ⟨3, [b + 1], [], []⟩]
theorem newEd_W {b w h : Int} {s : List UInt8} (h1 : 4 ≤ w ∧ w ≤ 128 ∧ 6 ≤ h ∧ h ≤ 128) (hs : s.length ≤ 4096) : (newEd b w h s).W :=
  ⟨h1, ⟨⟨hs, hs, by simp [newEd]⟩, ⟨Nat.zero_le _, Nat.zero_le _⟩, Nat.zero_le _⟩, by simp [newEd]⟩
theorem base55_p (c : Nat) (h1 : 1 ≤ c) (h2 : c ≤ 8) : CallP Tryz.prog 22 [I64 c] (.tup [.v (.int .u32 (c * 1048576 : Nat)), BL true]) := by
  have hi : CallP Tryz.prog 39 [I64 c] (BL true) := by
    refine CallP.intro2 au_pu au_pu ?_
    refine CallT.intro tab_ok Tryz.func39 rfl (by kernel_rfl) (Nat.le_of_ble_eq_true rfl) ?_
    refine VC.reg tab_ok [] rfl ?_
    refine VX.meek rfl ?_
    refine VX.nil ?_
    refine VC.reg tab_ok [] rfl ?_
    iterate 3 refine VX.meek rfl ?_
    refine' VX.merge (d := 8) [_, _, _] rfl ?_ rfl ?_
    rotate_left
    · refine VX.guard rfl rfl (fun hb1_2 => ?_) (fun hb1_2 => ?_)
      · have ghb1_2 := hb1_2
        try simp only [au_std, Bool.not_true, Bool.not_false] at ghb1_2
        refine VX.meek rfl ?_
        refine VX.guardT rfl rfl hb1_2 ?_
        refine VX.meek rfl ?_
        refine VX.pickA rfl (fun _ => rfl) ?_
        exact VX.nil ⟨rfl, rfl⟩
      · refine VX.guardF rfl rfl hb1_2 ?_
        exact VX.pickA rfl (fun h => absurd (h.symm.trans hb1_2) (by decide)) (VX.nil ⟨rfl, rfl⟩)
    refine VX.meek rfl ?_
    refine VX.nil ?_
    refine VC.ret ?_
    exact ⟨trivial, _, rfl, Cv.eq (by show T.v (.bool (decide (1 ≤ (c : Int)) && decide ((c : Int) ≤ 8))) = _; rw [decide_eq_true (by omega), decide_eq_true (by omega)]; rfl) rfl⟩
  refine CallP.intro2 au_pu au_pu ?_
  refine CallT.intro tab_ok Tryz.func22 rfl (by kernel_rfl) (Nat.le_of_ble_eq_true rfl) ?_
  refine VC.reg tab_ok [] rfl ?_
  iterate 2 refine VX.meek rfl ?_
  refine VX.nil ?_
  refine VC.seq ?_
  refine VC.reg tab_ok [] rfl ?_
  refine VX.meek rfl ?_
  refine VX.callP0 rfl rfl rfl (hi) ?_
  refine VX.meek rfl ?_
  refine VX.nil ?_
  refine VC.condF rfl ?_
  refine VC.skip ?_
  refine VC.reg tab_ok [] rfl ?_
  refine VX.meek rfl ?_
  refine VX.meek (t := .v (.int .u32 (c : Int))) (by show some (T.v (.int .u32 (IntKind.u32.wrap (c : Int))), (none : Option (Nat × List T))) = _; rw [show IntKind.u32.wrap (c : Int) = (c : Int) from by simp [IntKind.wrap, IntKind.bits, IntKind.signed]; omega]) ?_
  refine VX.meek (t := .v (.int .u32 (c * 1048576 : Nat))) (by show some (T.v (.int .u32 (IntKind.u32.wrap ((c : Int) * 1048576))), (none : Option (Nat × List T))) = _; rw [show IntKind.u32.wrap ((c : Int) * 1048576) = ((c * 1048576 : Nat) : Int) from by simp [IntKind.wrap, IntKind.bits, IntKind.signed]; omega]) ?_
  iterate 2 refine VX.meek rfl ?_
  refine VX.nil ?_
  refine VC.ret ?_
  exact ⟨trivial, _, rfl, Cv.eq rfl rfl⟩
abbrev zEd : List T := [I64 0, I64 0, BL false, I64 0, I64 0, I64 0, I64 0, I64 0, NIL, NIL, strT [], I64 0, I64 0, strT [], I64 0, I64 0]
def newC (b w h : Int) : List T :=
  [I64 23, cIf [b + 3], strT [116, 105, 110, 121], cIf [], I64 19, cIf [b + 2], strT [], cIf [], I64 20, cIf [b + 2, 28, 0, 0, 1, 0, b + 3], strT [], cIf [], I64 1, cIf [b + 1, 1, 0, 0, w, h, 0, 0, 0], strT [], cIf [], I64 7, cIf [b + 1, 32, 0, 0, 0, 0, 0, 277], strT [], cIf [], I64 3, cIf [b + 1], strT [], cIf []]
theorem newC_eq (b w h : Int) : rqT (newR b w h) = .islc (newC b w h) 6 none := rfl
theorem newC_pure (b w h : Int) : T.pureL (newC b w h) = true := rfl
def newO (b w h : Int) : List T :=
  [I64 23, .islc [I64 (b + 3)] 1 (some 1), strT [116, 105, 110, 121], NIL, I64 19, .islc [I64 (b + 2)] 1 (some 1), strT [], NIL, I64 20, .islc [I64 (b + 2), I64 28, I64 0, I64 0, I64 1, I64 0, I64 (b + 3)] 7 (some 7), strT [], NIL, I64 1, .islc [I64 (b + 1), I64 1, I64 0, I64 0, I64 w, I64 h, I64 0, I64 0, I64 0] 9 (some 9), strT [], NIL, I64 7, .islc [I64 (b + 1), I64 32, I64 0, I64 0, I64 0, I64 0, I64 0, I64 277] 8 (some 8), strT [], NIL, I64 3, .islc [I64 (b + 1)] 1 (some 1), strT [], NIL]
theorem newO_pure (b w h : Int) : T.pureL (newO b w h) = true := rfl
theorem ednew0_p (c b : Nat) (hB : c * 1048576 = b) (w h : Int) (s : List UInt8) (h1 : 1 ≤ c) (h2 : c ≤ 8) (hw : 4 ≤ w ∧ w ≤ 128 ∧ 6 ≤ h ∧ h ≤ 128) (hs : s.length ≤ 4096) (hr : rightB s = true) : CallP Tryz.prog 9 [I64 c, I64 w, I64 h, strT s] (.tup [edT (newEd b w h s), (.islc (newO b w h) 6 (some 6)), I64 0]) := by
  have hbn := bnew_p s hs hr
  have hba := base55_p c h1 h2
  rw [hB] at hba
  have hb8 : b ≤ 8388608 := by omega
  clear hB
  have hp := ed_pure (newEd b w h s)
  have hpb := buf_pure ⟨[], [], s⟩
  have hpr := newO_pure b w h
  refine CallP.intro2 au_pu au_pu ?_
  refine CallT.intro tab_ok Tryz.func9 rfl (by kernel_rfl) (Nat.le_of_ble_eq_true rfl) ?_
  refine VC.reg tab_ok [] rfl ?_
  refine VX.new rfl rfl ?_
  iterate 2 refine VX.meek rfl ?_
  refine VX.nil ?_
  refine VC.reg tab_ok [] rfl ?_
  refine VX.meek rfl ?_
  refine VX.callP0 rfl rfl rfl (hba) ?_
  iterate 5 refine VX.meek rfl ?_
  refine VX.nil ?_
  refine VC.seq ?_
  refine VC.reg tab_ok [] rfl ?_
  iterate 2 refine VX.meek rfl ?_
  refine VX.nil ?_
  refine VC.condF rfl ?_
  refine VC.skip ?_
  refine VC.seq ?_
  refine VC.reg tab_ok [] rfl ?_
  iterate 3 refine VX.meek rfl ?_
  refine' VX.merge (d := 31) [_, _, _] rfl ?_ rfl ?_
  rotate_left
  · refine VX.guard rfl rfl (fun hb4_2 => ?_) (fun hb4_2 => ?_)
    · have ghb4_2 := hb4_2
      try simp only [au_std, Bool.not_true, Bool.not_false] at ghb4_2
      refine VX.meek rfl ?_
      refine VX.guardT rfl rfl hb4_2 ?_
      refine VX.meek rfl ?_
      refine VX.pickO rfl (fun _ => rfl) ?_
      exact VX.nil ⟨rfl, rfl⟩
    · refine VX.guardF rfl rfl hb4_2 ?_
      exact VX.pickO rfl (fun h => absurd (h.symm.trans hb4_2) (by decide)) (VX.nil ⟨rfl, rfl⟩)
  refine VX.meek rfl ?_
  refine' VX.merge (d := 35) [_, _, _] rfl ?_ rfl ?_
  rotate_left
  · refine VX.guard rfl rfl (fun hb4_6 => ?_) (fun hb4_6 => ?_)
    · have ghb4_6 := hb4_6
      try simp only [au_std, Bool.not_true, Bool.not_false] at ghb4_6
      refine VX.meek rfl ?_
      refine VX.guardT rfl rfl hb4_6 ?_
      refine VX.meek rfl ?_
      refine VX.pickO rfl (fun _ => rfl) ?_
      exact VX.nil ⟨rfl, rfl⟩
    · refine VX.guardF rfl rfl hb4_6 ?_
      exact VX.pickO rfl (fun h => absurd (h.symm.trans hb4_6) (by decide)) (VX.nil ⟨rfl, rfl⟩)
  refine VX.meek rfl ?_
  refine' VX.merge (d := 39) [_, _, _] rfl ?_ rfl ?_
  rotate_left
  · refine VX.guard rfl rfl (fun hb4_10 => ?_) (fun hb4_10 => ?_)
    · have ghb4_10 := hb4_10
      try simp only [au_std, Bool.not_true, Bool.not_false] at ghb4_10
      refine VX.meek rfl ?_
      refine VX.guardT rfl rfl hb4_10 ?_
      refine VX.meek rfl ?_
      refine VX.pickO rfl (fun _ => rfl) ?_
      exact VX.nil ⟨rfl, rfl⟩
    · refine VX.guardF rfl rfl hb4_10 ?_
      exact VX.pickO rfl (fun h => absurd (h.symm.trans hb4_10) (by decide)) (VX.nil ⟨rfl, rfl⟩)
  refine VX.nil ?_
  refine VC.cond rfl (fun hc1 => ?_) (fun hc1 => ?_)
  · (try simp only [au_std] at hc1); omega
  · (try simp only [au_std] at hc1)
    refine VC.skip ?_
    refine VC.seq ?_
    refine VC.reg tab_ok [] rfl ?_
    refine VX.meek rfl ?_
    refine VX.meek (t := I64 (s.length : Nat)) rfl ?_
    refine VX.meek rfl ?_
    refine VX.nil ?_
    refine VC.cond rfl (fun hc2 => ?_) (fun hc2 => ?_)
    · (try simp only [au_std] at hc2); omega
    · (try simp only [au_std] at hc2)
      refine VC.skip ?_
      refine VC.reg tab_ok [] rfl ?_
      refine VX.meek rfl ?_
      refine VX.callP0 rfl rfl rfl (hbn) ?_
      iterate 3 refine VX.meek rfl ?_
      refine VX.new rfl rfl ?_
      refine VX.store rfl rfl rfl rfl rfl au_s rfl ?_
      refine VX.meek rfl ?_
      refine VX.nil ?_
      refine VC.seq ?_
      refine VC.reg tab_ok [] rfl ?_
      iterate 2 refine VX.meek rfl ?_
      refine VX.nil ?_
      refine VC.condF rfl ?_
      refine VC.skip ?_
      refine VC.reg tab_ok [] rfl ?_
      refine VX.meek rfl ?_
      refine VX.meek (t := I64 (b : Int)) (by show some (T.v (.int .i64 (IntKind.i64.wrap (b : Int))), (none : Option (Nat × List T))) = _; rw [wrap_in (by omega)]) ?_
      refine VX.meek rfl ?_
      refine VX.nil ?_
      refine VC.reg tab_ok [] rfl ?_
      refine VX.meek rfl ?_
      first | refine VX.add rfl rfl (by omega) ?_ | refine VX.meek rfl ?_
      refine VX.meek rfl ?_
      first | refine VX.add rfl rfl (by omega) ?_ | refine VX.meek rfl ?_
      refine VX.meek rfl ?_
      first | refine VX.add rfl rfl (by omega) ?_ | refine VX.meek rfl ?_
      iterate 2 refine VX.meek rfl ?_
      first | refine VX.meek rfl ?_ | refine VX.loadI rfl rfl au_l ?_ | refine VX.loadP rfl rfl rfl au_l ?_
      refine VX.meek rfl ?_
      refine VX.new rfl rfl ?_
      refine VX.store rfl rfl rfl rfl rfl au_s rfl ?_
      refine VX.nil ?_
      refine VC.view ([(8, .ptr 0 0), (16, .ptr 1 0)]) ([.c zEd, .c [I64 0, I64 0, BL true, I64 ((b : Int) + 1), I64 ((b : Int) + 2), I64 ((b : Int) + 3), I64 w, I64 h, .islc [] 0 none, .islc [] 0 none, strT s, I64 0, I64 0, strT [], I64 0, I64 0]]) [1, 2] rfl (by refine ⟨[some 0, some 2], rfl, by first | trivial | decide, by first | rfl | (simp only [noO, Bool.and_true, Bool.and_eq_true]; first | assumption | (refine ⟨?_, ?_⟩ <;> assumption)) | (simp only [noO, *, Bool.and_true, Bool.true_and, Bool.and_self]; done), ?_, ?_⟩ <;> (repeat' first | exact trivial | exact CvB_n | exact CvB_d | exact CvB_o rfl | refine CvE_app ?_ ?_ | refine CvE_cons rfl ?_ ?_ | refine CvH_cons ?_ ?_ | refine CvB_c rfl ?_ | fail) <;> first | exact au_v | (exact CvL.pure rfl)) ?_
      refine VC.reg tab_ok [68, 72, 78, 84, 88, 92, 94] rfl ?_
      refine VX.meek rfl ?_
      first | refine VX.meek rfl ?_ | refine VX.loadI rfl rfl au_l ?_ | refine VX.loadP rfl rfl rfl au_l ?_
      refine VX.newI rfl rfl ?_
      iterate 2 refine VX.meek rfl ?_
      first | refine VX.meek rfl ?_ | refine VX.loadI rfl rfl au_l ?_ | refine VX.loadP rfl rfl rfl au_l ?_
      refine VX.newI rfl rfl ?_
      iterate 2 refine VX.meek rfl ?_
      first | refine VX.meek rfl ?_ | refine VX.loadI rfl rfl au_l ?_ | refine VX.loadP rfl rfl rfl au_l ?_
      refine VX.meek rfl ?_
      first | refine VX.meek rfl ?_ | refine VX.loadI rfl rfl au_l ?_ | refine VX.loadP rfl rfl rfl au_l ?_
      refine VX.newI rfl rfl ?_
      iterate 2 refine VX.meek rfl ?_
      first | refine VX.meek rfl ?_ | refine VX.loadI rfl rfl au_l ?_ | refine VX.loadP rfl rfl rfl au_l ?_
      iterate 2 refine VX.meek rfl ?_
      refine VX.newI rfl rfl ?_
      iterate 2 refine VX.meek rfl ?_
      first | refine VX.meek rfl ?_ | refine VX.loadI rfl rfl au_l ?_ | refine VX.loadP rfl rfl rfl au_l ?_
      refine VX.newI rfl rfl ?_
      iterate 2 refine VX.meek rfl ?_
      first | refine VX.meek rfl ?_ | refine VX.loadI rfl rfl au_l ?_ | refine VX.loadP rfl rfl rfl au_l ?_
      refine VX.newI rfl rfl ?_
      refine VX.meek rfl ?_
      refine VX.newI rfl rfl ?_
      refine VX.meek rfl ?_
      refine VX.nil ?_
      refine VC.reg tab_ok [] rfl ?_
      iterate 3 refine VX.meek rfl ?_
      refine VX.store rfl rfl rfl rfl rfl au_s rfl ?_
      refine VX.nil ?_
      refine VC.reg tab_ok [] rfl ?_
      first | refine VX.meek rfl ?_ | refine VX.loadI rfl rfl au_l ?_ | refine VX.loadP rfl rfl rfl au_l ?_
      refine VX.meek rfl ?_
      refine VX.store rfl rfl rfl rfl rfl au_s rfl ?_
      iterate 2 refine VX.meek rfl ?_
      refine VX.nil ?_
      refine VC.ret ?_
      exact ⟨trivial, _, rfl, Cv.tup (CvL.cons (Cv.agg (CvL.eq rfl hp)) (CvL.cons (Cv.eq (by kernel_rfl) (by kernel_rfl)) (CvL.cons (Cv.pure rfl) CvL.nil)))⟩
theorem CallP.weak [Dr] {P : Program} {f : FuncId} {args : List T} {r r' : T} (h : CallP P f args r) (ha : T.pureL args = true) (hr : r'.pure = true) (hc : ∀ v, Cv v r r') : CallP P f args r' :=
  CallP.intro2 ha hr ((h.callT []).mono fun t H' ⟨h1, h2⟩ => by subst h1; exact hc _)
theorem ednew_p (c b : Nat) (hB : c * 1048576 = b) (w h : Int) (s : List UInt8) (h1 : 1 ≤ c) (h2 : c ≤ 8) (hw : 4 ≤ w ∧ w ≤ 128 ∧ 6 ≤ h ∧ h ≤ 128) (hs : s.length ≤ 4096) (hr : rightB s = true) : CallP Tryz.prog 9 [I64 c, I64 w, I64 h, strT s] (.tup [edT (newEd b w h s), rqT (newR b w h), I64 0]) := by
  have hp := ed_pure (newEd b w h s)
  have hpr := newC_pure b w h
  rw [newC_eq]
  refine (ednew0_p c b hB w h s h1 h2 hw hs hr).weak rfl (by show (T.pureL (edC (newEd b w h s)) && (T.pureL (newC b w h) && (true && true))) = true; rw [hp, hpr]; rfl) fun v => Cv.tup (CvL.cons (Cv.agg (CvL.pure hp)) (CvL.cons (Cv.islc ?_ (.inr rfl)) (CvL.cons (Cv.pure rfl) CvL.nil)))
  unfold newO newC
  exact au_fr
end
end Go.Proofs.YtofmninnienjhaaGreatDoor
