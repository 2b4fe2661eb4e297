/-
  The proof's lemmas, part 5.
-/
import Derived.Test.YtmahbhdjpielmaaGreatYpd
import Derived.PlainAid
import Derived.Test.YtmahbhdjpielmaaGreatBld
import Derived.WalkSpells
import Derived.WalkLawsBesides
import Derived.BigQuiet
import Derived.Deep.QuietTactic
import Derived.Lib.Hide
import Derived.Test.YtmahbhdjpielmaaGreatShelfI
import Derived.OpenVars
import Derived.Carry
namespace Go.Proofs.YtmahbhdjpielmaaGreat
set_option linter.unusedSimpArgs false
set_option linter.unusedVariables false
section
open Go.RowKit Go.Sort
abbrev shI : Sh := .int .i64
abbrev shU : Sh := .int .u8
abbrev shB : Sh := .int .i8
abbrev shR : Sh := .st [shI, shI, shI, shI]
theorem lit_i64 {n : Int} (h : (Lit.int .i64 n).wf = true) : i64 n := by
  simp [Lit.wf, IntKind.min, IntKind.max, IntKind.signed, IntKind.bits] at h
  unfold i64; omega
theorem lit_u8 {n : Int} (h : (Lit.int .u8 n).wf = true) : 0 ≤ n ∧ n < 256 := by
  simp [Lit.wf, IntKind.min, IntKind.max, IntKind.signed, IntKind.bits] at h
  omega
theorem lit_i8 {n : Int} (h : (Lit.int .i8 n).wf = true) : -128 ≤ n ∧ n ≤ 127 := by
  simp [Lit.wf, IntKind.min, IntKind.max, IntKind.signed, IntKind.bits] at h
  omega
theorem wt_i64 {ts : List T} (h : shI.wt ts) : ∃ n, ts = [I64 n] ∧ i64 n := by
  obtain ⟨n, rfl, hw⟩ := h
  exact ⟨n, rfl, lit_i64 hw⟩
theorem wt_u8 {ts : List T} (h : shU.wt ts) : ∃ n, ts = [U8 n] ∧ 0 ≤ n ∧ n < 256 := by
  obtain ⟨n, rfl, hw⟩ := h
  exact ⟨n, rfl, lit_u8 hw⟩
theorem wt_i8 {ts : List T} (h : shB.wt ts) : ∃ n, ts = [.v (.int .i8 n)] ∧ -128 ≤ n ∧ n ≤ 127 := by
  obtain ⟨n, rfl, hw⟩ := h
  exact ⟨n, rfl, lit_i8 hw⟩
theorem nth_dec {α : Type} (c : Cd α) {p : List T → Prop} {Q : α → Prop} (h : ∀ a, p a → ∃ x, a = c.cells x ∧ Q x) : ∀ (n : Nat) {xs : List T}, nth p n xs → ∃ l : List α, xs = encL c l ∧ l.length = n ∧ ∀ x ∈ l, Q x
  | 0, xs, k => ⟨[], k, rfl, fun _ hx => by cases hx⟩
  | n + 1, xs, ⟨a, b, e, k1, k2⟩ => by
    obtain ⟨x, rfl, hx⟩ := h a k1
    obtain ⟨l, rfl, rfl, hl⟩ := nth_dec c h n k2
    exact ⟨x :: l, e, rfl, fun y hy => by
      rcases List.mem_cons.1 hy with rfl | hy
      · exact hx
      · exact hl y hy⟩
theorem wt_sl {α : Type} (c : Cd α) {s : Sh} {Q : α → Prop} (h : ∀ a, s.wt a → ∃ x, a = c.cells x ∧ Q x) {ts : List T} (k : (Sh.sl s).wt ts) : ∃ l : List α, ts = [.islc (encL c l) l.length none] ∧ l.length ≤ maxLen ∧ ∀ x ∈ l, Q x := by
  obtain ⟨xs, n, rfl, h1, h2⟩ := k
  obtain ⟨l, rfl, rfl, hl⟩ := nth_dec c h n h2
  exact ⟨l, rfl, h1, hl⟩
def rI (r : Rect) : Prop := i64 r.X ∧ i64 r.Y ∧ i64 r.W ∧ i64 r.H
theorem wt_rect {ts : List T} (h : shR.wt ts) : ∃ r : Rect, ts = cR.cells r ∧ rI r := by
  obtain ⟨a, b, rfl, h1, c, d, rfl, h2, e, f, rfl, h3, g, k, rfl, h4, rfl⟩ := h
  obtain ⟨x, rfl, hx⟩ := wt_i64 h1
  obtain ⟨y, rfl, hy⟩ := wt_i64 h2
  obtain ⟨w, rfl, hw⟩ := wt_i64 h3
  obtain ⟨z, rfl, hz⟩ := wt_i64 h4
  exact ⟨⟨x, y, w, z⟩, rfl, hx, hy, hw, hz⟩
theorem wt_rects {ts : List T} (h : (Sh.sl shR).wt ts) : ∃ l : List Rect, ts = [.islc (encL cR l) l.length none] ∧ l.length ≤ maxLen ∧ ∀ r ∈ l, rI r := wt_sl cR (fun _ => wt_rect) h
end
section
open Go.RowKit Go.Sort
set_option maxRecDepth 10000
set_option maxHeartbeats 1000000
theorem penC_pure0 (p : PenS) : T.pureL (penC p) = true := by simp only [T.pureL, T.pure, encL_pure]; rfl
end
section
open Go.RowKit Go.Sort
set_option maxRecDepth 10000
set_option maxHeartbeats 1000000
end
section
open Go.RowKit Go.Sort
set_option maxRecDepth 10000
theorem padL_bang (P : List Int) (n j : Nat) : (padL P n)[j]! = if j < n ∧ j < P.length then P[j]! else 0 := by
  by_cases hj : j < n
  · rw [getElem!_pos (padL P n) j (by rw [padL_len]; exact hj)]
    unfold padL
    rw [List.getElem_map, List.getElem_range]
    by_cases h2 : j < P.length
    · rw [if_pos h2, if_pos ⟨hj, h2⟩]
    · rw [if_neg h2, if_neg (fun h => h2 h.2)]
  · rw [if_neg (fun h => hj h.1), List.getElem!_eq_getElem?_getD, List.getElem?_eq_none (by rw [padL_len]; omega)]; rfl
theorem padL_nil (n : Nat) : padL [] n = List.replicate n 0 := by
  refine listI_ext (by rw [padL_len, List.length_replicate]) fun i hi => ?_
  rw [padL_bang, if_neg (by simp), repl_at]
theorem take_bang {P : List Int} {i j : Nat} (h : j < i) : (P.take i)[j]! = P[j]! := by
  rw [List.getElem!_eq_getElem?_getD, List.getElem!_eq_getElem?_getD, List.getElem?_take_of_lt h]
theorem padL_set {P : List Int} {n i : Nat} (hi : i < n) (hP : i < P.length) : (padL (P.take i) n).set i P[i]! = padL (P.take (i + 1)) n := by
  refine listI_ext (by rw [List.length_set, padL_len, padL_len]) fun j hj => ?_
  rw [List.length_set, padL_len] at hj
  rw [bang_set, padL_bang, padL_bang, padL_len, List.length_take, List.length_take]
  by_cases e : i = j
  · subst e
    rw [if_pos ⟨rfl, hi⟩, if_pos ⟨hi, by omega⟩, take_bang (by omega)]
  · rw [if_neg (fun h => e h.1)]
    by_cases h : j < i
    · rw [if_pos ⟨hj, by omega⟩, if_pos ⟨hj, by omega⟩, take_bang h, take_bang (by omega)]
    · rw [if_neg (by omega), if_neg (by omega)]
end
section
open Go.RowKit Go.Sort
set_option linter.unusedVariables false
end
section
open Go.RowKit Go.Sort
set_option maxRecDepth 10000
set_option maxHeartbeats 1000000
structure PcS where
  f : Int
  pl : Int
  x : Int
  y : Int
  cl : Bool
  c : List Rect
def PcS.Ok (p : PcS) : Prop := (0 ≤ p.f ∧ p.f < 256) ∧ (0 ≤ p.pl ∧ p.pl < 256) ∧ (-128 ≤ p.x ∧ p.x ≤ 127) ∧ (-128 ≤ p.y ∧ p.y ≤ 127) ∧ ∀ s ∈ p.c, smOk s
structure AllS where
  sw : Nat
  sh : Nat
  sP : List Int
  dw : Nat
  dh : Nat
  dP : List Int
  fr : List Rect
  clip : List Rect
  s : Rect
  x : Int
  y : Int
  p : PcS
def AllS.Ok (a : AllS) : Prop := (a.sw < 256 ∧ a.sh < 256 ∧ ∀ v ∈ a.sP, 0 ≤ v ∧ v < 256) ∧ (a.dw < 256 ∧ a.dh < 256 ∧ ∀ v ∈ a.dP, 0 ≤ v ∧ v < 256) ∧ (∀ s ∈ a.fr, smOk s) ∧ (∀ s ∈ a.clip, smOk s) ∧ smOk a.s ∧ (-128 ≤ a.x ∧ a.x ≤ 127) ∧ (-128 ≤ a.y ∧ a.y ≤ 127) ∧ a.p.Ok
end
section
open Go.RowKit Go.Sort
set_option maxRecDepth 10000

end
section
open Go.RowKit
instance looseI : Dr := looseD
theorem CallP.of_calls {P : Program} {f : FuncId} {v : Value} (hgo : goB P f = true) (h : ∀ w, Calls P f #[] w (fun e w' => e = .returned v ∧ Below w.heap.size w w')) : CallP P f [] (.v v) := by
  refine ⟨rfl, rfl, hgo, fun X0 M us hS hr => ?_⟩
  obtain rfl := hr
  refine (h M.w).mono ?_
  rintro e w' ⟨rfl, hb⟩
  have hk : ∀ B, B < M.w.heap.size → w'.heap[B]? = M.w.heap[B]? := fun B hB => hb.block B hB
  have hE : Evo X0 M ⟨M.β, M.X, w'⟩ := ⟨fun _ _ h => h, fun _ _ h => h, fun B hB _ => hk B hB, fun B s hs => by
    have : B < M.w.heap.size := by
      rcases Nat.lt_or_ge B M.w.heap.size with h1 | h1
      · exact h1
      · simp [World.shape?, Array.getElem?_eq_none h1] at hs
    rw [← hs]; exact shape_block (hk B this), hb.os, ⟨hb.tape, fun d => d.elim⟩, hb.output, hb.size⟩
  exact ⟨v, .v v, [], ⟨M.β, M.X, w'⟩, rfl, rfl, rfl, hE, hS.world hE hk, rfl⟩
end
section
open Go.RowKit Go.Sort
set_option maxRecDepth 10000
def strL (s : ByteArray) : List Int := s.data.toList.map fun c => (c.toNat : Int)
theorem strL_len (s : ByteArray) : (strL s).length = s.size := by unfold strL; rw [List.length_map]; exact Array.length_toList
theorem strL_bd (s : ByteArray) : ∀ v ∈ strL s, 0 ≤ v ∧ v < 256 := fun v hv => by
  unfold strL at hv
  obtain ⟨c, -, rfl⟩ := List.mem_map.1 hv
  have := c.toNat_lt
  omega
theorem strL_enc (s : ByteArray) : s.data.toList.map (fun c => T.v (.int .u8 c.toNat)) = encL cU (strL s) := by
  unfold strL
  generalize s.data.toList = l
  induction l with
  | nil => rfl
  | cons a l ih => rw [List.map_cons, ih]; rfl
theorem encL_take_u (l : List Int) (n : Nat) : (encL cU l).take (n * 1) = encL cU (l.take n) := by
  have := encL_take cU l n
  rw [cU_sz] at this
  exact this
theorem padL_put (P : List Int) (n : Nat) : putL (encL cU (List.replicate n 0)) 0 ((encL cU P).take (min P.length n * 1)) = encL cU (padL P n) := by
  rw [encL_take_u]
  have hl : (encL cU (P.take (min P.length n))).length = min P.length n := by rw [encL_len, cU_sz, Nat.mul_one, List.length_take]; omega
  have hz : (encL cU (List.replicate n (0 : Int))).length = n := by rw [encL_len, cU_sz, Nat.mul_one, List.length_replicate]
  have e : padL P n = P.take (min P.length n) ++ List.replicate (n - min P.length n) 0 := by
    refine listI_ext (by rw [padL_len, List.length_append, List.length_take, List.length_replicate]; omega) fun i hi => ?_
    rw [padL_len] at hi
    rw [padL_bang, List.getElem!_eq_getElem?_getD (l := _ ++ _)]
    by_cases h : i < P.length
    · rw [if_pos ⟨hi, h⟩, List.getElem?_append_left (by rw [List.length_take]; omega), List.getElem?_take_of_lt (by omega), ← List.getElem!_eq_getElem?_getD]
    · rw [if_neg (fun k => h k.2), List.getElem?_append_right (by rw [List.length_take]; omega), List.getElem?_replicate]
      split <;> rfl
  rw [e, encL_append]
  unfold putL
  rw [List.take_zero, List.nil_append, Nat.zero_add, hl]
  congr 1
  have e2 := encL_drop cU (List.replicate n (0 : Int)) (min P.length n)
  rw [cU_sz, Nat.mul_one, List.drop_replicate] at e2
  exact e2
theorem VX.copyS {P : Program} {tab : Tab} {im : List Nat} {ds : List (Option Nat)} {l : List Oper} {E : Env} {H : Hp} {K : Env → Hp → Prop} {d : Option Nat} {ty : TypeId} {pos : String} {after : Array Edge} {x y : Operand} {t1 t2 : TypeId} {e b n : Nat} {i j i2 : TyI} {c : Option Nat} {s : ByteArray} (hT : tab t1 = some i) (hk : i.k = .sl e) (hj : tab e = some j) (hz : j.sz = 1) (hT2 : tab t2 = some i2) (hk2 : i2.k = .str) (hx : E.opd x = some (.slc b 0 n 1 c)) (hy : E.opd y = some (.v (.string s)))
    (hc : lookH H b = some (encL cU (List.replicate n 0))) (k : VX false P tab im ds l (putC E d (.v (.int .i64 (min s.size n : Nat)))) (setH H b (.c (encL cU (padL (strL s) n)))) K) : VX false P tab im ds (⟨d, .call ⟨.builtin .copy, #[x, y], #[t1, t2]⟩, ty, pos, after, none⟩ :: l) E H K := by
  refine VX.copy hx hy (r := .v (.int .i64 (min s.size n : Nat))) (H' := setH H b (.c (encL cU (padL (strL s) n)))) ?_ k
  have hl : (encL cU (strL s)).length = s.size := by rw [encL_len, cU_sz, Nat.mul_one, strL_len]
  have hr : (encL cU (List.replicate n (0 : Int))).length = n := by rw [encL_len, cU_sz, Nat.mul_one, List.length_replicate]
  simp only [mCopy, hT, hk, hj, srcCells, hT2, hk2, hz, if_true, hc, strL_enc]
  rw [if_pos ⟨trivial, by omega, by omega, encL_cb cU _⟩]
  have := padL_put (strL s) n
  rw [strL_len] at this
  rw [this]
abbrev gridL (W H : Nat) (B : ByteArray) : List T := [U8 W, U8 H, .v (.string B)]
theorem made_p (W H : Nat) (B : ByteArray) (hW : W < 256) (hH : H < 256) : CallP Tryz.prog 6 [.agg (gridL W H B)]
    (.tup [gT (W % 24 + 1) (H % 24 + 1) (padL (strL B) ((W % 24 + 1) * (H % 24 + 1))), I64 (W % 24 + 1 : Nat), I64 (H % 24 + 1 : Nat), .islc (encL cU (padL (strL B) ((W % 24 + 1) * (H % 24 + 1)))) ((W % 24 + 1) * (H % 24 + 1)) none]) := by
  have hwh : (W % 24 + 1) * (H % 24 + 1) ≤ 24 * 24 := Nat.mul_le_mul (by omega) (by omega)
  generalize hw : W % 24 + 1 = w at *
  generalize hh : H % 24 + 1 = h at *
  have hm : (w : Int) * (h : Int) = ((w * h : Nat) : Int) := (Int.natCast_mul w h).symm
  have hw1 : 1 ≤ w ∧ w ≤ 24 := by omega
  have hh1 : 1 ≤ h ∧ h ≤ 24 := by omega
  have hpl := padL_len (strL B) (w * h)
  have hpb := padL_bd (strL_bd B) (w * h)
  generalize hpx : padL (strL B) (w * h) = px at hpl hpb
  refine CallP.intro2 au_pu au_pu ?_
  refine CallT.intro tab_ok Tryz.func6 rfl (by kernel_rfl) (Nat.le_of_ble_eq_true rfl) ?_
  refine VC.reg tab_ok [1] rfl ?_
  refine VX.newI rfl rfl ?_
  refine VX.new rfl rfl ?_
  iterate 3 refine VX.meek rfl ?_
  refine VX.nil ?_
  refine VC.drw tab_ok [] [_, _, _, _, _, _, _, _, _, _, _, _] rfl (by kernel_rfl) (by kernel_rfl) ?_
  refine VX.meek rfl ?_
  first | refine VX.meek rfl ?_ | refine VX.loadI rfl rfl au_l ?_ | refine VX.loadP rfl rfl rfl au_l ?_
  refine VX.remU rfl rfl (by omega) (by omega) ?_
  refine VX.meek (t := I64 ((W : Int) % 24)) (by show some (T.v (.int .i64 (IntKind.i64.wrap ((W : Int) % 24))), (none : Option (Nat × List T))) = _; rw [wrap_in (by omega)]) ?_
  refine VX.add rfl rfl (by omega) ?_; rw [show (W : Int) % 24 + 1 = (w : Int) from by omega]
  refine VX.meek rfl ?_
  first | refine VX.meek rfl ?_ | refine VX.loadI rfl rfl au_l ?_ | refine VX.loadP rfl rfl rfl au_l ?_
  refine VX.remU rfl rfl (by omega) (by omega) ?_
  refine VX.meek (t := I64 ((H : Int) % 24)) (by show some (T.v (.int .i64 (IntKind.i64.wrap ((H : Int) % 24))), (none : Option (Nat × List T))) = _; rw [wrap_in (by omega)]) ?_
  refine VX.add rfl rfl (by omega) ?_; rw [show (H : Int) % 24 + 1 = (h : Int) from by omega]
  iterate 2 refine VX.meek rfl ?_
  refine VX.nil ?_
  refine VX.nil ?_
  refine VC.reg tab_ok [] rfl ?_
  iterate 2 refine VX.meek rfl ?_
  first | refine VX.mul rfl rfl (by omega) ?_ | refine VX.meek rfl ?_
  refine VX.mkS (a := w * h) (b := w * h) rfl rfl rfl rfl rfl rfl hm hm (by omega) (by omega) (by dsimp only; omega) ?_
  refine VX.meek rfl ?_
  refine VX.nil ?_
  refine VC.reg tab_ok [] rfl ?_
  iterate 2 refine VX.meek rfl ?_
  first | refine VX.meek rfl ?_ | refine VX.loadI rfl rfl au_l ?_ | refine VX.loadP rfl rfl rfl au_l ?_
  refine VX.copyS rfl rfl rfl rfl rfl rfl rfl rfl (congrArg some (zerosU _)) ?_
  refine VX.nil ?_
  refine VC.view ([(8, .islc (encL cU px) (w * h) none), (2, .ptr 0 0)]) ([.c [I64 0, I64 0, NIL]]) [6, 7] rfl (by refine ⟨[some 0], rfl, by first | trivial | decide, rfl, ?_, ?_⟩ <;> (repeat' first | exact trivial | exact CvB_n | exact CvB_d | refine CvE_app ?_ ?_ | refine CvE_cons rfl ?_ ?_ | refine CvH_cons ?_ ?_ | refine CvB_c rfl ?_ | fail) <;> first | exact au_v | (first | exact CvL.pure rfl | (rw [← hpx]; exact Cv.fslc0 ⟨rfl, by simp⟩ (CvL.pure (encL_pure cU _))))) ?_
  refine VC.reg tab_ok [] rfl ?_
  iterate 2 refine VX.meek rfl ?_
  refine VX.callP0 rfl rfl rfl (gnew_p w h 0 ⟨by omega, by omega⟩ ⟨by omega, by omega⟩) ?_
  iterate 3 refine VX.meek rfl ?_
  refine VX.new rfl rfl ?_
  refine VX.store rfl rfl rfl rfl rfl au_sR rfl ?_
  refine VX.meek rfl ?_
  refine VX.nil ?_
  refine VC.seq ?_
  refine VC.reg tab_ok [] rfl ?_
  iterate 2 refine VX.meek rfl ?_
  refine VX.nil ?_
  refine VC.cond rfl (fun hc0 => ?_) (fun hc0 => ?_)
  · exact absurd hc0 (by simp)
  · (try simp only [au_std] at hc0)
    refine VC.skip ?_
    refine VC.seq ?_
    refine VC.reg tab_ok [] rfl ?_
    iterate 3 refine VX.meek rfl ?_
    refine VX.nil ?_
    refine VC.block ?_
    refine VC.loopS (σ := Nat) (fun i => w * h - i) (fun i => i ≤ w * h) (fun i => [(45, I64 i), (2, .ptr 0 0), (9, .ptr 1 0)]) (fun i => [.c [I64 0, I64 0, NIL], .c [I64 w, I64 h, .islc (encL cU (padL (px.take i) (w * h))) (w * h) none]]) [6, 7, 8, 43, 44] rfl (0) ?_ ?_ ?_
    · refine ⟨[some 0, some 1], rfl, by first | trivial | decide, rfl, ?_, ?_⟩ <;> (repeat' first | exact trivial | exact CvB_n | exact CvB_d | refine CvE_app ?_ ?_ | refine CvE_cons rfl ?_ ?_ | refine CvH_cons ?_ ?_ | refine CvB_c rfl ?_ | fail) <;> first | exact au_v | (first | exact CvL.pure rfl | (refine cv_g (Cv.eq ?_ (encL_pure cU _)); rw [List.take_zero, padL_nil, List.length_replicate]))
    · (try dsimp only); omega
    rintro i hi
    refine VC.reg tab_ok [] rfl ?_
    refine VX.meek rfl ?_
    refine VX.nil ?_
    refine VC.seq ?_
    refine VC.cond rfl (fun hc1 => ?_) (fun hc1 => ?_)
    · (try simp only [au_std] at hc1); have hil : i < w * h := (by omega); have hpl2 := padL_len (px.take i) (w * h)
      have hxm : (i : Int) % (w : Int) = ((i % w : Nat) : Int) := (Int.natCast_emod i w).symm
      have hyd : (i : Int) / (w : Int) = ((i / w : Nat) : Int) := (Int.natCast_ediv i w).symm
      have hx1 : i % w < w := Nat.mod_lt _ (by omega)
      have hy1 : i / w < h := Nat.div_lt_of_lt_mul hil
      have hidx : ((i : Int) / (w : Int) * (w : Int) + (i : Int) % (w : Int)).toNat = i := (by rw [hxm, hyd, idx_nat, Nat.div_add_mod'])
      have hst := padL_set (P := px) hil (by omega)
      have hX : 0 ≤ (i : Int) % (w : Int) ∧ (i : Int) % (w : Int) < w := ⟨by rw [hxm]; exact Int.natCast_nonneg _, by rw [hxm]; exact Int.ofNat_lt.2 hx1⟩
      have hY : 0 ≤ (i : Int) / (w : Int) ∧ (i : Int) / (w : Int) < h := ⟨by rw [hyd]; exact Int.natCast_nonneg _, by rw [hyd]; exact Int.ofNat_lt.2 hy1⟩
      refine VC.skip ?_
      refine VC.seq ?_
      refine VC.block ?_
      refine VC.reg tab_ok [] rfl ?_
      refine VX.meek rfl ?_
      first | refine VX.idxI rfl rfl rfl rfl rfl rfl (by omega) ?_ | refine VX.idxO0 rfl rfl rfl rfl rfl rfl rfl (by omega) ?_ | refine VX.idxO0 rfl rfl rfl rfl rfl rfl au_z (by omega) ?_ | refine VX.idxO rfl rfl rfl rfl rfl rfl rfl (by omega) ?_ | refine VX.idxI rfl rfl rfl rfl rfl au_z (by omega) ?_ | refine VX.idxO rfl rfl rfl rfl rfl rfl au_z (by omega) ?_ | refine VX.meek rfl ?_
      first | refine VX.meek rfl ?_ | refine VX.loadI rfl rfl au_l ?_ | refine VX.loadP rfl rfl rfl au_l ?_
      iterate 2 refine VX.meek rfl ?_
      refine VX.nil ?_
      refine VC.drwN tab_ok [] [_, _, _, _, _, _, _, _, _] rfl (by kernel_rfl) (by kernel_rfl) ?_
      first | refine VX.meek rfl ?_ | refine VX.loadI rfl rfl au_l ?_ | refine VX.loadP rfl rfl rfl au_l ?_
      iterate 2 refine VX.meek rfl ?_
      refine VX.rem rfl rfl (by omega) (by omega) ?_
      iterate 2 refine VX.meek rfl ?_
      refine VX.quo rfl rfl (by omega) (by omega) (by omega) ?_
      refine VX.meek rfl ?_
      refine VX.callP0 rfl rfl rfl (hidx ▸ gset_n w h (padL (px.take i) (w * h)) (w * h) hpl2 ((i : Int) % (w : Int)) ((i : Int) / (w : Int)) px[i]! (by omega) (by omega) hpl2 (padL_bd (fun v hv => hpb v (List.mem_of_mem_take hv)) _) hX hY) ?_
      refine VX.nil ?_
      refine VX.store rfl rfl rfl rfl rfl au_sR rfl ?_
      refine VX.nil ?_
      refine VC.regN tab_ok [] rfl ?_
      first | refine VX.add rfl rfl (by omega) ?_ | refine VX.meek rfl ?_
      refine VX.meek rfl ?_
      refine VX.nil ?_
      refine ⟨i + 1, by (try dsimp only); omega, ?_, (by refine ⟨[some 0, some 1], rfl, by first | trivial | decide, rfl, ?_, ?_⟩ <;> (repeat' first | exact trivial | exact CvB_n | exact CvB_d | refine CvE_app ?_ ?_ | refine CvE_cons rfl ?_ ?_ | refine CvH_cons ?_ ?_ | refine CvB_c rfl ?_ | fail) <;> first | exact au_v | (first | exact CvL.pure rfl | (rw [← hst]; exact cv_g (Cv.pure (encL_pure cU _)))))⟩
      (try dsimp only); omega
    · (try simp only [au_std] at hc1); obtain rfl : i = w * h := (by omega)
      have hfin : padL (px.take (w * h)) (w * h) = px := listI_ext (by rw [padL_len, hpl]) fun j hj => by
        rw [padL_len] at hj
        rw [padL_bang, List.take_of_length_le (by omega), if_pos ⟨hj, by omega⟩]
      rw [hfin]
      have hg : gT w h px = .agg [I64 w, I64 h, .islc (encL cU px) (w * h) none] := by rw [gT, hpl]
      refine VC.exit ?_
      refine VC.reg tab_ok [] rfl ?_
      first | refine VX.meek rfl ?_ | refine VX.loadI rfl rfl au_l ?_ | refine VX.loadP rfl rfl rfl au_l ?_
      iterate 3 refine VX.meek rfl ?_
      refine VX.store rfl rfl rfl rfl rfl au_sR rfl ?_
      iterate 3 refine VX.meek rfl ?_
      refine VX.nil ?_
      refine VC.ret ?_
      exact ⟨trivial, _, rfl, Cv.tup (CvL.cons (Cv.eq hg.symm (by simp only [T.pure, T.pureL, encL_pure]; rfl)) (CvL.cons (Cv.pure rfl) (CvL.cons (Cv.pure rfl) (CvL.cons (Cv.pure (encL_pure cU _)) CvL.nil))))⟩
theorem is25_p (w h : Nat) (px : List Int) (hw : 1 ≤ w ∧ w ≤ 128) (hh : 1 ≤ h ∧ h ≤ 128) (hl : px.length = w * h) (hb : ∀ v ∈ px, 0 ≤ v ∧ v < 256) : CallP Tryz.prog 9 [gT w h px, I64 w, I64 h, .islc (encL cU px) px.length none] (BL true) := by
  have hwh : w * h ≤ 128 * 128 := Nat.mul_le_mul hw.2 hh.2
  have hm : (w : Int) * (h : Int) = ((w * h : Nat) : Int) := (Int.natCast_mul w h).symm
  refine CallP.intro2 au_pu au_pu ?_
  refine CallT.intro tab_ok Tryz.func9 rfl (by kernel_rfl) (Nat.le_of_ble_eq_true rfl) ?_
  refine VC.reg tab_ok [4] rfl ?_
  refine VX.newI rfl rfl ?_
  refine VX.meek rfl ?_
  refine VX.nil ?_
  refine VC.reg tab_ok [] rfl ?_
  first | refine VX.meek rfl ?_ | refine VX.loadI rfl rfl au_l ?_ | refine VX.loadP rfl rfl rfl au_l ?_
  refine VX.callP0 rfl rfl rfl ((show CallP Tryz.prog 18 [gT w h px] (.tup [I64 w, I64 h]) from size_p ⟨w, h, px⟩)) ?_
  iterate 5 refine VX.meek rfl ?_
  refine VX.nil ?_
  refine VC.seq ?_
  refine VC.reg tab_ok [] rfl ?_
  iterate 4 refine VX.meek rfl ?_
  refine' VX.merge (d := 25) [_, _, _, _] rfl ?_ rfl ?_
  rotate_left
  · refine VX.guard rfl rfl (fun hb2_3 => ?_) (fun hb2_3 => ?_)
    · have ghb2_3 := hb2_3
      try simp only [au_std, Bool.not_true, Bool.not_false] at ghb2_3
      refine VX.meek rfl ?_
      refine VX.guardT rfl rfl hb2_3 ?_
      refine VX.meek rfl ?_
      refine VX.guardT rfl rfl hb2_3 ?_
      refine VX.meek rfl ?_
      refine VX.pickO rfl (fun _ => rfl) ?_
      exact VX.nil ⟨rfl, rfl⟩
    · refine VX.guardF rfl rfl hb2_3 ?_
      refine VX.guardF rfl rfl hb2_3 ?_
      exact VX.pickO rfl (fun h => absurd (h.symm.trans hb2_3) (by decide)) (VX.nil ⟨rfl, rfl⟩)
  refine VX.meek rfl ?_
  refine' VX.merge (d := 33) [_, _, _, _, _, _, _] rfl ?_ rfl ?_
  rotate_left
  · refine VX.guard rfl rfl (fun hb2_8 => ?_) (fun hb2_8 => ?_)
    · have ghb2_8 := hb2_8
      try simp only [au_std, Bool.not_true, Bool.not_false] at ghb2_8
      refine VX.meek rfl ?_
      refine VX.guardT rfl rfl hb2_8 ?_
      refine VX.meek rfl ?_
      refine VX.guardT rfl rfl hb2_8 ?_
      refine VX.meek rfl ?_
      refine VX.guardT rfl rfl hb2_8 ?_
      refine VX.meek rfl ?_
      refine VX.guardT rfl rfl hb2_8 ?_
      first | refine VX.mul rfl rfl (by omega) ?_ | refine VX.meek rfl ?_
      refine VX.guardT rfl rfl hb2_8 ?_
      refine VX.meek rfl ?_
      refine VX.pickO rfl (fun _ => rfl) ?_
      exact VX.nil ⟨rfl, rfl⟩
    · refine VX.guardF rfl rfl hb2_8 ?_
      refine VX.guardF rfl rfl hb2_8 ?_
      refine VX.guardF rfl rfl hb2_8 ?_
      refine VX.guardF rfl rfl hb2_8 ?_
      refine VX.guardF rfl rfl hb2_8 ?_
      exact VX.pickO rfl (fun h => absurd (h.symm.trans hb2_8) (by decide)) (VX.nil ⟨rfl, rfl⟩)
  refine VX.nil ?_
  refine VC.cond rfl (fun hc0 => ?_) (fun hc0 => ?_)
  · exact absurd hc0 (by simp [hl])
  · (try simp only [au_std] at hc0)
    refine VC.skip ?_
    refine VC.seq ?_
    refine VC.reg tab_ok [] rfl ?_
    iterate 3 refine VX.meek rfl ?_
    refine VX.nil ?_
    refine VC.block ?_
    refine VC.loopS (σ := Nat) (fun i => px.length - i) (fun i => i ≤ px.length) (fun i => [(36, I64 i)]) (fun _ => []) [1, 4, 34, 35] rfl (0) ?_ ?_ ?_
    · refine ⟨[], rfl, by first | trivial | decide, rfl, ?_, ?_⟩ <;> (repeat' first | exact trivial | exact CvB_n | exact CvB_d | refine CvE_app ?_ ?_ | refine CvE_cons rfl ?_ ?_ | refine CvH_cons ?_ ?_ | refine CvB_c rfl ?_ | fail) <;> first | exact au_v | (skip)
    · (try dsimp only); omega
    rintro i hi
    refine VC.reg tab_ok [] rfl ?_
    refine VX.meek rfl ?_
    refine VX.nil ?_
    refine VC.seq ?_
    refine VC.cond rfl (fun hc1 => ?_) (fun hc1 => ?_)
    · (try simp only [au_std] at hc1); have hil : i < px.length := (by omega)
      have hxm : (i : Int) % (w : Int) = ((i % w : Nat) : Int) := (Int.natCast_emod i w).symm
      have hyd : (i : Int) / (w : Int) = ((i / w : Nat) : Int) := (Int.natCast_ediv i w).symm
      have hx1 : i % w < w := Nat.mod_lt _ (by omega)
      have hy1 : i / w < h := Nat.div_lt_of_lt_mul (by omega)
      have hidx : ((i : Int) / (w : Int) * (w : Int) + (i : Int) % (w : Int)).toNat = i := (by rw [hxm, hyd, idx_nat, Nat.div_add_mod'])
      have hX : 0 ≤ (i : Int) % (w : Int) ∧ (i : Int) % (w : Int) < w := ⟨by rw [hxm]; exact Int.natCast_nonneg _, by rw [hxm]; exact Int.ofNat_lt.2 hx1⟩
      have hY : 0 ≤ (i : Int) / (w : Int) ∧ (i : Int) / (w : Int) < h := ⟨by rw [hyd]; exact Int.natCast_nonneg _, by rw [hyd]; exact Int.ofNat_lt.2 hy1⟩
      have hat : atG w h px ((i : Int) % (w : Int)) ((i : Int) / (w : Int)) = px[i]! := (if_pos (inB_iff.2 ⟨hX.1, hX.2, hY.1, hY.2⟩)).trans (by rw [hidx])
      refine VC.skip ?_
      refine VC.seq ?_
      refine VC.block ?_
      refine VC.reg tab_ok [] rfl ?_
      refine VX.meek rfl ?_
      first | refine VX.idxI rfl rfl rfl rfl rfl rfl (by omega) ?_ | refine VX.idxO0 rfl rfl rfl rfl rfl rfl rfl (by omega) ?_ | refine VX.idxO0 rfl rfl rfl rfl rfl rfl au_z (by omega) ?_ | refine VX.idxO rfl rfl rfl rfl rfl rfl rfl (by omega) ?_ | refine VX.idxI rfl rfl rfl rfl rfl au_z (by omega) ?_ | refine VX.idxO rfl rfl rfl rfl rfl rfl au_z (by omega) ?_ | refine VX.meek rfl ?_
      first | refine VX.meek rfl ?_ | refine VX.loadI rfl rfl au_l ?_ | refine VX.loadP rfl rfl rfl au_l ?_
      iterate 2 refine VX.meek rfl ?_
      refine VX.nil ?_
      refine VC.drw tab_ok [] [_, _, _, _, _, _, _, _, _, _] rfl (by kernel_rfl) (by kernel_rfl) ?_
      first | refine VX.meek rfl ?_ | refine VX.loadI rfl rfl au_l ?_ | refine VX.loadP rfl rfl rfl au_l ?_
      iterate 2 refine VX.meek rfl ?_
      refine VX.rem rfl rfl (by omega) (by omega) ?_
      iterate 2 refine VX.meek rfl ?_
      refine VX.quo rfl rfl (by omega) (by omega) (by omega) ?_
      refine VX.callP0 rfl rfl rfl (hat ▸ gat_p w h px ((i : Int) % (w : Int)) ((i : Int) / (w : Int)) hw.2 hh.2 hl hb) ?_
      iterate 2 refine VX.meek rfl ?_
      refine VX.nil ?_
      refine VX.nil ?_
      refine VC.cond rfl (fun hc2 => ?_) (fun hc2 => ?_)
      · exact absurd hc2 (by simp)
      · (try simp only [au_std] at hc2)
        refine VC.skip ?_
        refine VC.regN tab_ok [] rfl ?_
        first | refine VX.add rfl rfl (by omega) ?_ | refine VX.meek rfl ?_
        refine VX.meek rfl ?_
        refine VX.nil ?_
        refine ⟨i + 1, by (try dsimp only); omega, ?_, (by refine ⟨[], rfl, by first | trivial | decide, rfl, ?_, ?_⟩ <;> (repeat' first | exact trivial | exact CvB_n | exact CvB_d | refine CvE_app ?_ ?_ | refine CvE_cons rfl ?_ ?_ | refine CvH_cons ?_ ?_ | refine CvB_c rfl ?_ | fail) <;> first | exact au_v | (fail))⟩
        (try dsimp only); omega
    · (try simp only [au_std] at hc1)
      refine VC.exit ?_
      refine VC.reg tab_ok [] rfl ?_
      refine VX.meek rfl ?_
      refine VX.nil ?_
      refine VC.ret ?_
      exact ⟨trivial, _, rfl, Cv.eq (by first | rfl | (simp [*]; done)) rfl⟩
end
section
open Go.RowKit Go.Sort
set_option maxRecDepth 10000
end
section
open Go.RowKit Go.Sort
set_option maxRecDepth 10000
def bv (b : Bool) : Int := if b = true then 1 else 0
theorem bv_and_fin : ∀ (x : Fin 256) (k : Fin 8), bitV .and .u8 ((x.val : Int).fdiv (2 ^ k.val)) 1 = bv (halve k.val (x.val : Int) % 2 == 1) := by decide +kernel
theorem bv_and {x : Int} (hx : 0 ≤ x ∧ x < 256) {k : Nat} (hk : k < 8) : bitV .and .u8 (x.fdiv (2 ^ k)) 1 = bv (halve k x % 2 == 1) := by
  obtain ⟨n, rfl⟩ := Int.eq_ofNat_of_zero_le hx.1
  exact bv_and_fin ⟨n, by omega⟩ ⟨k, hk⟩
theorem bv_op_fin : ∀ (a : Fin 16) (s d : Bool), bitV .and .i64 ((a.val : Int).fdiv (2 ^ ropPlace s d)) 1 = bv (ropDoes a.val s d) := by decide +kernel
theorem bv_op {n : Int} (h : ropKnown n = true) (s d : Bool) : bitV .and .i64 (n.fdiv (2 ^ ropPlace s d)) 1 = bv (ropFn n s d) := by
  have hn : 0 ≤ n ∧ n ≤ 15 := by have := h; unfold ropKnown at this; simp at this; exact this
  have e : ropFn n s d = ropDoes n s d := if_pos h
  rw [e]
  obtain ⟨k, rfl⟩ := Int.eq_ofNat_of_zero_le hn.1
  exact bv_op_fin ⟨k, by omega⟩ s d
theorem bv_or_fin : ∀ (k : Fin 8) (a : Fin 256) (z : Bool), a.val < 2 ^ k.val → bitV .or .u8 (a.val : Int) (bv z * 2 ^ k.val) = a.val + bv z * 2 ^ k.val := by decide +kernel
theorem bv_or {k : Nat} (hk : k < 8) {a : Int} (ha : 0 ≤ a ∧ a < 2 ^ k) (z : Bool) : bitV .or .u8 a (bv z * 2 ^ k) = a + bv z * 2 ^ k := by
  have h2 : (2 : Int) ^ k ≤ 128 := by
    have : ∀ k : Fin 8, (2 : Int) ^ k.val ≤ 128 := by decide
    exact this ⟨k, hk⟩
  obtain ⟨n, rfl⟩ := Int.eq_ofNat_of_zero_le ha.1
  refine bv_or_fin ⟨k, hk⟩ ⟨n, by omega⟩ z ?_
  have := ha.2
  exact_mod_cast this
theorem pow2_eq : ∀ k, pow2 k = 2 ^ k
  | 0 => rfl
  | k + 1 => by rw [pow2, pow2_eq k, Int.pow_succ]; omega
theorem bv_shl (z : Bool) (k : Nat) (hk : k < 8) : (if (k : Int) < 0 then none else some (T.v (.int .u8 (IntKind.u8.wrap (bv z * 2 ^ (min (k : Int).toNat 8)))))).map (fun t => (t, (none : Option (Nat × List T)))) = some (U8 (bv z * 2 ^ k), none) := by
  have : ∀ (z : Bool) (k : Fin 8), IntKind.u8.wrap (bv z * 2 ^ k.val) = bv z * 2 ^ k.val := by decide +kernel
  rw [if_neg (by omega), Int.toNat_natCast, Nat.min_eq_left (by omega), this z ⟨k, hk⟩]
  rfl
theorem shr_u8 (x : Int) (k : Nat) (hk : k < 8) : (if (k : Int) < 0 then none else some (T.v (.int .u8 (x.fdiv (2 ^ (min (k : Int).toNat 8)))))).map (fun t => (t, (none : Option (Nat × List T)))) = some (U8 (x.fdiv (2 ^ k)), none) := by
  rw [if_neg (by omega), Int.toNat_natCast, Nat.min_eq_left (by omega)]
  rfl
theorem bv_eq1 {z : Bool} : (bv z = 1) = (z = true) := by cases z <;> simp [bv]
theorem bv_eq0 {z : Bool} : (bv z = 0) = (z = false) := by cases z <;> simp [bv]
theorem mix25_p (n s d p : Int) (hn : ropKnown n = true) (hs : 0 ≤ s ∧ s < 256) (hd : 0 ≤ d ∧ d < 256) (hp : 0 ≤ p ∧ p < 256) : CallP Tryz.prog 11 [I64 n, U8 s, U8 d, U8 p] (U8 (mixI n s d p)) := by
  have e : refTo (ropFn n) s d p 8 = mixI n s d p := by
    have := refTo_eq (ropFn n) s.toNat d.toNat p.toNat (by omega) (by omega) (by omega)
    rw [Int.toNat_of_nonneg hs.1, Int.toNat_of_nonneg hd.1, Int.toNat_of_nonneg hp.1] at this
    exact this
  have hop := bv_op hn
  rw [← e]
  refine CallP.intro2 au_pu au_pu ?_
  refine CallT.intro tab_ok Tryz.func11 rfl (by kernel_rfl) (Nat.le_of_ble_eq_true rfl) ?_
  refine VC.reg tab_ok [] rfl ?_
  refine VX.meek rfl ?_
  refine VX.nil ?_
  refine VC.reg tab_ok [] rfl ?_
  refine VX.meek rfl ?_
  refine VX.nil ?_
  refine VC.seq ?_
  refine VC.reg tab_ok [] rfl ?_
  refine VX.meek rfl ?_
  refine VX.nil ?_
  refine VC.block ?_
  refine VC.loopS (σ := Nat) (fun k => 8 - k) (fun k => k ≤ 8) (fun k => [(10, I64 k), (9, U8 (refTo (ropFn n) s d p k))]) (fun _ => []) [0, 1, 2, 3] rfl (0) ?_ ?_ ?_
  · refine ⟨[], rfl, by first | trivial | decide, rfl, ?_, ?_⟩ <;> (repeat' first | exact trivial | exact CvB_n | exact CvB_d | refine CvE_app ?_ ?_ | refine CvE_cons rfl ?_ ?_ | refine CvH_cons ?_ ?_ | refine CvB_c rfl ?_ | fail) <;> first | exact au_v | (skip)
  · (try dsimp only); omega
  rintro k hk
  refine VC.seq ?_
  refine VC.reg tab_ok [] rfl ?_
  iterate 2 refine VX.meek rfl ?_
  refine VX.nil ?_
  refine VC.cond rfl (fun hc0 => ?_) (fun hc0 => ?_)
  · (try simp only [au_std] at hc0); have hkl : k < 8 := (by omega); have hrb := refTo_bd (ropFn n) s d p k hk; rw [pow2_eq] at hrb
    have hsu : refTo (ropFn n) s d p (k + 1) = refTo (ropFn n) s d p k + bv (refBitAt (ropFn n) s d p k) * 2 ^ k := (by rw [refTo, ← pow2_eq k]; cases refBitAt (ropFn n) s d p k <;> simp [bv])
    have hbs := bv_and hs hkl; have hbd := bv_and hd hkl; have hbp := bv_and hp hkl
    have hopk := hop (halve k s % 2 == 1) (halve k d % 2 == 1)
    have hvt : (halve k p % 2 == 1) = true → refBitAt (ropFn n) s d p k = ropFn n (halve k s % 2 == 1) (halve k d % 2 == 1) := fun h => if_pos h
    have hvf : (halve k p % 2 == 1) = false → refBitAt (ropFn n) s d p k = (halve k d % 2 == 1) := fun h => if_neg (by rw [h]; simp)
    generalize (halve k s % 2 == 1) = sb at *
    generalize (halve k d % 2 == 1) = db at *
    generalize (halve k p % 2 == 1) = pb at *
    generalize refBitAt (ropFn n) s d p k = vb at *
    refine VC.skip ?_
    refine VC.seq ?_
    refine VC.block ?_
    refine VC.drw tab_ok [] [_, _, _, _, _, _, _, _, _, _] rfl (by kernel_rfl) (by kernel_rfl) ?_
    iterate 2 refine VX.meek rfl ?_
    refine VX.meek (t := U8 (s.fdiv (2 ^ k))) (shr_u8 s k hkl) ?_
    refine VX.meek (t := U8 (bv sb)) (by show some (T.v (.int .u8 (bitV .and .u8 (s.fdiv (2 ^ k)) 1)), (none : Option (Nat × List T))) = _; rw [hbs]) ?_
    iterate 2 refine VX.meek rfl ?_
    refine VX.meek (t := U8 (d.fdiv (2 ^ k))) (shr_u8 d k hkl) ?_
    refine VX.meek (t := U8 (bv db)) (by show some (T.v (.int .u8 (bitV .and .u8 (d.fdiv (2 ^ k)) 1)), (none : Option (Nat × List T))) = _; rw [hbd]) ?_
    iterate 2 refine VX.meek rfl ?_
    refine VX.nil ?_
    refine VX.nil ?_
    refine VC.reg tab_ok [] rfl ?_
    refine VX.meek rfl ?_
    refine VX.nil ?_
    refine VC.seq ?_
    refine VC.reg tab_ok [] rfl ?_
    iterate 3 refine VX.meek rfl ?_
    refine' VX.merge (d := 32) [_, _, _] rfl ?_ rfl ?_
    rotate_left
    · refine VX.guard rfl rfl (fun hb7_2 => ?_) (fun hb7_2 => ?_)
      · have ghb7_2 := hb7_2
        try simp only [au_std, Bool.not_true, Bool.not_false] at ghb7_2
        refine VX.meek rfl ?_
        refine VX.guardT rfl rfl hb7_2 ?_
        refine VX.meek rfl ?_
        refine VX.pickA rfl (fun _ => rfl) ?_
        exact VX.nil ⟨rfl, rfl⟩
      · refine VX.guardF rfl rfl hb7_2 ?_
        exact VX.pickA rfl (fun h => absurd (h.symm.trans hb7_2) (by decide)) (VX.nil ⟨rfl, rfl⟩)
    refine VX.nil ?_
    refine VC.cond rfl (fun hc1 => ?_) (fun hc1 => ?_)
    · (try simp only [au_std, bv_eq1, bv_eq0] at hc1)
      refine VC.regN tab_ok [] rfl ?_
      refine VX.meek rfl ?_
      refine VX.nil ?_
      refine VC.seq ?_
      refine VC.reg tab_ok [] rfl ?_
      iterate 3 refine VX.meek rfl ?_
      refine' VX.merge (d := 38) [_, _, _] rfl ?_ rfl ?_
      rotate_left
      · refine VX.guard rfl rfl (fun hb9_2 => ?_) (fun hb9_2 => ?_)
        · have ghb9_2 := hb9_2
          try simp only [au_std, Bool.not_true, Bool.not_false] at ghb9_2
          refine VX.meek rfl ?_
          refine VX.guardT rfl rfl hb9_2 ?_
          refine VX.meek rfl ?_
          refine VX.pickA rfl (fun _ => rfl) ?_
          exact VX.nil ⟨rfl, rfl⟩
        · refine VX.guardF rfl rfl hb9_2 ?_
          exact VX.pickA rfl (fun h => absurd (h.symm.trans hb9_2) (by decide)) (VX.nil ⟨rfl, rfl⟩)
      refine VX.nil ?_
      refine VC.cond rfl (fun hc2 => ?_) (fun hc2 => ?_)
      · (try simp only [au_std, bv_eq1, bv_eq0] at hc2)
        refine VC.regN tab_ok [] rfl ?_
        refine VX.meek rfl ?_
        refine VX.nil ?_
        refine VC.seq ?_
        refine VC.reg tab_ok [] rfl ?_
        iterate 3 refine VX.meek rfl ?_
        refine' VX.merge (d := 44) [_, _, _] rfl ?_ rfl ?_
        rotate_left
        · refine VX.guard rfl rfl (fun hb11_2 => ?_) (fun hb11_2 => ?_)
          · have ghb11_2 := hb11_2
            try simp only [au_std, Bool.not_true, Bool.not_false] at ghb11_2
            refine VX.meek rfl ?_
            refine VX.guardT rfl rfl hb11_2 ?_
            refine VX.meek rfl ?_
            refine VX.pickA rfl (fun _ => rfl) ?_
            exact VX.nil ⟨rfl, rfl⟩
          · refine VX.guardF rfl rfl hb11_2 ?_
            exact VX.pickA rfl (fun h => absurd (h.symm.trans hb11_2) (by decide)) (VX.nil ⟨rfl, rfl⟩)
        refine VX.nil ?_
        refine VC.cond rfl (fun hc3 => ?_) (fun hc3 => ?_)
        · (try simp only [au_std, bv_eq1, bv_eq0] at hc3)
          refine VC.regN tab_ok [] rfl ?_
          refine VX.meek rfl ?_
          refine VX.nil ?_
          refine VC.reg tab_ok [] rfl ?_
          iterate 2 refine VX.meek rfl ?_
          refine VX.meek (t := I64 (n.fdiv (2 ^ ropPlace sb db))) (by first | (rw [show ropPlace sb db = 0 from by revert hc1 hc2 hc3; cases sb <;> cases db <;> simp [ropPlace]]; rfl) | (rw [show ropPlace sb db = 1 from by revert hc1 hc2 hc3; cases sb <;> cases db <;> simp [ropPlace]]; rfl) | (rw [show ropPlace sb db = 2 from by revert hc1 hc2 hc3; cases sb <;> cases db <;> simp [ropPlace]]; rfl) | (rw [show ropPlace sb db = 3 from by revert hc1 hc2 hc3; cases sb <;> cases db <;> simp [ropPlace]]; rfl)) ?_
          refine VX.meek (t := I64 (bv (ropFn n sb db))) (by show some (T.v (.int .i64 (bitV .and .i64 (n.fdiv (2 ^ ropPlace sb db)) 1)), (none : Option (Nat × List T))) = _; rw [hopk]) ?_
          refine VX.meek (t := U8 (bv (ropFn n sb db))) (by show some (T.v (.int .u8 (IntKind.u8.wrap (bv (ropFn n sb db)))), (none : Option (Nat × List T))) = _; generalize ropFn n sb db = z; cases z <;> rfl) ?_
          refine VX.meek rfl ?_
          refine VX.nil ?_
          refine VC.seq ?_
          refine VC.reg tab_ok [] rfl ?_
          iterate 2 refine VX.meek rfl ?_
          refine VX.meek (t := U8 (p.fdiv (2 ^ k))) (shr_u8 p k hkl) ?_
          refine VX.meek (t := U8 (bv pb)) (by show some (T.v (.int .u8 (bitV .and .u8 (p.fdiv (2 ^ k)) 1)), (none : Option (Nat × List T))) = _; rw [hbp]) ?_
          refine VX.meek rfl ?_
          refine VX.nil ?_
          refine VC.cond rfl (fun hc4 => ?_) (fun hc4 => ?_)
          · (try simp only [au_std, bv_eq1, bv_eq0] at hc4); have hv := hvf hc4
            refine VC.regN tab_ok [] rfl ?_
            iterate 2 refine VX.meek rfl ?_
            refine VX.nil ?_
            refine VC.regN tab_ok [] rfl ?_
            iterate 3 refine VX.meek rfl ?_
            refine VX.meek (t := U8 (bv vb * 2 ^ k)) (by rw [hv]; exact bv_shl _ k hkl) ?_
            refine VX.meek (t := U8 (refTo (ropFn n) s d p (k + 1))) (by show some (T.v (.int .u8 (bitV .or .u8 (refTo (ropFn n) s d p k) (bv vb * 2 ^ k))), (none : Option (Nat × List T))) = _; rw [bv_or hkl hrb vb, hsu]) ?_
            refine VX.meek rfl ?_
            refine VX.nil ?_
            refine VC.regN tab_ok [] rfl ?_
            refine VX.meek rfl ?_
            first | refine VX.add rfl rfl (by omega) ?_ | refine VX.meek rfl ?_
            refine VX.meek rfl ?_
            refine VX.nil ?_
            refine ⟨k + 1, by (try dsimp only); omega, ?_, (by refine ⟨[], rfl, by first | trivial | decide, rfl, ?_, ?_⟩ <;> (repeat' first | exact trivial | exact CvB_n | exact CvB_d | refine CvE_app ?_ ?_ | refine CvE_cons rfl ?_ ?_ | refine CvH_cons ?_ ?_ | refine CvB_c rfl ?_ | fail) <;> first | exact au_v | (exact Cv.pure rfl))⟩
            (try dsimp only); omega
          · (try simp only [au_std, bv_eq1, bv_eq0] at hc4); have hv := hvt (by simpa using hc4)
            refine VC.skip ?_
            refine VC.regN tab_ok [] rfl ?_
            iterate 3 refine VX.meek rfl ?_
            refine VX.meek (t := U8 (bv vb * 2 ^ k)) (by rw [hv]; exact bv_shl _ k hkl) ?_
            refine VX.meek (t := U8 (refTo (ropFn n) s d p (k + 1))) (by show some (T.v (.int .u8 (bitV .or .u8 (refTo (ropFn n) s d p k) (bv vb * 2 ^ k))), (none : Option (Nat × List T))) = _; rw [bv_or hkl hrb vb, hsu]) ?_
            refine VX.meek rfl ?_
            refine VX.nil ?_
            refine VC.regN tab_ok [] rfl ?_
            refine VX.meek rfl ?_
            first | refine VX.add rfl rfl (by omega) ?_ | refine VX.meek rfl ?_
            refine VX.meek rfl ?_
            refine VX.nil ?_
            refine ⟨k + 1, by (try dsimp only); omega, ?_, (by refine ⟨[], rfl, by first | trivial | decide, rfl, ?_, ?_⟩ <;> (repeat' first | exact trivial | exact CvB_n | exact CvB_d | refine CvE_app ?_ ?_ | refine CvE_cons rfl ?_ ?_ | refine CvH_cons ?_ ?_ | refine CvB_c rfl ?_ | fail) <;> first | exact au_v | (exact Cv.pure rfl))⟩
            (try dsimp only); omega
        · (try simp only [au_std, bv_eq1, bv_eq0] at hc3)
          refine VC.skip ?_
          refine VC.reg tab_ok [] rfl ?_
          iterate 2 refine VX.meek rfl ?_
          refine VX.meek (t := I64 (n.fdiv (2 ^ ropPlace sb db))) (by first | (rw [show ropPlace sb db = 0 from by revert hc1 hc2 hc3; cases sb <;> cases db <;> simp [ropPlace]]; rfl) | (rw [show ropPlace sb db = 1 from by revert hc1 hc2 hc3; cases sb <;> cases db <;> simp [ropPlace]]; rfl) | (rw [show ropPlace sb db = 2 from by revert hc1 hc2 hc3; cases sb <;> cases db <;> simp [ropPlace]]; rfl) | (rw [show ropPlace sb db = 3 from by revert hc1 hc2 hc3; cases sb <;> cases db <;> simp [ropPlace]]; rfl)) ?_
          refine VX.meek (t := I64 (bv (ropFn n sb db))) (by show some (T.v (.int .i64 (bitV .and .i64 (n.fdiv (2 ^ ropPlace sb db)) 1)), (none : Option (Nat × List T))) = _; rw [hopk]) ?_
          refine VX.meek (t := U8 (bv (ropFn n sb db))) (by show some (T.v (.int .u8 (IntKind.u8.wrap (bv (ropFn n sb db)))), (none : Option (Nat × List T))) = _; generalize ropFn n sb db = z; cases z <;> rfl) ?_
          refine VX.meek rfl ?_
          refine VX.nil ?_
          refine VC.seq ?_
          refine VC.reg tab_ok [] rfl ?_
          iterate 2 refine VX.meek rfl ?_
          refine VX.meek (t := U8 (p.fdiv (2 ^ k))) (shr_u8 p k hkl) ?_
          refine VX.meek (t := U8 (bv pb)) (by show some (T.v (.int .u8 (bitV .and .u8 (p.fdiv (2 ^ k)) 1)), (none : Option (Nat × List T))) = _; rw [hbp]) ?_
          refine VX.meek rfl ?_
          refine VX.nil ?_
          refine VC.cond rfl (fun hc4 => ?_) (fun hc4 => ?_)
          · (try simp only [au_std, bv_eq1, bv_eq0] at hc4); have hv := hvf hc4
            refine VC.regN tab_ok [] rfl ?_
            iterate 2 refine VX.meek rfl ?_
            refine VX.nil ?_
            refine VC.regN tab_ok [] rfl ?_
            iterate 3 refine VX.meek rfl ?_
            refine VX.meek (t := U8 (bv vb * 2 ^ k)) (by rw [hv]; exact bv_shl _ k hkl) ?_
            refine VX.meek (t := U8 (refTo (ropFn n) s d p (k + 1))) (by show some (T.v (.int .u8 (bitV .or .u8 (refTo (ropFn n) s d p k) (bv vb * 2 ^ k))), (none : Option (Nat × List T))) = _; rw [bv_or hkl hrb vb, hsu]) ?_
            refine VX.meek rfl ?_
            refine VX.nil ?_
            refine VC.regN tab_ok [] rfl ?_
            refine VX.meek rfl ?_
            first | refine VX.add rfl rfl (by omega) ?_ | refine VX.meek rfl ?_
            refine VX.meek rfl ?_
            refine VX.nil ?_
            refine ⟨k + 1, by (try dsimp only); omega, ?_, (by refine ⟨[], rfl, by first | trivial | decide, rfl, ?_, ?_⟩ <;> (repeat' first | exact trivial | exact CvB_n | exact CvB_d | refine CvE_app ?_ ?_ | refine CvE_cons rfl ?_ ?_ | refine CvH_cons ?_ ?_ | refine CvB_c rfl ?_ | fail) <;> first | exact au_v | (exact Cv.pure rfl))⟩
            (try dsimp only); omega
          · (try simp only [au_std, bv_eq1, bv_eq0] at hc4); have hv := hvt (by simpa using hc4)
            refine VC.skip ?_
            refine VC.regN tab_ok [] rfl ?_
            iterate 3 refine VX.meek rfl ?_
            refine VX.meek (t := U8 (bv vb * 2 ^ k)) (by rw [hv]; exact bv_shl _ k hkl) ?_
            refine VX.meek (t := U8 (refTo (ropFn n) s d p (k + 1))) (by show some (T.v (.int .u8 (bitV .or .u8 (refTo (ropFn n) s d p k) (bv vb * 2 ^ k))), (none : Option (Nat × List T))) = _; rw [bv_or hkl hrb vb, hsu]) ?_
            refine VX.meek rfl ?_
            refine VX.nil ?_
            refine VC.regN tab_ok [] rfl ?_
            refine VX.meek rfl ?_
            first | refine VX.add rfl rfl (by omega) ?_ | refine VX.meek rfl ?_
            refine VX.meek rfl ?_
            refine VX.nil ?_
            refine ⟨k + 1, by (try dsimp only); omega, ?_, (by refine ⟨[], rfl, by first | trivial | decide, rfl, ?_, ?_⟩ <;> (repeat' first | exact trivial | exact CvB_n | exact CvB_d | refine CvE_app ?_ ?_ | refine CvE_cons rfl ?_ ?_ | refine CvH_cons ?_ ?_ | refine CvB_c rfl ?_ | fail) <;> first | exact au_v | (exact Cv.pure rfl))⟩
            (try dsimp only); omega
      · (try simp only [au_std, bv_eq1, bv_eq0] at hc2)
        refine VC.skip ?_
        refine VC.seq ?_
        refine VC.reg tab_ok [] rfl ?_
        iterate 3 refine VX.meek rfl ?_
        refine' VX.merge (d := 44) [_, _, _] rfl ?_ rfl ?_
        rotate_left
        · refine VX.guard rfl rfl (fun hb11_2 => ?_) (fun hb11_2 => ?_)
          · have ghb11_2 := hb11_2
            try simp only [au_std, Bool.not_true, Bool.not_false] at ghb11_2
            refine VX.meek rfl ?_
            refine VX.guardT rfl rfl hb11_2 ?_
            refine VX.meek rfl ?_
            refine VX.pickA rfl (fun _ => rfl) ?_
            exact VX.nil ⟨rfl, rfl⟩
          · refine VX.guardF rfl rfl hb11_2 ?_
            exact VX.pickA rfl (fun h => absurd (h.symm.trans hb11_2) (by decide)) (VX.nil ⟨rfl, rfl⟩)
        refine VX.nil ?_
        refine VC.cond rfl (fun hc3 => ?_) (fun hc3 => ?_)
        · (try simp only [au_std, bv_eq1, bv_eq0] at hc3)
          refine VC.regN tab_ok [] rfl ?_
          refine VX.meek rfl ?_
          refine VX.nil ?_
          refine VC.reg tab_ok [] rfl ?_
          iterate 2 refine VX.meek rfl ?_
          refine VX.meek (t := I64 (n.fdiv (2 ^ ropPlace sb db))) (by first | (rw [show ropPlace sb db = 0 from by revert hc1 hc2 hc3; cases sb <;> cases db <;> simp [ropPlace]]; rfl) | (rw [show ropPlace sb db = 1 from by revert hc1 hc2 hc3; cases sb <;> cases db <;> simp [ropPlace]]; rfl) | (rw [show ropPlace sb db = 2 from by revert hc1 hc2 hc3; cases sb <;> cases db <;> simp [ropPlace]]; rfl) | (rw [show ropPlace sb db = 3 from by revert hc1 hc2 hc3; cases sb <;> cases db <;> simp [ropPlace]]; rfl)) ?_
          refine VX.meek (t := I64 (bv (ropFn n sb db))) (by show some (T.v (.int .i64 (bitV .and .i64 (n.fdiv (2 ^ ropPlace sb db)) 1)), (none : Option (Nat × List T))) = _; rw [hopk]) ?_
          refine VX.meek (t := U8 (bv (ropFn n sb db))) (by show some (T.v (.int .u8 (IntKind.u8.wrap (bv (ropFn n sb db)))), (none : Option (Nat × List T))) = _; generalize ropFn n sb db = z; cases z <;> rfl) ?_
          refine VX.meek rfl ?_
          refine VX.nil ?_
          refine VC.seq ?_
          refine VC.reg tab_ok [] rfl ?_
          iterate 2 refine VX.meek rfl ?_
          refine VX.meek (t := U8 (p.fdiv (2 ^ k))) (shr_u8 p k hkl) ?_
          refine VX.meek (t := U8 (bv pb)) (by show some (T.v (.int .u8 (bitV .and .u8 (p.fdiv (2 ^ k)) 1)), (none : Option (Nat × List T))) = _; rw [hbp]) ?_
          refine VX.meek rfl ?_
          refine VX.nil ?_
          refine VC.cond rfl (fun hc4 => ?_) (fun hc4 => ?_)
          · (try simp only [au_std, bv_eq1, bv_eq0] at hc4); have hv := hvf hc4
            refine VC.regN tab_ok [] rfl ?_
            iterate 2 refine VX.meek rfl ?_
            refine VX.nil ?_
            refine VC.regN tab_ok [] rfl ?_
            iterate 3 refine VX.meek rfl ?_
            refine VX.meek (t := U8 (bv vb * 2 ^ k)) (by rw [hv]; exact bv_shl _ k hkl) ?_
            refine VX.meek (t := U8 (refTo (ropFn n) s d p (k + 1))) (by show some (T.v (.int .u8 (bitV .or .u8 (refTo (ropFn n) s d p k) (bv vb * 2 ^ k))), (none : Option (Nat × List T))) = _; rw [bv_or hkl hrb vb, hsu]) ?_
            refine VX.meek rfl ?_
            refine VX.nil ?_
            refine VC.regN tab_ok [] rfl ?_
            refine VX.meek rfl ?_
            first | refine VX.add rfl rfl (by omega) ?_ | refine VX.meek rfl ?_
            refine VX.meek rfl ?_
            refine VX.nil ?_
            refine ⟨k + 1, by (try dsimp only); omega, ?_, (by refine ⟨[], rfl, by first | trivial | decide, rfl, ?_, ?_⟩ <;> (repeat' first | exact trivial | exact CvB_n | exact CvB_d | refine CvE_app ?_ ?_ | refine CvE_cons rfl ?_ ?_ | refine CvH_cons ?_ ?_ | refine CvB_c rfl ?_ | fail) <;> first | exact au_v | (exact Cv.pure rfl))⟩
            (try dsimp only); omega
          · (try simp only [au_std, bv_eq1, bv_eq0] at hc4); have hv := hvt (by simpa using hc4)
            refine VC.skip ?_
            refine VC.regN tab_ok [] rfl ?_
            iterate 3 refine VX.meek rfl ?_
            refine VX.meek (t := U8 (bv vb * 2 ^ k)) (by rw [hv]; exact bv_shl _ k hkl) ?_
            refine VX.meek (t := U8 (refTo (ropFn n) s d p (k + 1))) (by show some (T.v (.int .u8 (bitV .or .u8 (refTo (ropFn n) s d p k) (bv vb * 2 ^ k))), (none : Option (Nat × List T))) = _; rw [bv_or hkl hrb vb, hsu]) ?_
            refine VX.meek rfl ?_
            refine VX.nil ?_
            refine VC.regN tab_ok [] rfl ?_
            refine VX.meek rfl ?_
            first | refine VX.add rfl rfl (by omega) ?_ | refine VX.meek rfl ?_
            refine VX.meek rfl ?_
            refine VX.nil ?_
            refine ⟨k + 1, by (try dsimp only); omega, ?_, (by refine ⟨[], rfl, by first | trivial | decide, rfl, ?_, ?_⟩ <;> (repeat' first | exact trivial | exact CvB_n | exact CvB_d | refine CvE_app ?_ ?_ | refine CvE_cons rfl ?_ ?_ | refine CvH_cons ?_ ?_ | refine CvB_c rfl ?_ | fail) <;> first | exact au_v | (exact Cv.pure rfl))⟩
            (try dsimp only); omega
        · (try simp only [au_std, bv_eq1, bv_eq0] at hc3)
          refine VC.skip ?_
          refine VC.reg tab_ok [] rfl ?_
          iterate 2 refine VX.meek rfl ?_
          refine VX.meek (t := I64 (n.fdiv (2 ^ ropPlace sb db))) (by first | (rw [show ropPlace sb db = 0 from by revert hc1 hc2 hc3; cases sb <;> cases db <;> simp [ropPlace]]; rfl) | (rw [show ropPlace sb db = 1 from by revert hc1 hc2 hc3; cases sb <;> cases db <;> simp [ropPlace]]; rfl) | (rw [show ropPlace sb db = 2 from by revert hc1 hc2 hc3; cases sb <;> cases db <;> simp [ropPlace]]; rfl) | (rw [show ropPlace sb db = 3 from by revert hc1 hc2 hc3; cases sb <;> cases db <;> simp [ropPlace]]; rfl)) ?_
          refine VX.meek (t := I64 (bv (ropFn n sb db))) (by show some (T.v (.int .i64 (bitV .and .i64 (n.fdiv (2 ^ ropPlace sb db)) 1)), (none : Option (Nat × List T))) = _; rw [hopk]) ?_
          refine VX.meek (t := U8 (bv (ropFn n sb db))) (by show some (T.v (.int .u8 (IntKind.u8.wrap (bv (ropFn n sb db)))), (none : Option (Nat × List T))) = _; generalize ropFn n sb db = z; cases z <;> rfl) ?_
          refine VX.meek rfl ?_
          refine VX.nil ?_
          refine VC.seq ?_
          refine VC.reg tab_ok [] rfl ?_
          iterate 2 refine VX.meek rfl ?_
          refine VX.meek (t := U8 (p.fdiv (2 ^ k))) (shr_u8 p k hkl) ?_
          refine VX.meek (t := U8 (bv pb)) (by show some (T.v (.int .u8 (bitV .and .u8 (p.fdiv (2 ^ k)) 1)), (none : Option (Nat × List T))) = _; rw [hbp]) ?_
          refine VX.meek rfl ?_
          refine VX.nil ?_
          refine VC.cond rfl (fun hc4 => ?_) (fun hc4 => ?_)
          · (try simp only [au_std, bv_eq1, bv_eq0] at hc4); have hv := hvf hc4
            refine VC.regN tab_ok [] rfl ?_
            iterate 2 refine VX.meek rfl ?_
            refine VX.nil ?_
            refine VC.regN tab_ok [] rfl ?_
            iterate 3 refine VX.meek rfl ?_
            refine VX.meek (t := U8 (bv vb * 2 ^ k)) (by rw [hv]; exact bv_shl _ k hkl) ?_
            refine VX.meek (t := U8 (refTo (ropFn n) s d p (k + 1))) (by show some (T.v (.int .u8 (bitV .or .u8 (refTo (ropFn n) s d p k) (bv vb * 2 ^ k))), (none : Option (Nat × List T))) = _; rw [bv_or hkl hrb vb, hsu]) ?_
            refine VX.meek rfl ?_
            refine VX.nil ?_
            refine VC.regN tab_ok [] rfl ?_
            refine VX.meek rfl ?_
            first | refine VX.add rfl rfl (by omega) ?_ | refine VX.meek rfl ?_
            refine VX.meek rfl ?_
            refine VX.nil ?_
            refine ⟨k + 1, by (try dsimp only); omega, ?_, (by refine ⟨[], rfl, by first | trivial | decide, rfl, ?_, ?_⟩ <;> (repeat' first | exact trivial | exact CvB_n | exact CvB_d | refine CvE_app ?_ ?_ | refine CvE_cons rfl ?_ ?_ | refine CvH_cons ?_ ?_ | refine CvB_c rfl ?_ | fail) <;> first | exact au_v | (exact Cv.pure rfl))⟩
            (try dsimp only); omega
          · (try simp only [au_std, bv_eq1, bv_eq0] at hc4); have hv := hvt (by simpa using hc4)
            refine VC.skip ?_
            refine VC.regN tab_ok [] rfl ?_
            iterate 3 refine VX.meek rfl ?_
            refine VX.meek (t := U8 (bv vb * 2 ^ k)) (by rw [hv]; exact bv_shl _ k hkl) ?_
            refine VX.meek (t := U8 (refTo (ropFn n) s d p (k + 1))) (by show some (T.v (.int .u8 (bitV .or .u8 (refTo (ropFn n) s d p k) (bv vb * 2 ^ k))), (none : Option (Nat × List T))) = _; rw [bv_or hkl hrb vb, hsu]) ?_
            refine VX.meek rfl ?_
            refine VX.nil ?_
            refine VC.regN tab_ok [] rfl ?_
            refine VX.meek rfl ?_
            first | refine VX.add rfl rfl (by omega) ?_ | refine VX.meek rfl ?_
            refine VX.meek rfl ?_
            refine VX.nil ?_
            refine ⟨k + 1, by (try dsimp only); omega, ?_, (by refine ⟨[], rfl, by first | trivial | decide, rfl, ?_, ?_⟩ <;> (repeat' first | exact trivial | exact CvB_n | exact CvB_d | refine CvE_app ?_ ?_ | refine CvE_cons rfl ?_ ?_ | refine CvH_cons ?_ ?_ | refine CvB_c rfl ?_ | fail) <;> first | exact au_v | (exact Cv.pure rfl))⟩
            (try dsimp only); omega
    · (try simp only [au_std, bv_eq1, bv_eq0] at hc1)
      refine VC.skip ?_
      refine VC.seq ?_
      refine VC.reg tab_ok [] rfl ?_
      iterate 3 refine VX.meek rfl ?_
      refine' VX.merge (d := 38) [_, _, _] rfl ?_ rfl ?_
      rotate_left
      · refine VX.guard rfl rfl (fun hb9_2 => ?_) (fun hb9_2 => ?_)
        · have ghb9_2 := hb9_2
          try simp only [au_std, Bool.not_true, Bool.not_false] at ghb9_2
          refine VX.meek rfl ?_
          refine VX.guardT rfl rfl hb9_2 ?_
          refine VX.meek rfl ?_
          refine VX.pickA rfl (fun _ => rfl) ?_
          exact VX.nil ⟨rfl, rfl⟩
        · refine VX.guardF rfl rfl hb9_2 ?_
          exact VX.pickA rfl (fun h => absurd (h.symm.trans hb9_2) (by decide)) (VX.nil ⟨rfl, rfl⟩)
      refine VX.nil ?_
      refine VC.cond rfl (fun hc2 => ?_) (fun hc2 => ?_)
      · (try simp only [au_std, bv_eq1, bv_eq0] at hc2)
        refine VC.regN tab_ok [] rfl ?_
        refine VX.meek rfl ?_
        refine VX.nil ?_
        refine VC.seq ?_
        refine VC.reg tab_ok [] rfl ?_
        iterate 3 refine VX.meek rfl ?_
        refine' VX.merge (d := 44) [_, _, _] rfl ?_ rfl ?_
        rotate_left
        · refine VX.guard rfl rfl (fun hb11_2 => ?_) (fun hb11_2 => ?_)
          · have ghb11_2 := hb11_2
            try simp only [au_std, Bool.not_true, Bool.not_false] at ghb11_2
            refine VX.meek rfl ?_
            refine VX.guardT rfl rfl hb11_2 ?_
            refine VX.meek rfl ?_
            refine VX.pickA rfl (fun _ => rfl) ?_
            exact VX.nil ⟨rfl, rfl⟩
          · refine VX.guardF rfl rfl hb11_2 ?_
            exact VX.pickA rfl (fun h => absurd (h.symm.trans hb11_2) (by decide)) (VX.nil ⟨rfl, rfl⟩)
        refine VX.nil ?_
        refine VC.cond rfl (fun hc3 => ?_) (fun hc3 => ?_)
        · (try simp only [au_std, bv_eq1, bv_eq0] at hc3)
          refine VC.regN tab_ok [] rfl ?_
          refine VX.meek rfl ?_
          refine VX.nil ?_
          refine VC.reg tab_ok [] rfl ?_
          iterate 2 refine VX.meek rfl ?_
          refine VX.meek (t := I64 (n.fdiv (2 ^ ropPlace sb db))) (by first | (rw [show ropPlace sb db = 0 from by revert hc1 hc2 hc3; cases sb <;> cases db <;> simp [ropPlace]]; rfl) | (rw [show ropPlace sb db = 1 from by revert hc1 hc2 hc3; cases sb <;> cases db <;> simp [ropPlace]]; rfl) | (rw [show ropPlace sb db = 2 from by revert hc1 hc2 hc3; cases sb <;> cases db <;> simp [ropPlace]]; rfl) | (rw [show ropPlace sb db = 3 from by revert hc1 hc2 hc3; cases sb <;> cases db <;> simp [ropPlace]]; rfl)) ?_
          refine VX.meek (t := I64 (bv (ropFn n sb db))) (by show some (T.v (.int .i64 (bitV .and .i64 (n.fdiv (2 ^ ropPlace sb db)) 1)), (none : Option (Nat × List T))) = _; rw [hopk]) ?_
          refine VX.meek (t := U8 (bv (ropFn n sb db))) (by show some (T.v (.int .u8 (IntKind.u8.wrap (bv (ropFn n sb db)))), (none : Option (Nat × List T))) = _; generalize ropFn n sb db = z; cases z <;> rfl) ?_
          refine VX.meek rfl ?_
          refine VX.nil ?_
          refine VC.seq ?_
          refine VC.reg tab_ok [] rfl ?_
          iterate 2 refine VX.meek rfl ?_
          refine VX.meek (t := U8 (p.fdiv (2 ^ k))) (shr_u8 p k hkl) ?_
          refine VX.meek (t := U8 (bv pb)) (by show some (T.v (.int .u8 (bitV .and .u8 (p.fdiv (2 ^ k)) 1)), (none : Option (Nat × List T))) = _; rw [hbp]) ?_
          refine VX.meek rfl ?_
          refine VX.nil ?_
          refine VC.cond rfl (fun hc4 => ?_) (fun hc4 => ?_)
          · (try simp only [au_std, bv_eq1, bv_eq0] at hc4); have hv := hvf hc4
            refine VC.regN tab_ok [] rfl ?_
            iterate 2 refine VX.meek rfl ?_
            refine VX.nil ?_
            refine VC.regN tab_ok [] rfl ?_
            iterate 3 refine VX.meek rfl ?_
            refine VX.meek (t := U8 (bv vb * 2 ^ k)) (by rw [hv]; exact bv_shl _ k hkl) ?_
            refine VX.meek (t := U8 (refTo (ropFn n) s d p (k + 1))) (by show some (T.v (.int .u8 (bitV .or .u8 (refTo (ropFn n) s d p k) (bv vb * 2 ^ k))), (none : Option (Nat × List T))) = _; rw [bv_or hkl hrb vb, hsu]) ?_
            refine VX.meek rfl ?_
            refine VX.nil ?_
            refine VC.regN tab_ok [] rfl ?_
            refine VX.meek rfl ?_
            first | refine VX.add rfl rfl (by omega) ?_ | refine VX.meek rfl ?_
            refine VX.meek rfl ?_
            refine VX.nil ?_
            refine ⟨k + 1, by (try dsimp only); omega, ?_, (by refine ⟨[], rfl, by first | trivial | decide, rfl, ?_, ?_⟩ <;> (repeat' first | exact trivial | exact CvB_n | exact CvB_d | refine CvE_app ?_ ?_ | refine CvE_cons rfl ?_ ?_ | refine CvH_cons ?_ ?_ | refine CvB_c rfl ?_ | fail) <;> first | exact au_v | (exact Cv.pure rfl))⟩
            (try dsimp only); omega
          · (try simp only [au_std, bv_eq1, bv_eq0] at hc4); have hv := hvt (by simpa using hc4)
            refine VC.skip ?_
            refine VC.regN tab_ok [] rfl ?_
            iterate 3 refine VX.meek rfl ?_
            refine VX.meek (t := U8 (bv vb * 2 ^ k)) (by rw [hv]; exact bv_shl _ k hkl) ?_
            refine VX.meek (t := U8 (refTo (ropFn n) s d p (k + 1))) (by show some (T.v (.int .u8 (bitV .or .u8 (refTo (ropFn n) s d p k) (bv vb * 2 ^ k))), (none : Option (Nat × List T))) = _; rw [bv_or hkl hrb vb, hsu]) ?_
            refine VX.meek rfl ?_
            refine VX.nil ?_
            refine VC.regN tab_ok [] rfl ?_
            refine VX.meek rfl ?_
            first | refine VX.add rfl rfl (by omega) ?_ | refine VX.meek rfl ?_
            refine VX.meek rfl ?_
            refine VX.nil ?_
            refine ⟨k + 1, by (try dsimp only); omega, ?_, (by refine ⟨[], rfl, by first | trivial | decide, rfl, ?_, ?_⟩ <;> (repeat' first | exact trivial | exact CvB_n | exact CvB_d | refine CvE_app ?_ ?_ | refine CvE_cons rfl ?_ ?_ | refine CvH_cons ?_ ?_ | refine CvB_c rfl ?_ | fail) <;> first | exact au_v | (exact Cv.pure rfl))⟩
            (try dsimp only); omega
        · (try simp only [au_std, bv_eq1, bv_eq0] at hc3)
          refine VC.skip ?_
          refine VC.reg tab_ok [] rfl ?_
          iterate 2 refine VX.meek rfl ?_
          refine VX.meek (t := I64 (n.fdiv (2 ^ ropPlace sb db))) (by first | (rw [show ropPlace sb db = 0 from by revert hc1 hc2 hc3; cases sb <;> cases db <;> simp [ropPlace]]; rfl) | (rw [show ropPlace sb db = 1 from by revert hc1 hc2 hc3; cases sb <;> cases db <;> simp [ropPlace]]; rfl) | (rw [show ropPlace sb db = 2 from by revert hc1 hc2 hc3; cases sb <;> cases db <;> simp [ropPlace]]; rfl) | (rw [show ropPlace sb db = 3 from by revert hc1 hc2 hc3; cases sb <;> cases db <;> simp [ropPlace]]; rfl)) ?_
          refine VX.meek (t := I64 (bv (ropFn n sb db))) (by show some (T.v (.int .i64 (bitV .and .i64 (n.fdiv (2 ^ ropPlace sb db)) 1)), (none : Option (Nat × List T))) = _; rw [hopk]) ?_
          refine VX.meek (t := U8 (bv (ropFn n sb db))) (by show some (T.v (.int .u8 (IntKind.u8.wrap (bv (ropFn n sb db)))), (none : Option (Nat × List T))) = _; generalize ropFn n sb db = z; cases z <;> rfl) ?_
          refine VX.meek rfl ?_
          refine VX.nil ?_
          refine VC.seq ?_
          refine VC.reg tab_ok [] rfl ?_
          iterate 2 refine VX.meek rfl ?_
          refine VX.meek (t := U8 (p.fdiv (2 ^ k))) (shr_u8 p k hkl) ?_
          refine VX.meek (t := U8 (bv pb)) (by show some (T.v (.int .u8 (bitV .and .u8 (p.fdiv (2 ^ k)) 1)), (none : Option (Nat × List T))) = _; rw [hbp]) ?_
          refine VX.meek rfl ?_
          refine VX.nil ?_
          refine VC.cond rfl (fun hc4 => ?_) (fun hc4 => ?_)
          · (try simp only [au_std, bv_eq1, bv_eq0] at hc4); have hv := hvf hc4
            refine VC.regN tab_ok [] rfl ?_
            iterate 2 refine VX.meek rfl ?_
            refine VX.nil ?_
            refine VC.regN tab_ok [] rfl ?_
            iterate 3 refine VX.meek rfl ?_
            refine VX.meek (t := U8 (bv vb * 2 ^ k)) (by rw [hv]; exact bv_shl _ k hkl) ?_
            refine VX.meek (t := U8 (refTo (ropFn n) s d p (k + 1))) (by show some (T.v (.int .u8 (bitV .or .u8 (refTo (ropFn n) s d p k) (bv vb * 2 ^ k))), (none : Option (Nat × List T))) = _; rw [bv_or hkl hrb vb, hsu]) ?_
            refine VX.meek rfl ?_
            refine VX.nil ?_
            refine VC.regN tab_ok [] rfl ?_
            refine VX.meek rfl ?_
            first | refine VX.add rfl rfl (by omega) ?_ | refine VX.meek rfl ?_
            refine VX.meek rfl ?_
            refine VX.nil ?_
            refine ⟨k + 1, by (try dsimp only); omega, ?_, (by refine ⟨[], rfl, by first | trivial | decide, rfl, ?_, ?_⟩ <;> (repeat' first | exact trivial | exact CvB_n | exact CvB_d | refine CvE_app ?_ ?_ | refine CvE_cons rfl ?_ ?_ | refine CvH_cons ?_ ?_ | refine CvB_c rfl ?_ | fail) <;> first | exact au_v | (exact Cv.pure rfl))⟩
            (try dsimp only); omega
          · (try simp only [au_std, bv_eq1, bv_eq0] at hc4); have hv := hvt (by simpa using hc4)
            refine VC.skip ?_
            refine VC.regN tab_ok [] rfl ?_
            iterate 3 refine VX.meek rfl ?_
            refine VX.meek (t := U8 (bv vb * 2 ^ k)) (by rw [hv]; exact bv_shl _ k hkl) ?_
            refine VX.meek (t := U8 (refTo (ropFn n) s d p (k + 1))) (by show some (T.v (.int .u8 (bitV .or .u8 (refTo (ropFn n) s d p k) (bv vb * 2 ^ k))), (none : Option (Nat × List T))) = _; rw [bv_or hkl hrb vb, hsu]) ?_
            refine VX.meek rfl ?_
            refine VX.nil ?_
            refine VC.regN tab_ok [] rfl ?_
            refine VX.meek rfl ?_
            first | refine VX.add rfl rfl (by omega) ?_ | refine VX.meek rfl ?_
            refine VX.meek rfl ?_
            refine VX.nil ?_
            refine ⟨k + 1, by (try dsimp only); omega, ?_, (by refine ⟨[], rfl, by first | trivial | decide, rfl, ?_, ?_⟩ <;> (repeat' first | exact trivial | exact CvB_n | exact CvB_d | refine CvE_app ?_ ?_ | refine CvE_cons rfl ?_ ?_ | refine CvH_cons ?_ ?_ | refine CvB_c rfl ?_ | fail) <;> first | exact au_v | (exact Cv.pure rfl))⟩
            (try dsimp only); omega
      · (try simp only [au_std, bv_eq1, bv_eq0] at hc2)
        refine VC.skip ?_
        refine VC.seq ?_
        refine VC.reg tab_ok [] rfl ?_
        iterate 3 refine VX.meek rfl ?_
        refine' VX.merge (d := 44) [_, _, _] rfl ?_ rfl ?_
        rotate_left
        · refine VX.guard rfl rfl (fun hb11_2 => ?_) (fun hb11_2 => ?_)
          · have ghb11_2 := hb11_2
            try simp only [au_std, Bool.not_true, Bool.not_false] at ghb11_2
            refine VX.meek rfl ?_
            refine VX.guardT rfl rfl hb11_2 ?_
            refine VX.meek rfl ?_
            refine VX.pickA rfl (fun _ => rfl) ?_
            exact VX.nil ⟨rfl, rfl⟩
          · refine VX.guardF rfl rfl hb11_2 ?_
            exact VX.pickA rfl (fun h => absurd (h.symm.trans hb11_2) (by decide)) (VX.nil ⟨rfl, rfl⟩)
        refine VX.nil ?_
        refine VC.cond rfl (fun hc3 => ?_) (fun hc3 => ?_)
        · (try simp only [au_std, bv_eq1, bv_eq0] at hc3)
          refine VC.regN tab_ok [] rfl ?_
          refine VX.meek rfl ?_
          refine VX.nil ?_
          refine VC.reg tab_ok [] rfl ?_
          iterate 2 refine VX.meek rfl ?_
          refine VX.meek (t := I64 (n.fdiv (2 ^ ropPlace sb db))) (by first | (rw [show ropPlace sb db = 0 from by revert hc1 hc2 hc3; cases sb <;> cases db <;> simp [ropPlace]]; rfl) | (rw [show ropPlace sb db = 1 from by revert hc1 hc2 hc3; cases sb <;> cases db <;> simp [ropPlace]]; rfl) | (rw [show ropPlace sb db = 2 from by revert hc1 hc2 hc3; cases sb <;> cases db <;> simp [ropPlace]]; rfl) | (rw [show ropPlace sb db = 3 from by revert hc1 hc2 hc3; cases sb <;> cases db <;> simp [ropPlace]]; rfl)) ?_
          refine VX.meek (t := I64 (bv (ropFn n sb db))) (by show some (T.v (.int .i64 (bitV .and .i64 (n.fdiv (2 ^ ropPlace sb db)) 1)), (none : Option (Nat × List T))) = _; rw [hopk]) ?_
          refine VX.meek (t := U8 (bv (ropFn n sb db))) (by show some (T.v (.int .u8 (IntKind.u8.wrap (bv (ropFn n sb db)))), (none : Option (Nat × List T))) = _; generalize ropFn n sb db = z; cases z <;> rfl) ?_
          refine VX.meek rfl ?_
          refine VX.nil ?_
          refine VC.seq ?_
          refine VC.reg tab_ok [] rfl ?_
          iterate 2 refine VX.meek rfl ?_
          refine VX.meek (t := U8 (p.fdiv (2 ^ k))) (shr_u8 p k hkl) ?_
          refine VX.meek (t := U8 (bv pb)) (by show some (T.v (.int .u8 (bitV .and .u8 (p.fdiv (2 ^ k)) 1)), (none : Option (Nat × List T))) = _; rw [hbp]) ?_
          refine VX.meek rfl ?_
          refine VX.nil ?_
          refine VC.cond rfl (fun hc4 => ?_) (fun hc4 => ?_)
          · (try simp only [au_std, bv_eq1, bv_eq0] at hc4); have hv := hvf hc4
            refine VC.regN tab_ok [] rfl ?_
            iterate 2 refine VX.meek rfl ?_
            refine VX.nil ?_
            refine VC.regN tab_ok [] rfl ?_
            iterate 3 refine VX.meek rfl ?_
            refine VX.meek (t := U8 (bv vb * 2 ^ k)) (by rw [hv]; exact bv_shl _ k hkl) ?_
            refine VX.meek (t := U8 (refTo (ropFn n) s d p (k + 1))) (by show some (T.v (.int .u8 (bitV .or .u8 (refTo (ropFn n) s d p k) (bv vb * 2 ^ k))), (none : Option (Nat × List T))) = _; rw [bv_or hkl hrb vb, hsu]) ?_
            refine VX.meek rfl ?_
            refine VX.nil ?_
            refine VC.regN tab_ok [] rfl ?_
            refine VX.meek rfl ?_
            first | refine VX.add rfl rfl (by omega) ?_ | refine VX.meek rfl ?_
            refine VX.meek rfl ?_
            refine VX.nil ?_
            refine ⟨k + 1, by (try dsimp only); omega, ?_, (by refine ⟨[], rfl, by first | trivial | decide, rfl, ?_, ?_⟩ <;> (repeat' first | exact trivial | exact CvB_n | exact CvB_d | refine CvE_app ?_ ?_ | refine CvE_cons rfl ?_ ?_ | refine CvH_cons ?_ ?_ | refine CvB_c rfl ?_ | fail) <;> first | exact au_v | (exact Cv.pure rfl))⟩
            (try dsimp only); omega
          · (try simp only [au_std, bv_eq1, bv_eq0] at hc4); have hv := hvt (by simpa using hc4)
            refine VC.skip ?_
            refine VC.regN tab_ok [] rfl ?_
            iterate 3 refine VX.meek rfl ?_
            refine VX.meek (t := U8 (bv vb * 2 ^ k)) (by rw [hv]; exact bv_shl _ k hkl) ?_
            refine VX.meek (t := U8 (refTo (ropFn n) s d p (k + 1))) (by show some (T.v (.int .u8 (bitV .or .u8 (refTo (ropFn n) s d p k) (bv vb * 2 ^ k))), (none : Option (Nat × List T))) = _; rw [bv_or hkl hrb vb, hsu]) ?_
            refine VX.meek rfl ?_
            refine VX.nil ?_
            refine VC.regN tab_ok [] rfl ?_
            refine VX.meek rfl ?_
            first | refine VX.add rfl rfl (by omega) ?_ | refine VX.meek rfl ?_
            refine VX.meek rfl ?_
            refine VX.nil ?_
            refine ⟨k + 1, by (try dsimp only); omega, ?_, (by refine ⟨[], rfl, by first | trivial | decide, rfl, ?_, ?_⟩ <;> (repeat' first | exact trivial | exact CvB_n | exact CvB_d | refine CvE_app ?_ ?_ | refine CvE_cons rfl ?_ ?_ | refine CvH_cons ?_ ?_ | refine CvB_c rfl ?_ | fail) <;> first | exact au_v | (exact Cv.pure rfl))⟩
            (try dsimp only); omega
        · (try simp only [au_std, bv_eq1, bv_eq0] at hc3)
          refine VC.skip ?_
          refine VC.reg tab_ok [] rfl ?_
          iterate 2 refine VX.meek rfl ?_
          refine VX.meek (t := I64 (n.fdiv (2 ^ ropPlace sb db))) (by first | (rw [show ropPlace sb db = 0 from by revert hc1 hc2 hc3; cases sb <;> cases db <;> simp [ropPlace]]; rfl) | (rw [show ropPlace sb db = 1 from by revert hc1 hc2 hc3; cases sb <;> cases db <;> simp [ropPlace]]; rfl) | (rw [show ropPlace sb db = 2 from by revert hc1 hc2 hc3; cases sb <;> cases db <;> simp [ropPlace]]; rfl) | (rw [show ropPlace sb db = 3 from by revert hc1 hc2 hc3; cases sb <;> cases db <;> simp [ropPlace]]; rfl)) ?_
          refine VX.meek (t := I64 (bv (ropFn n sb db))) (by show some (T.v (.int .i64 (bitV .and .i64 (n.fdiv (2 ^ ropPlace sb db)) 1)), (none : Option (Nat × List T))) = _; rw [hopk]) ?_
          refine VX.meek (t := U8 (bv (ropFn n sb db))) (by show some (T.v (.int .u8 (IntKind.u8.wrap (bv (ropFn n sb db)))), (none : Option (Nat × List T))) = _; generalize ropFn n sb db = z; cases z <;> rfl) ?_
          refine VX.meek rfl ?_
          refine VX.nil ?_
          refine VC.seq ?_
          refine VC.reg tab_ok [] rfl ?_
          iterate 2 refine VX.meek rfl ?_
          refine VX.meek (t := U8 (p.fdiv (2 ^ k))) (shr_u8 p k hkl) ?_
          refine VX.meek (t := U8 (bv pb)) (by show some (T.v (.int .u8 (bitV .and .u8 (p.fdiv (2 ^ k)) 1)), (none : Option (Nat × List T))) = _; rw [hbp]) ?_
          refine VX.meek rfl ?_
          refine VX.nil ?_
          refine VC.cond rfl (fun hc4 => ?_) (fun hc4 => ?_)
          · (try simp only [au_std, bv_eq1, bv_eq0] at hc4); have hv := hvf hc4
            refine VC.regN tab_ok [] rfl ?_
            iterate 2 refine VX.meek rfl ?_
            refine VX.nil ?_
            refine VC.regN tab_ok [] rfl ?_
            iterate 3 refine VX.meek rfl ?_
            refine VX.meek (t := U8 (bv vb * 2 ^ k)) (by rw [hv]; exact bv_shl _ k hkl) ?_
            refine VX.meek (t := U8 (refTo (ropFn n) s d p (k + 1))) (by show some (T.v (.int .u8 (bitV .or .u8 (refTo (ropFn n) s d p k) (bv vb * 2 ^ k))), (none : Option (Nat × List T))) = _; rw [bv_or hkl hrb vb, hsu]) ?_
            refine VX.meek rfl ?_
            refine VX.nil ?_
            refine VC.regN tab_ok [] rfl ?_
            refine VX.meek rfl ?_
            first | refine VX.add rfl rfl (by omega) ?_ | refine VX.meek rfl ?_
            refine VX.meek rfl ?_
            refine VX.nil ?_
            refine ⟨k + 1, by (try dsimp only); omega, ?_, (by refine ⟨[], rfl, by first | trivial | decide, rfl, ?_, ?_⟩ <;> (repeat' first | exact trivial | exact CvB_n | exact CvB_d | refine CvE_app ?_ ?_ | refine CvE_cons rfl ?_ ?_ | refine CvH_cons ?_ ?_ | refine CvB_c rfl ?_ | fail) <;> first | exact au_v | (exact Cv.pure rfl))⟩
            (try dsimp only); omega
          · (try simp only [au_std, bv_eq1, bv_eq0] at hc4); have hv := hvt (by simpa using hc4)
            refine VC.skip ?_
            refine VC.regN tab_ok [] rfl ?_
            iterate 3 refine VX.meek rfl ?_
            refine VX.meek (t := U8 (bv vb * 2 ^ k)) (by rw [hv]; exact bv_shl _ k hkl) ?_
            refine VX.meek (t := U8 (refTo (ropFn n) s d p (k + 1))) (by show some (T.v (.int .u8 (bitV .or .u8 (refTo (ropFn n) s d p k) (bv vb * 2 ^ k))), (none : Option (Nat × List T))) = _; rw [bv_or hkl hrb vb, hsu]) ?_
            refine VX.meek rfl ?_
            refine VX.nil ?_
            refine VC.regN tab_ok [] rfl ?_
            refine VX.meek rfl ?_
            first | refine VX.add rfl rfl (by omega) ?_ | refine VX.meek rfl ?_
            refine VX.meek rfl ?_
            refine VX.nil ?_
            refine ⟨k + 1, by (try dsimp only); omega, ?_, (by refine ⟨[], rfl, by first | trivial | decide, rfl, ?_, ?_⟩ <;> (repeat' first | exact trivial | exact CvB_n | exact CvB_d | refine CvE_app ?_ ?_ | refine CvE_cons rfl ?_ ?_ | refine CvH_cons ?_ ?_ | refine CvB_c rfl ?_ | fail) <;> first | exact au_v | (exact Cv.pure rfl))⟩
            (try dsimp only); omega
  · (try simp only [au_std] at hc0); obtain rfl : k = 8 := (by omega)
    refine VC.exit ?_
    refine VC.reg tab_ok [] rfl ?_
    iterate 2 refine VX.meek rfl ?_
    refine VX.nil ?_
    refine VC.ret ?_
    exact ⟨trivial, _, rfl, Cv.eq (by first | rfl | (simp [*]; done)) rfl⟩
/- which pens are right -/
def rightB (r : Rect) : Bool := placeB r.X && placeB r.Y && sdB r.W && sdB r.H
def penE (p : PenS) : Int := if ropKnown p.f = true then (if placeB p.x = true ∧ placeB p.y = true then (if p.cl = false ∧ 0 < p.clip.length then 9 else if 256 < p.clip.length then 5 else if (∀ r ∈ p.clip, rightB r = true) then 0 else 1) else 1) else 10
theorem penE_ok (p : PenS) : penE p = 0 ↔ PenOk p := by
  unfold penE PenOk
  have hr : (∀ r ∈ p.clip, rightB r = true) ↔ ∀ r ∈ p.clip, placeB r.X = true ∧ placeB r.Y = true ∧ sdB r.W = true ∧ sdB r.H = true := by
    simp only [rightB, Bool.and_eq_true, and_assoc]
  have hc : (p.cl = true ∨ p.clip = []) ↔ ¬ (p.cl = false ∧ 0 < p.clip.length) := by
    cases p.cl <;> simp [List.length_pos_iff]
  rw [← hr, hc]
  split
  · split
    · split
      · rename_i h1 h2 h3; exact ⟨fun h => absurd h (by decide), fun h => absurd h3 h.2.2.2.1⟩
      · split
        · rename_i h1 h2 h3 h4; exact ⟨fun h => absurd h (by decide), fun h => by omega⟩
        · split
          · rename_i h1 h2 h3 h4 h5; exact ⟨fun _ => ⟨h1, h2.1, h2.2, h3, by omega, h5⟩, fun _ => rfl⟩
          · rename_i h1 h2 h3 h4 h5; exact ⟨fun h => absurd h (by decide), fun h => absurd h.2.2.2.2.2 h5⟩
    · rename_i h1 h2; exact ⟨fun h => absurd h (by decide), fun h => absurd ⟨h.2.1, h.2.2.1⟩ h2⟩
  · rename_i h1; exact ⟨fun h => absurd h (by decide), fun h => absurd h.1 h1⟩
theorem check_any (p : PenS) : CallP Tryz.prog 37 [penT p] (I64 (penE p)) := by
  refine CallP.intro2 au_pu au_pu ?_
  refine CallT.intro tab_ok Tryz.func37 rfl (by kernel_rfl) (Nat.le_of_ble_eq_true rfl) ?_
  refine VC.reg tab_ok [1] rfl ?_
  refine VX.newI rfl rfl ?_
  refine VX.meek rfl ?_
  refine VX.nil ?_
  refine VC.seq ?_
  refine VC.block ?_
  refine VC.reg tab_ok [] rfl ?_
  refine VX.meek rfl ?_
  first | refine VX.meek rfl ?_ | refine VX.loadI rfl rfl au_l ?_ | refine VX.loadP rfl rfl rfl au_l ?_
  refine VX.callP0 rfl rfl rfl (isFunc_p _) ?_
  iterate 2 refine VX.meek rfl ?_
  refine VX.nil ?_
  refine VC.cond rfl (fun hc0 => ?_) (fun hc0 => ?_)
  · (try simp only [au_std] at hc0)
    refine VC.reg tab_ok [] rfl ?_
    refine VX.meek rfl ?_
    refine VX.nil ?_
    refine VC.ret ?_
    exact ⟨trivial, _, rfl, Cv.eq (congrArg I64 (by unfold penE; rw [if_neg (by simpa using hc0)])) rfl⟩
  · (try simp only [au_std] at hc0)
    refine VC.reg tab_ok [] rfl ?_
    refine VX.meek rfl ?_
    first | refine VX.meek rfl ?_ | refine VX.loadI rfl rfl au_l ?_ | refine VX.loadP rfl rfl rfl au_l ?_
    refine VX.callP0 rfl rfl rfl (isPlace_p _) ?_
    iterate 2 refine VX.meek rfl ?_
    refine' VX.merge (d := 20) [_, _, _, _, _] rfl ?_ rfl ?_
    rotate_left
    · refine VX.guard rfl rfl (fun hb3_4 => ?_) (fun hb3_4 => ?_)
      · have ghb3_4 := hb3_4
        try simp only [au_std, Bool.not_true, Bool.not_false] at ghb3_4
        refine VX.meek rfl ?_
        refine VX.guardT rfl rfl hb3_4 ?_
        first | refine VX.meek rfl ?_ | refine VX.loadI rfl rfl au_l ?_ | refine VX.loadP rfl rfl rfl au_l ?_
        refine VX.guardT rfl rfl hb3_4 ?_
        refine VX.callP0 rfl rfl rfl (isPlace_p _) ?_
        refine VX.guardT rfl rfl hb3_4 ?_
        refine VX.meek rfl ?_
        refine VX.pickO rfl (fun _ => rfl) ?_
        exact VX.nil ⟨rfl, rfl⟩
      · refine VX.guardF rfl rfl hb3_4 ?_
        refine VX.guardF rfl rfl hb3_4 ?_
        refine VX.guardF rfl rfl hb3_4 ?_
        exact VX.pickO rfl (fun h => absurd (h.symm.trans hb3_4) (by decide)) (VX.nil ⟨rfl, rfl⟩)
    refine VX.meek rfl ?_
    refine VX.nil ?_
    refine VC.cond rfl (fun hc1 => ?_) (fun hc1 => ?_)
    · (try simp only [au_std] at hc1)
      refine VC.reg tab_ok [] rfl ?_
      refine VX.meek rfl ?_
      refine VX.nil ?_
      refine VC.ret ?_
      exact ⟨trivial, _, rfl, Cv.eq (congrArg I64 (by unfold penE; rw [if_pos (by simpa using hc0), if_neg (by (try simp only [au_std] at hc1); rintro ⟨a, b⟩; simp [a, b] at hc1)])) rfl⟩
    · (try simp only [au_std] at hc1)
      refine VC.reg tab_ok [] rfl ?_
      refine VX.meek rfl ?_
      first | refine VX.meek rfl ?_ | refine VX.loadI rfl rfl au_l ?_ | refine VX.loadP rfl rfl rfl au_l ?_
      iterate 2 refine VX.meek rfl ?_
      refine' VX.merge (d := 30) [_, _, _, _, _] rfl ?_ rfl ?_
      rotate_left
      · refine VX.guard rfl rfl (fun hb5_3 => ?_) (fun hb5_3 => ?_)
        · have ghb5_3 := hb5_3
          try simp only [au_std, Bool.not_true, Bool.not_false] at ghb5_3
          refine VX.meek rfl ?_
          refine VX.guardT rfl rfl hb5_3 ?_
          first | refine VX.meek rfl ?_ | refine VX.loadI rfl rfl au_l ?_ | refine VX.loadP rfl rfl rfl au_l ?_
          refine VX.guardT rfl rfl hb5_3 ?_
          refine VX.meek rfl ?_
          refine VX.guardT rfl rfl hb5_3 ?_
          refine VX.meek rfl ?_
          refine VX.pickA rfl (fun _ => rfl) ?_
          exact VX.nil ⟨rfl, rfl⟩
        · refine VX.guardF rfl rfl hb5_3 ?_
          refine VX.guardF rfl rfl hb5_3 ?_
          refine VX.guardF rfl rfl hb5_3 ?_
          exact VX.pickA rfl (fun h => absurd (h.symm.trans hb5_3) (by decide)) (VX.nil ⟨rfl, rfl⟩)
      refine VX.meek rfl ?_
      refine VX.nil ?_
      refine VC.cond rfl (fun hc2 => ?_) (fun hc2 => ?_)
      · (try simp only [au_std] at hc2)
        refine VC.reg tab_ok [] rfl ?_
        refine VX.meek rfl ?_
        refine VX.nil ?_
        refine VC.ret ?_
        exact ⟨trivial, _, rfl, Cv.eq (congrArg I64 (by unfold penE; rw [if_pos (by simpa using hc0), if_pos (by (try simp at hc1); simpa using hc1), if_pos (by (try simp at hc2); exact ⟨hc2.1, by have := hc2.2; omega⟩)])) rfl⟩
      · (try simp only [au_std] at hc2)
        refine VC.reg tab_ok [] rfl ?_
        refine VX.meek rfl ?_
        first | refine VX.meek rfl ?_ | refine VX.loadI rfl rfl au_l ?_ | refine VX.loadP rfl rfl rfl au_l ?_
        iterate 3 refine VX.meek rfl ?_
        refine VX.nil ?_
        refine VC.cond rfl (fun hc3 => ?_) (fun hc3 => ?_)
        · (try simp only [au_std] at hc3)
          refine VC.reg tab_ok [] rfl ?_
          refine VX.meek rfl ?_
          refine VX.nil ?_
          refine VC.ret ?_
          exact ⟨trivial, _, rfl, Cv.eq (congrArg I64 (by unfold penE; rw [if_pos (by simpa using hc0), if_pos (by (try simp at hc1); simpa using hc1), if_neg (by (try simp at hc2); rintro ⟨a, b⟩; have := hc2 a; simp [this] at b), if_pos (by (try simp at hc3); omega)])) rfl⟩
        · (try simp only [au_std] at hc3)
          refine VC.skip ?_
          refine VC.seq ?_
          refine VC.reg tab_ok [] rfl ?_
          refine VX.meek rfl ?_
          first | refine VX.meek rfl ?_ | refine VX.loadI rfl rfl au_l ?_ | refine VX.loadP rfl rfl rfl au_l ?_
          iterate 2 refine VX.meek rfl ?_
          refine VX.nil ?_
          refine VC.block ?_
          refine VC.loopS (σ := Nat) (fun k => p.clip.length - k) (fun k => k ≤ p.clip.length ∧ ∀ r ∈ p.clip.take k, rightB r = true) (fun k => [(39, I64 k)]) (fun _ => []) [37, 38] rfl (0) ?_ ?_ ?_
          · refine ⟨[], rfl, by first | trivial | decide, rfl, ?_, ?_⟩ <;> (repeat' first | exact trivial | exact CvB_n | exact CvB_d | refine CvE_app ?_ ?_ | refine CvE_cons rfl ?_ ?_ | refine CvH_cons ?_ ?_ | refine CvB_c rfl ?_ | fail) <;> first | exact au_v | (skip)
          · exact ⟨by omega, by simp⟩
          rintro k ⟨hk, hok⟩
          refine VC.reg tab_ok [] rfl ?_
          refine VX.meek rfl ?_
          refine VX.nil ?_
          refine VC.seq ?_
          refine VC.cond rfl (fun hc4 => ?_) (fun hc4 => ?_)
          · (try simp only [au_std] at hc4); have hkl : k < p.clip.length := (by omega); have hmk : p.clip[k]! ∈ p.clip := List.mem_iff_getElem?.2 ⟨k, getE hkl⟩
            refine VC.skip ?_
            refine VC.seq ?_
            refine VC.block ?_
            refine VC.reg tab_ok [] rfl ?_
            first | refine VX.idxI rfl rfl rfl rfl rfl rfl (by omega) ?_ | refine VX.idxO0 rfl rfl rfl rfl rfl rfl rfl (by omega) ?_ | refine VX.idxO0 rfl rfl rfl rfl rfl rfl au_z (by omega) ?_ | refine VX.idxO rfl rfl rfl rfl rfl rfl rfl (by omega) ?_ | refine VX.idxI rfl rfl rfl rfl rfl au_z (by omega) ?_ | refine VX.idxO rfl rfl rfl rfl rfl rfl au_z (by omega) ?_ | refine VX.meek rfl ?_
            first | refine VX.meek rfl ?_ | refine VX.loadI rfl rfl au_l ?_ | refine VX.loadP rfl rfl rfl au_l ?_
            refine VX.new rfl rfl ?_
            refine VX.store rfl rfl rfl rfl rfl au_sR rfl ?_
            refine VX.nil ?_
            refine VC.reg tab_ok [] rfl ?_
            refine VX.meek rfl ?_
            first | refine VX.meek rfl ?_ | refine VX.loadI rfl rfl au_l ?_ | refine VX.loadP rfl rfl rfl au_l ?_
            refine VX.callP0 rfl rfl rfl (isPlace_p _) ?_
            iterate 2 refine VX.meek rfl ?_
            refine' VX.merge (d := 52) [_, _, _, _, _] rfl ?_ rfl ?_
            rotate_left
            · refine VX.guard rfl rfl (fun hb12_4 => ?_) (fun hb12_4 => ?_)
              · have ghb12_4 := hb12_4
                try simp only [au_std, Bool.not_true, Bool.not_false] at ghb12_4
                refine VX.meek rfl ?_
                refine VX.guardT rfl rfl hb12_4 ?_
                first | refine VX.meek rfl ?_ | refine VX.loadI rfl rfl au_l ?_ | refine VX.loadP rfl rfl rfl au_l ?_
                refine VX.guardT rfl rfl hb12_4 ?_
                refine VX.callP0 rfl rfl rfl (isPlace_p _) ?_
                refine VX.guardT rfl rfl hb12_4 ?_
                refine VX.meek rfl ?_
                refine VX.pickO rfl (fun _ => rfl) ?_
                exact VX.nil ⟨rfl, rfl⟩
              · refine VX.guardF rfl rfl hb12_4 ?_
                refine VX.guardF rfl rfl hb12_4 ?_
                refine VX.guardF rfl rfl hb12_4 ?_
                exact VX.pickO rfl (fun h => absurd (h.symm.trans hb12_4) (by decide)) (VX.nil ⟨rfl, rfl⟩)
            refine VX.meek rfl ?_
            refine' VX.merge (d := 58) [_, _, _, _, _] rfl ?_ rfl ?_
            rotate_left
            · refine VX.guard rfl rfl (fun hb12_10 => ?_) (fun hb12_10 => ?_)
              · have ghb12_10 := hb12_10
                try simp only [au_std, Bool.not_true, Bool.not_false] at ghb12_10
                refine VX.meek rfl ?_
                refine VX.guardT rfl rfl hb12_10 ?_
                first | refine VX.meek rfl ?_ | refine VX.loadI rfl rfl au_l ?_ | refine VX.loadP rfl rfl rfl au_l ?_
                refine VX.guardT rfl rfl hb12_10 ?_
                refine VX.callP0 rfl rfl rfl (isSide_p _) ?_
                refine VX.guardT rfl rfl hb12_10 ?_
                refine VX.meek rfl ?_
                refine VX.pickO rfl (fun _ => rfl) ?_
                exact VX.nil ⟨rfl, rfl⟩
              · refine VX.guardF rfl rfl hb12_10 ?_
                refine VX.guardF rfl rfl hb12_10 ?_
                refine VX.guardF rfl rfl hb12_10 ?_
                exact VX.pickO rfl (fun h => absurd (h.symm.trans hb12_10) (by decide)) (VX.nil ⟨rfl, rfl⟩)
            refine VX.meek rfl ?_
            refine' VX.merge (d := 64) [_, _, _, _, _] rfl ?_ rfl ?_
            rotate_left
            · refine VX.guard rfl rfl (fun hb12_16 => ?_) (fun hb12_16 => ?_)
              · have ghb12_16 := hb12_16
                try simp only [au_std, Bool.not_true, Bool.not_false] at ghb12_16
                refine VX.meek rfl ?_
                refine VX.guardT rfl rfl hb12_16 ?_
                first | refine VX.meek rfl ?_ | refine VX.loadI rfl rfl au_l ?_ | refine VX.loadP rfl rfl rfl au_l ?_
                refine VX.guardT rfl rfl hb12_16 ?_
                refine VX.callP0 rfl rfl rfl (isSide_p _) ?_
                refine VX.guardT rfl rfl hb12_16 ?_
                refine VX.meek rfl ?_
                refine VX.pickO rfl (fun _ => rfl) ?_
                exact VX.nil ⟨rfl, rfl⟩
              · refine VX.guardF rfl rfl hb12_16 ?_
                refine VX.guardF rfl rfl hb12_16 ?_
                refine VX.guardF rfl rfl hb12_16 ?_
                exact VX.pickO rfl (fun h => absurd (h.symm.trans hb12_16) (by decide)) (VX.nil ⟨rfl, rfl⟩)
            refine VX.nil ?_
            refine VC.cond rfl (fun hc5 => ?_) (fun hc5 => ?_)
            · have hb : ¬ ∀ r ∈ p.clip, rightB r = true := fun h => by have := h _ hmk; simp only [rightB, Bool.and_eq_true] at this; rw [this.1.1.1, this.1.1.2, this.1.2, this.2] at hc5; (try simp at hc5)
              refine VC.reg tab_ok [] rfl ?_
              refine VX.meek rfl ?_
              refine VX.nil ?_
              refine VC.ret ?_
              exact ⟨trivial, _, rfl, Cv.eq (congrArg I64 (by unfold penE; rw [if_pos (by simpa using hc0), if_pos (by (try simp at hc1); simpa using hc1), if_neg (by (try simp at hc2); rintro ⟨a, b⟩; have := hc2 a; simp [this] at b), if_neg (by (try simp at hc3); omega), if_neg hb])) rfl⟩
            · have hb : rightB p.clip[k]! = true := (by unfold rightB; revert hc5; cases placeB p.clip[k]!.X <;> cases placeB p.clip[k]!.Y <;> cases sdB p.clip[k]!.W <;> cases sdB p.clip[k]!.H <;> simp)
              refine VC.skip ?_
              refine VC.regN tab_ok [] rfl ?_
              first | refine VX.add rfl rfl (by omega) ?_ | refine VX.meek rfl ?_
              refine VX.meek rfl ?_
              refine VX.nil ?_
              refine ⟨k + 1, by (try dsimp only); omega, ?_, (by refine ⟨[], rfl, by first | trivial | decide, rfl, ?_, ?_⟩ <;> (repeat' first | exact trivial | exact CvB_n | exact CvB_d | refine CvE_app ?_ ?_ | refine CvE_cons rfl ?_ ?_ | refine CvH_cons ?_ ?_ | refine CvB_c rfl ?_ | fail) <;> first | exact au_v | (fail))⟩
              refine ⟨by omega, fun r hr => ?_⟩; rw [take_snoc hkl] at hr; rcases List.mem_append.1 hr with hr | hr; exact hok r hr; rw [List.mem_singleton] at hr; subst hr; exact hb
          · (try simp only [au_std] at hc4); obtain rfl : k = p.clip.length := (by omega); rw [List.take_length] at hok
            refine VC.exit ?_
            refine VC.reg tab_ok [] rfl ?_
            refine VX.meek rfl ?_
            refine VX.nil ?_
            refine VC.ret ?_
            exact ⟨trivial, _, rfl, Cv.eq (congrArg I64 (by unfold penE; rw [if_pos (by simpa using hc0), if_pos (by (try simp at hc1); simpa using hc1), if_neg (by (try simp at hc2); rintro ⟨a, b⟩; have := hc2 a; simp [this] at b), if_neg (by (try simp at hc3); omega), if_pos hok])) rfl⟩
theorem place19_p (n : Int) : CallP Tryz.prog 35 [I64 n] (BL (placeB n)) := by
  refine CallP.intro2 au_pu au_pu ?_
  refine CallT.intro tab_ok Tryz.func35 rfl (by kernel_rfl) (Nat.le_of_ble_eq_true rfl) ?_
  refine VC.reg tab_ok [] rfl ?_
  refine VX.meek rfl ?_
  refine VX.nil ?_
  refine VC.reg tab_ok [] rfl ?_
  iterate 3 refine VX.meek rfl ?_
  refine' VX.merge (d := 8) [_, _, _] rfl ?_ rfl ?_
  rotate_left
  · refine VX.guard rfl rfl (fun hb1_2 => ?_) (fun hb1_2 => ?_)
    · have ghb1_2 := hb1_2
      try simp only [au_std, Bool.not_true, Bool.not_false] at ghb1_2
      refine VX.meek rfl ?_
      refine VX.guardT rfl rfl hb1_2 ?_
      refine VX.meek rfl ?_
      refine VX.pickA rfl (fun _ => rfl) ?_
      exact VX.nil ⟨rfl, rfl⟩
    · refine VX.guardF rfl rfl hb1_2 ?_
      exact VX.pickA rfl (fun h => absurd (h.symm.trans hb1_2) (by decide)) (VX.nil ⟨rfl, rfl⟩)
  refine VX.meek rfl ?_
  refine VX.nil ?_
  refine VC.ret ?_
  exact ⟨trivial, _, rfl, Cv.eq (by first | rfl | (simp [*]; done)) rfl⟩
theorem right19_p (r : Rect) : CallP Tryz.prog 36 [rectT r] (BL (rightB r)) := by
  refine CallP.intro2 au_pu au_pu ?_
  refine CallT.intro tab_ok Tryz.func36 rfl (by kernel_rfl) (Nat.le_of_ble_eq_true rfl) ?_
  refine VC.reg tab_ok [1] rfl ?_
  refine VX.newI rfl rfl ?_
  refine VX.meek rfl ?_
  refine VX.nil ?_
  refine VC.reg tab_ok [] rfl ?_
  refine VX.meek rfl ?_
  first | refine VX.meek rfl ?_ | refine VX.loadI rfl rfl au_l ?_ | refine VX.loadP rfl rfl rfl au_l ?_
  refine VX.callP0 rfl rfl rfl (place19_p r.X) ?_
  refine VX.meek rfl ?_
  refine' VX.merge (d := 10) [_, _, _, _] rfl ?_ rfl ?_
  rotate_left
  · refine VX.guard rfl rfl (fun hb1_3 => ?_) (fun hb1_3 => ?_)
    · have ghb1_3 := hb1_3
      try simp only [au_std, Bool.not_true, Bool.not_false] at ghb1_3
      refine VX.meek rfl ?_
      refine VX.guardT rfl rfl hb1_3 ?_
      first | refine VX.meek rfl ?_ | refine VX.loadI rfl rfl au_l ?_ | refine VX.loadP rfl rfl rfl au_l ?_
      refine VX.guardT rfl rfl hb1_3 ?_
      refine VX.callP0 rfl rfl rfl (place19_p r.Y) ?_
      refine VX.pickA rfl (fun _ => rfl) ?_
      exact VX.nil ⟨rfl, rfl⟩
    · refine VX.guardF rfl rfl hb1_3 ?_
      refine VX.guardF rfl rfl hb1_3 ?_
      exact VX.pickA rfl (fun h => absurd (h.symm.trans hb1_3) (by decide)) (VX.nil ⟨rfl, rfl⟩)
  refine VX.meek rfl ?_
  refine' VX.merge (d := 15) [_, _, _, _] rfl ?_ rfl ?_
  rotate_left
  · refine VX.guard rfl rfl (fun hb1_8 => ?_) (fun hb1_8 => ?_)
    · have ghb1_8 := hb1_8
      try simp only [au_std, Bool.not_true, Bool.not_false] at ghb1_8
      refine VX.meek rfl ?_
      refine VX.guardT rfl rfl hb1_8 ?_
      first | refine VX.meek rfl ?_ | refine VX.loadI rfl rfl au_l ?_ | refine VX.loadP rfl rfl rfl au_l ?_
      refine VX.guardT rfl rfl hb1_8 ?_
      refine VX.meek rfl ?_
      refine VX.pickA rfl (fun _ => rfl) ?_
      exact VX.nil ⟨rfl, rfl⟩
    · refine VX.guardF rfl rfl hb1_8 ?_
      refine VX.guardF rfl rfl hb1_8 ?_
      exact VX.pickA rfl (fun h => absurd (h.symm.trans hb1_8) (by decide)) (VX.nil ⟨rfl, rfl⟩)
  refine VX.meek rfl ?_
  refine' VX.merge (d := 20) [_, _, _, _] rfl ?_ rfl ?_
  rotate_left
  · refine VX.guard rfl rfl (fun hb1_13 => ?_) (fun hb1_13 => ?_)
    · have ghb1_13 := hb1_13
      try simp only [au_std, Bool.not_true, Bool.not_false] at ghb1_13
      refine VX.meek rfl ?_
      refine VX.guardT rfl rfl hb1_13 ?_
      first | refine VX.meek rfl ?_ | refine VX.loadI rfl rfl au_l ?_ | refine VX.loadP rfl rfl rfl au_l ?_
      refine VX.guardT rfl rfl hb1_13 ?_
      refine VX.meek rfl ?_
      refine VX.pickA rfl (fun _ => rfl) ?_
      exact VX.nil ⟨rfl, rfl⟩
    · refine VX.guardF rfl rfl hb1_13 ?_
      refine VX.guardF rfl rfl hb1_13 ?_
      exact VX.pickA rfl (fun h => absurd (h.symm.trans hb1_13) (by decide)) (VX.nil ⟨rfl, rfl⟩)
  refine VX.meek rfl ?_
  refine' VX.merge (d := 25) [_, _, _, _] rfl ?_ rfl ?_
  rotate_left
  · refine VX.guard rfl rfl (fun hb1_18 => ?_) (fun hb1_18 => ?_)
    · have ghb1_18 := hb1_18
      try simp only [au_std, Bool.not_true, Bool.not_false] at ghb1_18
      refine VX.meek rfl ?_
      refine VX.guardT rfl rfl hb1_18 ?_
      first | refine VX.meek rfl ?_ | refine VX.loadI rfl rfl au_l ?_ | refine VX.loadP rfl rfl rfl au_l ?_
      refine VX.guardT rfl rfl hb1_18 ?_
      refine VX.meek rfl ?_
      refine VX.pickA rfl (fun _ => rfl) ?_
      exact VX.nil ⟨rfl, rfl⟩
    · refine VX.guardF rfl rfl hb1_18 ?_
      refine VX.guardF rfl rfl hb1_18 ?_
      exact VX.pickA rfl (fun h => absurd (h.symm.trans hb1_18) (by decide)) (VX.nil ⟨rfl, rfl⟩)
  refine VX.meek rfl ?_
  refine' VX.merge (d := 30) [_, _, _, _] rfl ?_ rfl ?_
  rotate_left
  · refine VX.guard rfl rfl (fun hb1_23 => ?_) (fun hb1_23 => ?_)
    · have ghb1_23 := hb1_23
      try simp only [au_std, Bool.not_true, Bool.not_false] at ghb1_23
      refine VX.meek rfl ?_
      refine VX.guardT rfl rfl hb1_23 ?_
      first | refine VX.meek rfl ?_ | refine VX.loadI rfl rfl au_l ?_ | refine VX.loadP rfl rfl rfl au_l ?_
      refine VX.guardT rfl rfl hb1_23 ?_
      refine VX.meek rfl ?_
      refine VX.pickA rfl (fun _ => rfl) ?_
      exact VX.nil ⟨rfl, rfl⟩
    · refine VX.guardF rfl rfl hb1_23 ?_
      refine VX.guardF rfl rfl hb1_23 ?_
      exact VX.pickA rfl (fun h => absurd (h.symm.trans hb1_23) (by decide)) (VX.nil ⟨rfl, rfl⟩)
  refine VX.meek rfl ?_
  refine VX.nil ?_
  refine VC.ret ?_
  exact ⟨trivial, _, rfl, Cv.eq (congrArg BL (by unfold rightB sdB; simp only [Bool.and_assoc])) rfl⟩
abbrev pen19C (p : PenS) : List T := [I64 p.f, U8 p.pl, U8 0, U8 0, .v (.int .u32 0), I64 p.x, I64 p.y, BL p.cl, .islc (encL cR p.clip) p.clip.length none]
theorem check19_p (p : PenS) : CallP Tryz.prog 10 [.agg (pen19C p)] (I64 (penE p)) := by
  refine CallP.intro2 au_pu au_pu ?_
  refine CallT.intro tab_ok Tryz.func10 rfl (by kernel_rfl) (Nat.le_of_ble_eq_true rfl) ?_
  refine VC.reg tab_ok [1] rfl ?_
  refine VX.newI rfl rfl ?_
  refine VX.meek rfl ?_
  refine VX.nil ?_
  refine VC.seq ?_
  refine VC.reg tab_ok [] rfl ?_
  refine VX.meek rfl ?_
  first | refine VX.meek rfl ?_ | refine VX.loadI rfl rfl au_l ?_ | refine VX.loadP rfl rfl rfl au_l ?_
  iterate 2 refine VX.meek rfl ?_
  refine' VX.merge (d := 11) [_, _, _, _] rfl ?_ rfl ?_
  rotate_left
  · refine VX.guard rfl rfl (fun hb1_3 => ?_) (fun hb1_3 => ?_)
    · have ghb1_3 := hb1_3
      try simp only [au_std, Bool.not_true, Bool.not_false] at ghb1_3
      refine VX.meek rfl ?_
      refine VX.guardT rfl rfl hb1_3 ?_
      first | refine VX.meek rfl ?_ | refine VX.loadI rfl rfl au_l ?_ | refine VX.loadP rfl rfl rfl au_l ?_
      refine VX.guardT rfl rfl hb1_3 ?_
      refine VX.meek rfl ?_
      refine VX.pickO rfl (fun _ => rfl) ?_
      exact VX.nil ⟨rfl, rfl⟩
    · refine VX.guardF rfl rfl hb1_3 ?_
      refine VX.guardF rfl rfl hb1_3 ?_
      exact VX.pickO rfl (fun h => absurd (h.symm.trans hb1_3) (by decide)) (VX.nil ⟨rfl, rfl⟩)
  refine VX.nil ?_
  refine VC.cond rfl (fun hc0 => ?_) (fun hc0 => ?_)
  · (try simp only [au_std] at hc0); have hk : ropKnown p.f = (decide (0 ≤ p.f) && decide (p.f ≤ 15)) := rfl
    refine VC.reg tab_ok [] rfl ?_
    refine VX.meek rfl ?_
    refine VX.nil ?_
    refine VC.ret ?_
    exact ⟨trivial, _, rfl, Cv.eq (congrArg I64 (by unfold penE; rw [if_neg (by rw [hk]; simp; omega)])) rfl⟩
  · (try simp only [au_std] at hc0); have hk : ropKnown p.f = (decide (0 ≤ p.f) && decide (p.f ≤ 15)) := rfl
    refine VC.skip ?_
    refine VC.seq ?_
    refine VC.reg tab_ok [] rfl ?_
    refine VX.meek rfl ?_
    first | refine VX.meek rfl ?_ | refine VX.loadI rfl rfl au_l ?_ | refine VX.loadP rfl rfl rfl au_l ?_
    refine VX.callP0 rfl rfl rfl (place19_p _) ?_
    iterate 2 refine VX.meek rfl ?_
    refine' VX.merge (d := 21) [_, _, _, _, _] rfl ?_ rfl ?_
    rotate_left
    · refine VX.guard rfl rfl (fun hb3_4 => ?_) (fun hb3_4 => ?_)
      · have ghb3_4 := hb3_4
        try simp only [au_std, Bool.not_true, Bool.not_false] at ghb3_4
        refine VX.meek rfl ?_
        refine VX.guardT rfl rfl hb3_4 ?_
        first | refine VX.meek rfl ?_ | refine VX.loadI rfl rfl au_l ?_ | refine VX.loadP rfl rfl rfl au_l ?_
        refine VX.guardT rfl rfl hb3_4 ?_
        refine VX.callP0 rfl rfl rfl (place19_p _) ?_
        refine VX.guardT rfl rfl hb3_4 ?_
        refine VX.meek rfl ?_
        refine VX.pickO rfl (fun _ => rfl) ?_
        exact VX.nil ⟨rfl, rfl⟩
      · refine VX.guardF rfl rfl hb3_4 ?_
        refine VX.guardF rfl rfl hb3_4 ?_
        refine VX.guardF rfl rfl hb3_4 ?_
        exact VX.pickO rfl (fun h => absurd (h.symm.trans hb3_4) (by decide)) (VX.nil ⟨rfl, rfl⟩)
    refine VX.nil ?_
    refine VC.cond rfl (fun hc1 => ?_) (fun hc1 => ?_)
    · (try simp only [au_std] at hc1)
      refine VC.reg tab_ok [] rfl ?_
      refine VX.meek rfl ?_
      refine VX.nil ?_
      refine VC.ret ?_
      exact ⟨trivial, _, rfl, Cv.eq (congrArg I64 (by unfold penE; rw [if_pos (by rw [hk]; simp; omega), if_neg (by (try simp only [au_std] at hc1); rintro ⟨a, b⟩; simp [a, b] at hc1)])) rfl⟩
    · (try simp only [au_std] at hc1)
      refine VC.skip ?_
      refine VC.seq ?_
      refine VC.reg tab_ok [] rfl ?_
      refine VX.meek rfl ?_
      first | refine VX.meek rfl ?_ | refine VX.loadI rfl rfl au_l ?_ | refine VX.loadP rfl rfl rfl au_l ?_
      iterate 3 refine VX.meek rfl ?_
      refine' VX.merge (d := 30) [_, _, _, _] rfl ?_ rfl ?_
      rotate_left
      · refine VX.guard rfl rfl (fun hb5_4 => ?_) (fun hb5_4 => ?_)
        · have ghb5_4 := hb5_4
          try simp only [au_std, Bool.not_true, Bool.not_false] at ghb5_4
          refine VX.meek rfl ?_
          refine VX.guardT rfl rfl hb5_4 ?_
          first | refine VX.meek rfl ?_ | refine VX.loadI rfl rfl au_l ?_ | refine VX.loadP rfl rfl rfl au_l ?_
          refine VX.guardT rfl rfl hb5_4 ?_
          refine VX.meek rfl ?_
          refine VX.pickA rfl (fun _ => rfl) ?_
          exact VX.nil ⟨rfl, rfl⟩
        · refine VX.guardF rfl rfl hb5_4 ?_
          refine VX.guardF rfl rfl hb5_4 ?_
          exact VX.pickA rfl (fun h => absurd (h.symm.trans hb5_4) (by decide)) (VX.nil ⟨rfl, rfl⟩)
      refine VX.nil ?_
      refine VC.cond rfl (fun hc2 => ?_) (fun hc2 => ?_)
      · (try simp only [au_std] at hc2)
        refine VC.reg tab_ok [] rfl ?_
        refine VX.meek rfl ?_
        refine VX.nil ?_
        refine VC.ret ?_
        exact ⟨trivial, _, rfl, Cv.eq (congrArg I64 (by unfold penE; rw [if_pos (by rw [hk]; simp; omega), if_pos (by (try simp at hc1); simpa using hc1), if_pos (by (try simp at hc2); exact ⟨hc2.2, by have := hc2.1; omega⟩)])) rfl⟩
      · (try simp only [au_std] at hc2)
        refine VC.skip ?_
        refine VC.seq ?_
        refine VC.reg tab_ok [] rfl ?_
        refine VX.meek rfl ?_
        first | refine VX.meek rfl ?_ | refine VX.loadI rfl rfl au_l ?_ | refine VX.loadP rfl rfl rfl au_l ?_
        iterate 2 refine VX.meek rfl ?_
        refine VX.nil ?_
        refine VC.cond rfl (fun hc3 => ?_) (fun hc3 => ?_)
        · (try simp only [au_std] at hc3)
          refine VC.reg tab_ok [] rfl ?_
          refine VX.meek rfl ?_
          refine VX.nil ?_
          refine VC.ret ?_
          exact ⟨trivial, _, rfl, Cv.eq (congrArg I64 (by unfold penE; rw [if_pos (by rw [hk]; simp; omega), if_pos (by (try simp at hc1); simpa using hc1), if_neg (by (try simp at hc2); rintro ⟨a, b⟩; have := hc2 (by omega); simp [this] at a), if_pos (by (try simp at hc3); omega)])) rfl⟩
        · (try simp only [au_std] at hc3)
          refine VC.skip ?_
          refine VC.seq ?_
          refine VC.reg tab_ok [] rfl ?_
          refine VX.meek rfl ?_
          refine VX.nil ?_
          refine VC.block ?_
          refine VC.loopS (σ := Nat) (fun k => p.clip.length - k) (fun k => k ≤ p.clip.length ∧ ∀ r ∈ p.clip.take k, rightB r = true) (fun k => [(3, I64 k)]) (fun _ => []) [1] rfl (0) ?_ ?_ ?_
          · refine ⟨[], rfl, by first | trivial | decide, rfl, ?_, ?_⟩ <;> (repeat' first | exact trivial | exact CvB_n | exact CvB_d | refine CvE_app ?_ ?_ | refine CvE_cons rfl ?_ ?_ | refine CvH_cons ?_ ?_ | refine CvB_c rfl ?_ | fail) <;> first | exact au_v | (skip)
          · exact ⟨by omega, by simp⟩
          rintro k ⟨hk2, hok⟩
          refine VC.seq ?_
          refine VC.reg tab_ok [] rfl ?_
          iterate 2 refine VX.meek rfl ?_
          first | refine VX.meek rfl ?_ | refine VX.loadI rfl rfl au_l ?_ | refine VX.loadP rfl rfl rfl au_l ?_
          iterate 2 refine VX.meek rfl ?_
          refine VX.nil ?_
          refine VC.cond rfl (fun hc4 => ?_) (fun hc4 => ?_)
          · (try simp only [au_std] at hc4); have hkl : k < p.clip.length := (by omega); have hmk : p.clip[k]! ∈ p.clip := List.mem_iff_getElem?.2 ⟨k, getE hkl⟩
            refine VC.skip ?_
            refine VC.seq ?_
            refine VC.block ?_
            refine VC.reg tab_ok [] rfl ?_
            refine VX.meek rfl ?_
            first | refine VX.meek rfl ?_ | refine VX.loadI rfl rfl au_l ?_ | refine VX.loadP rfl rfl rfl au_l ?_
            refine VX.meek rfl ?_
            first | refine VX.idxI rfl rfl rfl rfl rfl rfl (by omega) ?_ | refine VX.idxO0 rfl rfl rfl rfl rfl rfl rfl (by omega) ?_ | refine VX.idxO0 rfl rfl rfl rfl rfl rfl au_z (by omega) ?_ | refine VX.idxO rfl rfl rfl rfl rfl rfl rfl (by omega) ?_ | refine VX.idxI rfl rfl rfl rfl rfl au_z (by omega) ?_ | refine VX.idxO rfl rfl rfl rfl rfl rfl au_z (by omega) ?_ | refine VX.meek rfl ?_
            first | refine VX.meek rfl ?_ | refine VX.loadI rfl rfl au_l ?_ | refine VX.loadP rfl rfl rfl au_l ?_
            refine VX.callP0 rfl rfl rfl (right19_p _) ?_
            refine VX.meek rfl ?_
            refine VX.nil ?_
            refine VC.cond rfl (fun hc5 => ?_) (fun hc5 => ?_)
            · (try simp only [au_std] at hc5)
              refine VC.reg tab_ok [] rfl ?_
              refine VX.meek rfl ?_
              refine VX.nil ?_
              refine VC.ret ?_
              exact ⟨trivial, _, rfl, Cv.eq (congrArg I64 (by unfold penE; rw [if_pos (by rw [hk]; simp; omega), if_pos (by (try simp at hc1); simpa using hc1), if_neg (by (try simp at hc2); rintro ⟨a, b⟩; have := hc2 (by omega); simp [this] at a), if_neg (by (try simp at hc3); omega), if_neg (fun h => by have := h _ hmk; rw [this] at hc5; (try simp at hc5))])) rfl⟩
            · (try simp only [au_std] at hc5)
              refine VC.skip ?_
              refine VC.regN tab_ok [] rfl ?_
              refine VX.meek rfl ?_
              first | refine VX.add rfl rfl (by omega) ?_ | refine VX.meek rfl ?_
              refine VX.meek rfl ?_
              refine VX.nil ?_
              refine ⟨k + 1, by (try dsimp only); omega, ?_, (by refine ⟨[], rfl, by first | trivial | decide, rfl, ?_, ?_⟩ <;> (repeat' first | exact trivial | exact CvB_n | exact CvB_d | refine CvE_app ?_ ?_ | refine CvE_cons rfl ?_ ?_ | refine CvH_cons ?_ ?_ | refine CvB_c rfl ?_ | fail) <;> first | exact au_v | (fail))⟩
              refine ⟨by omega, fun r hr => ?_⟩; rw [take_snoc hkl] at hr; rcases List.mem_append.1 hr with hr | hr; exact hok r hr; rw [List.mem_singleton] at hr; subst hr; simpa using hc5
          · (try simp only [au_std] at hc4); obtain rfl : k = p.clip.length := (by omega); rw [List.take_length] at hok
            refine VC.exit ?_
            refine VC.reg tab_ok [] rfl ?_
            refine VX.meek rfl ?_
            refine VX.nil ?_
            refine VC.ret ?_
            exact ⟨trivial, _, rfl, Cv.eq (congrArg I64 (by unfold penE; rw [if_pos (by rw [hk]; simp; omega), if_pos (by (try simp at hc1); simpa using hc1), if_neg (by (try simp at hc2); rintro ⟨a, b⟩; have := hc2 (by omega); simp [this] at a), if_neg (by (try simp at hc3); omega), if_pos hok])) rfl⟩
end
section
open Go.RowKit Go.Sort
set_option maxRecDepth 10000
set_option maxHeartbeats 1000000
section
variable {P : Program} {tab : Tab} {im : List Nat} {Hm : Hp} {ops : Array Oper} {l : List Oper} {wd : List Bool} {E : Env} {F : Hp} {K : Env → Hp → Prop} {d : Nat} {ty : TypeId} {pos : String} {after : Array Edge}
theorem VD.sub [Dr] {x y : Operand} {t t2 : Nat} {a b : Int} (hx : E.opd x = some (I64 a)) (hy : E.opd y = some (I64 b)) (h : -9223372036854775808 ≤ a - b ∧ a - b ≤ 9223372036854775807) (k : VD P tab im ops Hm l wd ((d, I64 (a - b)) :: E) F K) : VD P tab im ops Hm (⟨some d, .binOp .sub t x y t2, ty, pos, after, none⟩ :: l) (false :: wd) E F K :=
  VD.meek (t := I64 (a - b)) (by simp only [opM, hx, hy, mBin, binInt, wrap_in h]; rfl) k
end
def srcP (v : Nat) (ipx : List Int) (x y : Int) : Int → Int → Int := fun a b => ipx[((b - y) * v + (a - x)).toNat]!
def putV (v u : Nat) (x y : Int) (V : Int → Int → Prop) : Int → Int → Prop := fun a b => V a b ∧ inB' v u (a - x) (b - y) = true
theorem put_bad (w h v u : Nat) (px ipx : List Int) (clip : List Rect) (x y : Int) (p : PenS) (hbad : penE p ≠ 0) :
    CallP Tryz.prog 12 [gT w h px, regT clip, gT v u ipx, I64 x, I64 y, penT p] (gT w h px) := by
  refine CallP.intro2 au_pu au_pu ?_
  refine CallT.intro tab_ok Tryz.func12 rfl (by kernel_rfl) (Nat.le_of_ble_eq_true rfl) ?_
  refine VC.reg tab_ok [6, 7, 8, 11] rfl ?_
  refine VX.newI rfl rfl ?_
  refine VX.newI rfl rfl ?_
  refine VX.newI rfl rfl ?_
  refine VX.newI rfl rfl ?_
  refine VX.new rfl rfl ?_
  refine VX.nil ?_
  refine VC.seq ?_
  refine VC.reg tab_ok [] rfl ?_
  first | refine VX.meek rfl ?_ | refine VX.loadI rfl rfl au_l ?_ | refine VX.loadP rfl rfl rfl au_l ?_
  refine VX.callP0 rfl rfl rfl (check_any p) ?_
  refine VX.meek rfl ?_
  refine VX.nil ?_
  refine VC.cond rfl (fun hc0 => ?_) (fun hc0 => ?_)
  · (try simp only [au_std] at hc0)
    refine VC.reg tab_ok [] rfl ?_
    first | refine VX.meek rfl ?_ | refine VX.loadI rfl rfl au_l ?_ | refine VX.loadP rfl rfl rfl au_l ?_
    refine VX.store rfl rfl rfl rfl rfl au_sR rfl ?_
    refine VX.nil ?_
    refine VC.ret ?_
    exact ⟨trivial, _, rfl, Cv.agg (cv_g (Cv.pure (encL_pure cU _)))⟩
  · exact absurd hc0 (by simp [hbad])
theorem put_p {n : Nat} (w h v u : Nat) (px ipx : List Int) (clip : List Rect) (x y : Int) (p : PenS) (hw : w ≤ 128) (hh : h ≤ 128) (hl : px.length = w * h) (hb : ∀ v ∈ px, 0 ≤ v ∧ v < 256) (hv : v ≤ 128) (hu : u ≤ 128) (hil : ipx.length = v * u) (hib : ∀ v ∈ ipx, 0 ≤ v ∧ v < 256)
    (hc : Reg n clip) (hn : n ≤ 480) (hx : -1000 ≤ x ∧ x ≤ 1000) (hy : -1000 ≤ y ∧ y ≤ 1000) (hok : PenOk p) (hpl : 0 ≤ p.pl ∧ p.pl < 256) :
    CallP Tryz.prog 12 [gT w h px, regT clip, gT v u ipx, I64 x, I64 y, penT p] (gT w h (paintL w (putV v u x y (fun a b => inL clip a b ∧ 0 ≤ a ∧ a < w ∧ 0 ≤ b ∧ b < h)) (moveF w px p (srcP v ipx x y)) px)) := by
  have hr := opL_reg (k := and) rfl hc (Reg.of [⟨0, 0, w, h⟩])
  have hlen : (opL and clip (bandOf [⟨0, 0, (w : Int), (h : Int)⟩])).length ≤ 1048576 := Nat.le_trans hr.len (Nat.le_trans (Nat.mul_le_mul (by simp; omega) (by simp; omega)) (show 500 * 500 ≤ 1048576 by decide))
  have hinR : ∀ a b, inL (opL and clip (bandOf [⟨0, 0, (w : Int), (h : Int)⟩])) a b ↔ inL clip a b ∧ 0 ≤ a ∧ a < w ∧ 0 ≤ b ∧ b < h := fun a b => by rw [opL_and hc (Reg.of _), in_plane0 hw hh]
  have hwi : CallP Tryz.prog 39 [regT clip, rectT ⟨0, 0, w, h⟩] (regT (opL and clip (bandOf [⟨0, 0, (w : Int), (h : Int)⟩]))) := within_p hc ⟨0, 0, w, h⟩ ⟨by unfold i64; dsimp only; omega, by unfold i64; dsimp only; omega⟩ (by omega)
  have hins : ∀ a b, inL (opL and clip (bandOf [⟨0, 0, (w : Int), (h : Int)⟩])) a b → 0 ≤ a ∧ a < w ∧ 0 ≤ b ∧ b < h := fun a b hi => ((hinR a b).1 hi).2
  have hres : paintL w (putV v u x y (inL (opL and clip (bandOf [⟨0, 0, (w : Int), (h : Int)⟩])))) (moveF w px p (srcP v ipx x y)) px = paintL w (putV v u x y (fun a b => inL clip a b ∧ 0 ≤ a ∧ a < w ∧ 0 ≤ b ∧ b < h)) (moveF w px p (srcP v ipx x y)) px := paint_congr hl (fun a b _ _ _ _ => by unfold putV; rw [hinR]) (fun _ _ _ _ _ _ _ => rfl)
  rw [← hres]
  have hcan := hr.canon
  have hrok := hr.ok
  generalize opL and clip (bandOf [⟨0, 0, (w : Int), (h : Int)⟩]) = R at *
  clear hres hinR hr
  have hresb : ∀ v' ∈ paintL w (putV v u x y (inL R)) (moveF w px p (srcP v ipx x y)) px, 0 ≤ v' ∧ v' < 256 := paintL_bd hb (moveF_bd _ _ _ _)
  have hresl := (paintL_len w (putV v u x y (inL R)) (moveF w px p (srcP v ipx x y)) px).trans hl
  have hppi : T.pureL [plP v u ipx] = true := plP_pure v u ipx
  have hpp : ∀ k : Vw, k.R 1 1 → Cv k (plT 1 w h px) (plT 1 w h px) := fun k hk => Cv.iptr (cv_pl (Cv.pure (encL_pure cU _)) (Cv.slc hk (.inl rfl)))
  have hhas : ∀ a b, CallP Tryz.prog 42 [plP v u ipx, I64 a, I64 b] (BL (inB' v u a b)) := fun a b =>
    CallP.intro2 (by simp only [T.pureL, T.pure, encL_pure]; rfl) rfl ((phas_t v u ipx _ [] a b).mono fun t H' ⟨k1, k2⟩ => by subst k1; exact Cv.eq rfl rfl)
  have hwas : ∀ a b : Int, 0 ≤ a → a < v → 0 ≤ b → b < u → CallP Tryz.prog 45 [plP v u ipx, I64 a, I64 b] (U8 ipx[(b * v + a).toNat]!) := fun a b h1 h2 h3 h4 =>
    CallP.intro2 (by simp only [T.pureL, T.pure, encL_pure]; rfl) rfl ((was_t v u ipx _ [] a b hv hu hil h1 h2 h3 h4).mono fun t H' ⟨k1, k2⟩ => by subst k1; exact Cv.eq rfl rfl)
  refine CallP.intro2 au_pu au_pu ?_
  refine CallT.intro tab_ok Tryz.func12 rfl (by kernel_rfl) (Nat.le_of_ble_eq_true rfl) ?_
  refine VC.reg tab_ok [6, 7, 8, 11] rfl ?_
  refine VX.newI rfl rfl ?_
  refine VX.newI rfl rfl ?_
  refine VX.newI rfl rfl ?_
  refine VX.newI rfl rfl ?_
  refine VX.new rfl rfl ?_
  refine VX.nil ?_
  refine VC.seq ?_
  refine VC.reg tab_ok [] rfl ?_
  first | refine VX.meek rfl ?_ | refine VX.loadI rfl rfl au_l ?_ | refine VX.loadP rfl rfl rfl au_l ?_
  refine VX.callP0 rfl rfl rfl (check_p p hok) ?_
  refine VX.meek rfl ?_
  refine VX.nil ?_
  refine VC.cond rfl (fun hc0 => ?_) (fun hc0 => ?_)
  · exact absurd hc0 (by decide)
  · (try simp only [au_std] at hc0)
    refine VC.skip ?_
    refine VC.drwC tab_ok [] [_, _, _] ([.c [I64 0, I64 0, NIL]]) [false, true, false] rfl (by kernel_rfl) (by kernel_rfl) (by kernel_rfl) (by repeat' first | exact seen_nil | refine seen_dead ?_ | refine seen_same ?_) ?_
    refine VD.meek rfl ?_
    refine VD.call (t := plT 1 w h px) (F1 := [.c [I64 0, I64 0, NIL], .c (encL cU px)]) rfl rfl ?_ ?_ ?_
    · refine CallT.frame (planeOf_t w h px hw hh hl hb) [] rfl au_ci au_ci ?_
      rintro _ _ ⟨rfl, rfl⟩
      refine frK au_co au_co ?_
      exact ⟨rfl, rfl⟩
    · exact (by repeat' first | exact seen_nil | refine seen_dead ?_ | refine seen_same ?_)
    refine VD.meek rfl ?_
    refine VD.nil ?_
    refine VX.callP0 rfl rfl rfl (planeOf_p v u ipx hv hu hil hib) ?_
    iterate 2 refine VX.meek rfl ?_
    refine VX.nil ?_
    refine VC.seq ?_
    refine VC.drwC tab_ok [] [_, _, _, _, _, _, _] ([.c [I64 0, I64 0, NIL], .d]) [false, false, true, false, false, false, false] rfl (by kernel_rfl) (by kernel_rfl) (by kernel_rfl) (by repeat' first | exact seen_nil | refine seen_dead ?_ | refine seen_same ?_) ?_
    refine VD.meek rfl ?_
    refine VD.meek rfl ?_
    refine VD.call (t := rectT ⟨0, 0, w, h⟩) (F1 := [.c [I64 0, I64 0, NIL], .c (encL cU px), .c [I64 0, I64 0, I64 w, I64 h]]) rfl rfl ?_ ?_ ?_
    · refine CallT.frame (prect_t w h px (encL cU px)) [1] rfl au_ci au_ci ?_
      rintro _ _ ⟨rfl, rfl⟩
      refine frK au_co au_co ?_
      exact ⟨rfl, rfl⟩
    · exact (by repeat' first | exact seen_nil | refine seen_dead ?_ | refine seen_same ?_)
    refine VD.callP rfl rfl (hwi) ?_
    refine VD.callP rfl rfl (rects_p R hlen) ?_
    refine VD.meek rfl ?_
    refine VD.meek rfl ?_
    refine VD.nil ?_
    refine VX.nil ?_
    refine VC.block ?_
    refine VC.loopS (σ := Nat) (fun k => R.length - k) (fun k => k ≤ R.length) (fun k => [(35, I64 k), (13, plT 1 w h px), (12, .ptr 0 0)]) (fun k => [.c [I64 0, I64 0, NIL], .c (encL cU (paintL w (putV v u x y (inL (R.take k))) (moveF w px p (srcP v ipx x y)) px))]) [3, 4, 11, 14, 33, 34] rfl (0) ?_ ?_ ?_
    · refine ⟨[some 0, some 1], rfl, by first | trivial | decide, rfl, ?_, ?_⟩ <;> (repeat' first | exact trivial | exact CvB_n | exact CvB_d | refine CvE_app ?_ ?_ | refine CvE_cons rfl ?_ ?_ | refine CvH_cons ?_ ?_ | refine CvB_c rfl ?_ | fail) <;> first | exact au_v | (first | exact hpp _ rfl | exact CvL.pure rfl | exact CvL.eq (congrArg (encL cU) (paint_none hl (fun a b _ _ _ _ hh => by rw [List.take_zero] at hh; exact inL_nil hh.1)).symm) (encL_pure cU _))
    · (try dsimp only); omega
    rintro k hk
    refine VC.reg tab_ok [] rfl ?_
    refine VX.meek rfl ?_
    refine VX.nil ?_
    refine VC.seq ?_
    refine VC.cond rfl (fun hc1 => ?_) (fun hc1 => ?_)
    · (try simp only [au_std] at hc1); have hkl : k < R.length := (by omega); have hmk : R[k]! ∈ R := List.mem_iff_getElem?.2 ⟨k, getE hkl⟩; have hrk := hrok R[k]! hmk; unfold rok at hrk; have hik : ∀ x y, R[k]!.has x y → 0 ≤ x ∧ x < w ∧ 0 ≤ y ∧ y < h := fun x y hh => hins x y ⟨_, hmk, hh⟩
      refine VC.skip ?_
      refine VC.seq ?_
      refine VC.block ?_
      refine VC.reg tab_ok [] rfl ?_
      first | refine VX.idxI rfl rfl rfl rfl rfl rfl (by omega) ?_ | refine VX.idxO0 rfl rfl rfl rfl rfl rfl rfl (by omega) ?_ | refine VX.idxO0 rfl rfl rfl rfl rfl rfl au_z (by omega) ?_ | refine VX.idxO rfl rfl rfl rfl rfl rfl rfl (by omega) ?_ | refine VX.idxI rfl rfl rfl rfl rfl au_z (by omega) ?_ | refine VX.idxO rfl rfl rfl rfl rfl rfl au_z (by omega) ?_ | refine VX.meek rfl ?_
      first | refine VX.meek rfl ?_ | refine VX.loadI rfl rfl au_l ?_ | refine VX.loadP rfl rfl rfl au_l ?_
      refine VX.new rfl rfl ?_
      refine VX.store rfl rfl rfl rfl rfl au_sR rfl ?_
      refine VX.nil ?_
      refine VC.reg tab_ok [] rfl ?_
      refine VX.meek rfl ?_
      first | refine VX.meek rfl ?_ | refine VX.loadI rfl rfl au_l ?_ | refine VX.loadP rfl rfl rfl au_l ?_
      refine VX.meek rfl ?_
      refine VX.nil ?_
      refine VC.block ?_
      refine VC.loopS (σ := Nat) (fun j => R[k]!.H.toNat - j) (fun j => j ≤ R[k]!.H.toNat) (fun j => [(41, I64 j), (13, plT 1 w h px), (12, .ptr 0 0), (16, .ptr 2 0)]) (fun j => [.c [I64 0, I64 0, NIL], .c (encL cU (paintL w (putV v u x y (fun a b => inL (R.take k) a b ∨ (R[k]!.has a b ∧ b < R[k]!.Y + j))) (moveF w px p (srcP v ipx x y)) px)), .c [I64 R[k]!.X, I64 R[k]!.Y, I64 R[k]!.W, I64 R[k]!.H]]) [3, 4, 11, 14, 33, 34, 35, 40] rfl (0) ?_ ?_ ?_
      · refine ⟨[some 0, some 1, some 2], rfl, by first | trivial | decide, rfl, ?_, ?_⟩ <;> (repeat' first | exact trivial | exact CvB_n | exact CvB_d | refine CvE_app ?_ ?_ | refine CvE_cons rfl ?_ ?_ | refine CvH_cons ?_ ?_ | refine CvB_c rfl ?_ | fail) <;> first | exact au_v | (first | exact hpp _ rfl | exact CvL.pure rfl | exact CvL.eq (congrArg (encL cU) (paint_congr hl (fun a b _ _ _ _ => by unfold putV Rect.has; by_cases hV : inL (R.take k) a b; simp [hV]; simp only [hV, false_or]; constructor; intro kk; omega; intro kk; exact absurd kk.1 id) (fun _ _ _ _ _ _ _ => rfl))) (encL_pure cU _))
      · (try dsimp only); omega
      rintro j hj
      refine VC.reg tab_ok [] rfl ?_
      refine VX.meek rfl ?_
      refine VX.nil ?_
      refine VC.seq ?_
      refine VC.cond rfl (fun hc2 => ?_) (fun hc2 => ?_)
      · (try simp only [au_std] at hc2); have hjl : j < R[k]!.H.toNat := (by omega)
        refine VC.skip ?_
        refine VC.seq ?_
        refine VC.block ?_
        refine VC.reg tab_ok [] rfl ?_
        iterate 2 refine VX.meek rfl ?_
        refine VX.nil ?_
        refine VC.reg tab_ok [] rfl ?_
        refine VX.meek rfl ?_
        first | refine VX.meek rfl ?_ | refine VX.loadI rfl rfl au_l ?_ | refine VX.loadP rfl rfl rfl au_l ?_
        refine VX.meek rfl ?_
        refine VX.nil ?_
        refine VC.block ?_
        refine VC.loopS (σ := Nat) (fun i => R[k]!.W.toNat - i) (fun i => i ≤ R[k]!.W.toNat) (fun i => [(46, I64 i), (13, plT 1 w h px), (12, .ptr 0 0), (16, .ptr 2 0)]) (fun i => [.c [I64 0, I64 0, NIL], .c (encL cU (paintL w (putV v u x y (fun a b => inL (R.take k) a b ∨ (R[k]!.has a b ∧ (b < R[k]!.Y + j ∨ (b = R[k]!.Y + j ∧ a < R[k]!.X + i))))) (moveF w px p (srcP v ipx x y)) px)), .c [I64 R[k]!.X, I64 R[k]!.Y, I64 R[k]!.W, I64 R[k]!.H]]) [3, 4, 11, 14, 17, 33, 34, 35, 40, 41, 45] rfl (0) ?_ ?_ ?_
        · refine ⟨[some 0, some 1, some 2], rfl, by first | trivial | decide, rfl, ?_, ?_⟩ <;> (repeat' first | exact trivial | exact CvB_n | exact CvB_d | refine CvE_app ?_ ?_ | refine CvE_cons rfl ?_ ?_ | refine CvH_cons ?_ ?_ | refine CvB_c rfl ?_ | fail) <;> first | exact au_v | (first | exact hpp _ rfl | exact CvL.pure rfl | exact CvL.eq (congrArg (encL cU) (paint_congr hl (fun a b _ _ _ _ => by unfold putV Rect.has; by_cases hV : inL (R.take k) a b; simp [hV]; simp only [hV, false_or]; constructor; (intro kk; exact ⟨⟨kk.1.1, by omega⟩, kk.2⟩); (intro kk; exact ⟨⟨kk.1.1, by omega⟩, kk.2⟩)) (fun _ _ _ _ _ _ _ => rfl))) (encL_pure cU _))
        · (try dsimp only); omega
        rintro i hi
        refine VC.reg tab_ok [] rfl ?_
        refine VX.meek rfl ?_
        refine VX.nil ?_
        refine VC.seq ?_
        refine VC.cond rfl (fun hc3 => ?_) (fun hc3 => ?_)
        · (try simp only [au_std] at hc3); have hil2 : i < R[k]!.W.toNat := (by omega); have hhas2 : R[k]!.has (R[k]!.X + i) (R[k]!.Y + j) := (by unfold Rect.has; omega); have hpl2 := hik (R[k]!.X + i) (R[k]!.Y + j) hhas2; have hpi := place_lt hpl2.1 hpl2.2.1 hpl2.2.2.1 hpl2.2.2.2
          have hput : inB' v u (R[k]!.X + i - x) (R[k]!.Y + j - y) = true → (paintL w (putV v u x y (fun a b => inL (R.take k) a b ∨ (R[k]!.has a b ∧ (b < R[k]!.Y + j ∨ (b = R[k]!.Y + j ∧ a < R[k]!.X + i))))) (moveF w px p (srcP v ipx x y)) px).set ((R[k]!.Y + j) * w + (R[k]!.X + i)).toNat (mixI p.f (ipx[((R[k]!.Y + j - y) * v + (R[k]!.X + i - x)).toNat]!) px[((R[k]!.Y + j) * w + (R[k]!.X + i)).toNat]! p.pl) = paintL w (putV v u x y (fun a b => inL (R.take k) a b ∨ (R[k]!.has a b ∧ (b < R[k]!.Y + j ∨ (b = R[k]!.Y + j ∧ a < R[k]!.X + (i + 1 : Nat)))))) (moveF w px p (srcP v ipx x y)) px := fun hin => paint_put (f := moveF w px p (srcP v ipx x y)) hl hpl2.1 hpl2.2.1 hpl2.2.2.1 hpl2.2.2.2 rfl (fun a b _ _ _ _ => by
            unfold putV Rect.has
            by_cases hat : a = R[k]!.X + i ∧ b = R[k]!.Y + j
            · obtain ⟨rfl, rfl⟩ := hat
              simp only [hin]
              constructor
              · intro _; right; simp
              · intro _; refine ⟨.inr ⟨by unfold Rect.has at hhas2; exact hhas2, .inr (by first | exact ⟨rfl, by omega⟩ | exact ⟨trivial, by omega⟩)⟩, trivial⟩
            · simp only [hat, or_false]
              by_cases hV : inL (R.take k) a b
              · simp [hV]
              · simp only [hV, false_or]
                constructor
                · intro kk; exact ⟨⟨kk.1.1, by omega⟩, kk.2⟩
                · intro kk; exact ⟨⟨kk.1.1, by omega⟩, kk.2⟩)
          have hskip : inB' v u (R[k]!.X + i - x) (R[k]!.Y + j - y) = false → paintL w (putV v u x y (fun a b => inL (R.take k) a b ∨ (R[k]!.has a b ∧ (b < R[k]!.Y + j ∨ (b = R[k]!.Y + j ∧ a < R[k]!.X + i))))) (moveF w px p (srcP v ipx x y)) px = paintL w (putV v u x y (fun a b => inL (R.take k) a b ∨ (R[k]!.has a b ∧ (b < R[k]!.Y + j ∨ (b = R[k]!.Y + j ∧ a < R[k]!.X + (i + 1 : Nat)))))) (moveF w px p (srcP v ipx x y)) px := fun hin => paint_congr hl (fun a b _ _ _ _ => by
            unfold putV Rect.has
            by_cases hat : a = R[k]!.X + i ∧ b = R[k]!.Y + j
            · obtain ⟨rfl, rfl⟩ := hat
              simp only [hin]
              simp
            · by_cases hV : inL (R.take k) a b
              · simp [hV]
              · simp only [hV, false_or]
                constructor
                · intro kk; exact ⟨⟨kk.1.1, by omega⟩, kk.2⟩
                · intro kk; exact ⟨⟨kk.1.1, by omega⟩, kk.2⟩) (fun _ _ _ _ _ _ _ => rfl)
          have hslen : (paintL w (putV v u x y (fun a b => inL (R.take k) a b ∨ (R[k]!.has a b ∧ (b < R[k]!.Y + j ∨ (b = R[k]!.Y + j ∧ a < R[k]!.X + i))))) (moveF w px p (srcP v ipx x y)) px).length = w * h := (by rw [paintL_len, hl])
          generalize paintL w (putV v u x y (fun a b => inL (R.take k) a b ∨ (R[k]!.has a b ∧ (b < R[k]!.Y + j ∨ (b = R[k]!.Y + j ∧ a < R[k]!.X + i))))) (moveF w px p (srcP v ipx x y)) px = s at *
          refine VC.skip ?_
          refine VC.seq ?_
          refine VC.block ?_
          refine VC.reg tab_ok [] rfl ?_
          iterate 2 refine VX.meek rfl ?_
          refine VX.nil ?_
          refine VC.drw tab_ok [] [_, _, _, _, _, _, _, _, _, _] rfl (by kernel_rfl) (by kernel_rfl) ?_
          refine VX.meek rfl ?_
          first | refine VX.meek rfl ?_ | refine VX.loadI rfl rfl au_l ?_ | refine VX.loadP rfl rfl rfl au_l ?_
          refine VX.meek rfl ?_
          first | refine VX.add rfl rfl (by omega) ?_ | refine VX.meek rfl ?_
          refine VX.meek rfl ?_
          first | refine VX.meek rfl ?_ | refine VX.loadI rfl rfl au_l ?_ | refine VX.loadP rfl rfl rfl au_l ?_
          refine VX.meek rfl ?_
          first | refine VX.add rfl rfl (by omega) ?_ | refine VX.meek rfl ?_
          iterate 2 refine VX.meek rfl ?_
          refine VX.nil ?_
          refine VX.nil ?_
          refine VC.reg tab_ok [] rfl ?_
          iterate 3 refine VX.meek rfl ?_
          first | refine VX.sub rfl rfl (by omega) ?_ | refine VX.meek rfl ?_
          iterate 2 refine VX.meek rfl ?_
          first | refine VX.sub rfl rfl (by omega) ?_ | refine VX.meek rfl ?_
          refine VX.callP0 rfl rfl rfl (hhas _ _) ?_
          refine VX.nil ?_
          refine VC.cond rfl (fun hc4 => ?_) (fun hc4 => ?_)
          · have hib2 := inB_iff.1 hc4; have hsp := bang_bd hib ((R[k]!.Y + j - y) * v + (R[k]!.X + i - x)).toNat
            refine VC.drwCN tab_ok [] [_, _, _, _, _, _, _, _, _, _, _, _, _, _, _, _, _, _, _, _] ([.c [I64 0, I64 0, NIL], .d, .c [I64 R[k]!.X, I64 R[k]!.Y, I64 R[k]!.W, I64 R[k]!.H]]) [false, false, false, false, false, false, false, false, false, false, false, false, false, false, false, false, true, false, false, false] rfl (by kernel_rfl) (by kernel_rfl) (by kernel_rfl) (by repeat' first | exact seen_nil | refine seen_dead ?_ | refine seen_same ?_) ?_
            refine VD.meek rfl ?_
            refine VD.meek rfl ?_
            refine VD.meek rfl ?_
            refine VD.meek rfl ?_
            refine VD.meek rfl ?_
            refine VD.meek rfl ?_
            refine VD.meek rfl ?_
            refine VD.meek rfl ?_
            refine VD.sub rfl rfl (by omega) ?_
            refine VD.meek rfl ?_
            refine VD.meek rfl ?_
            refine VD.sub rfl rfl (by omega) ?_
            refine VD.callP rfl rfl (hwas _ _ hib2.1 hib2.2.1 hib2.2.2.1 hib2.2.2.2) ?_
            refine VD.meek rfl ?_
            refine VD.meek rfl ?_
            refine VD.meek rfl ?_
            refine VD.call (t := U8 px[((R[k]!.Y + j) * w + (R[k]!.X + i)).toNat]!) (F1 := [.c [I64 0, I64 0, NIL], .c (encL cU s), .c [I64 R[k]!.X, I64 R[k]!.Y, I64 R[k]!.W, I64 R[k]!.H]]) rfl rfl ?_ ?_ ?_
            · refine CallT.frame (was_t w h px (nwT 0 px.length) [.c (encL cU s)] (R[k]!.X + i) (R[k]!.Y + j) hw hh hl hpl2.1 hpl2.2.1 hpl2.2.2.1 hpl2.2.2.2) [1] rfl au_ci au_ci ?_
              rintro _ _ ⟨rfl, rfl⟩
              refine frK au_co au_co ?_
              exact ⟨rfl, rfl⟩
            · exact (by repeat' first | exact seen_nil | refine seen_dead ?_ | refine seen_same ?_)
            refine VD.meek rfl ?_
            refine VD.meek rfl ?_
            refine VD.callP rfl rfl (mix_p p.f _ _ p.pl hsp (bang_bd hb _) hpl) ?_
            refine VD.nil ?_
            refine VX.callT rfl rfl (CallT.frame (set_t w h px s (R[k]!.X + i) (R[k]!.Y + j) _ hw hh hl hslen hpl2.1 hpl2.2.1 hpl2.2.2.1 hpl2.2.2.2) [1] rfl au_ci au_ci ?_)
            rintro _ _ ⟨rfl, rfl⟩
            refine frK au_co au_co ?_
            refine VX.nil ?_
            refine VC.regN tab_ok [] rfl ?_
            first | refine VX.add rfl rfl (by omega) ?_ | refine VX.meek rfl ?_
            refine VX.meek rfl ?_
            refine VX.nil ?_
            refine ⟨i + 1, by (try dsimp only); omega, ?_, (by refine ⟨[some 0, some 1, some 2], rfl, by first | trivial | decide, rfl, ?_, ?_⟩ <;> (repeat' first | exact trivial | exact CvB_n | exact CvB_d | refine CvE_app ?_ ?_ | refine CvE_cons rfl ?_ ?_ | refine CvH_cons ?_ ?_ | refine CvB_c rfl ?_ | fail) <;> first | exact au_v | (first | exact hpp _ rfl | exact CvL.pure rfl | exact CvL.eq (congrArg (encL cU) (hput hc4)) (encL_pure cU _)))⟩
            (try dsimp only); omega
          · (try simp only [au_std] at hc4)
            refine VC.skip ?_
            refine VC.regN tab_ok [] rfl ?_
            first | refine VX.add rfl rfl (by omega) ?_ | refine VX.meek rfl ?_
            refine VX.meek rfl ?_
            refine VX.nil ?_
            refine ⟨i + 1, by (try dsimp only); omega, ?_, (by refine ⟨[some 0, some 1, some 2], rfl, by first | trivial | decide, rfl, ?_, ?_⟩ <;> (repeat' first | exact trivial | exact CvB_n | exact CvB_d | refine CvE_app ?_ ?_ | refine CvE_cons rfl ?_ ?_ | refine CvH_cons ?_ ?_ | refine CvB_c rfl ?_ | fail) <;> first | exact au_v | (first | exact hpp _ rfl | exact CvL.pure rfl | exact CvL.eq (congrArg (encL cU) (hskip (by simpa using hc4))) (encL_pure cU _)))⟩
            (try dsimp only); omega
        · (try simp only [au_std] at hc3)
          refine VC.exit ?_
          refine VC.regN tab_ok [] rfl ?_
          first | refine VX.add rfl rfl (by omega) ?_ | refine VX.meek rfl ?_
          refine VX.meek rfl ?_
          refine VX.nil ?_
          refine ⟨j + 1, by (try dsimp only); omega, ?_, (by refine ⟨[some 0, some 1, some 2], rfl, by first | trivial | decide, rfl, ?_, ?_⟩ <;> (repeat' first | exact trivial | exact CvB_n | exact CvB_d | refine CvE_app ?_ ?_ | refine CvE_cons rfl ?_ ?_ | refine CvH_cons ?_ ?_ | refine CvB_c rfl ?_ | fail) <;> first | exact au_v | (first | exact hpp _ rfl | exact CvL.pure rfl | exact CvL.eq (congrArg (encL cU) (paint_congr hl (fun a b _ _ _ _ => by unfold putV Rect.has; by_cases hV : inL (R.take k) a b; simp [hV]; simp only [hV, false_or]; constructor; (intro kk; exact ⟨⟨kk.1.1, by omega⟩, kk.2⟩); (intro kk; exact ⟨⟨kk.1.1, by omega⟩, kk.2⟩)) (fun _ _ _ _ _ _ _ => rfl))) (encL_pure cU _)))⟩
          (try dsimp only); omega
      · (try simp only [au_std] at hc2)
        refine VC.exit ?_
        refine VC.regN tab_ok [] rfl ?_
        first | refine VX.add rfl rfl (by omega) ?_ | refine VX.meek rfl ?_
        refine VX.meek rfl ?_
        refine VX.nil ?_
        refine ⟨k + 1, by (try dsimp only); omega, ?_, (by refine ⟨[some 0, some 1], rfl, by first | trivial | decide, rfl, ?_, ?_⟩ <;> (repeat' first | exact trivial | exact CvB_n | exact CvB_d | refine CvE_app ?_ ?_ | refine CvE_cons rfl ?_ ?_ | refine CvH_cons ?_ ?_ | refine CvB_c rfl ?_ | fail) <;> first | exact au_v | (first | exact hpp _ rfl | exact CvL.pure rfl | exact CvL.eq (congrArg (encL cU) (paint_congr hl (fun a b _ _ _ _ => by unfold putV; rw [inL_take hkl]; unfold Rect.has; by_cases hV : inL (R.take k) a b; simp [hV]; simp only [hV, false_or]; constructor; (intro kk; exact ⟨⟨kk.1, by omega⟩, kk.2⟩); (intro kk; exact ⟨kk.1.1, kk.2⟩)) (fun _ _ _ _ _ _ _ => rfl))) (encL_pure cU _)))⟩
        (try dsimp only); omega
    · (try simp only [au_std] at hc1); obtain rfl : k = R.length := (by omega); rw [List.take_length]
      refine VC.view ([(13, .iptr (plC w h px (.islc (encL cU (paintL w (putV v u x y (inL R)) (moveF w px p (srcP v ipx x y)) px)) px.length none)) 0), (12, .ptr 0 0)]) ([.c [I64 0, I64 0, NIL]]) [] rfl (by refine ⟨[some 0], rfl, by first | trivial | decide, rfl, ?_, ?_⟩ <;> (repeat' first | exact trivial | exact CvB_n | exact CvB_d | refine CvE_app ?_ ?_ | refine CvE_cons rfl ?_ ?_ | refine CvH_cons ?_ ?_ | refine CvB_c rfl ?_ | fail) <;> first | exact au_v | (first | exact CvL.pure rfl | exact Cv.iptr (cv_pl (Cv.pure (encL_pure cU _)) (Cv.fslc0 ⟨rfl, by simp⟩ (CvL.pure (encL_pure cU _)))))) ?_
      refine VC.exit ?_
      refine VC.reg tab_ok [] rfl ?_
      refine VX.meek rfl ?_
      refine VX.callP0 rfl rfl rfl (pgrid_n w h px (paintL w (putV v u x y (inL R)) (moveF w px p (srcP v ipx x y)) px) px.length (paintL_len _ _ _ _) hw hh hl hresl hb hresb) ?_
      refine VX.store rfl rfl rfl rfl rfl au_sR rfl ?_
      refine VX.nil ?_
      refine VC.ret ?_
      exact ⟨trivial, _, rfl, Cv.agg (cv_g (Cv.pure (encL_pure cU _)))⟩
end
section
def runGo (m : Nat) (l : List UInt8) : Nat → Nat → Nat
  | 0, k => k
  | f + 1, k => if k < m ∧ k < l.length ∧ l.getD k 0 = l.getD 0 0 then runGo m l f (k + 1) else k
def runBy (l : List UInt8) : Nat := runGo 130 l 130 1
theorem runGo_ge (m : Nat) (l : List UInt8) : ∀ f k, k ≤ runGo m l f k
  | 0, k => Nat.le_refl _
  | f + 1, k => by
    rw [runGo]
    split
    · have := runGo_ge m l f (k + 1); omega
    · exact Nat.le_refl _
theorem runGo_le (m : Nat) (l : List UInt8) : ∀ f k, k ≤ m → runGo m l f k ≤ m
  | 0, k, h => h
  | f + 1, k, h => by
    rw [runGo]
    split
    · rename_i hc; exact runGo_le m l f (k + 1) (by omega)
    · exact h
theorem runGo_len (m : Nat) (l : List UInt8) : ∀ f k, k ≤ l.length → runGo m l f k ≤ l.length
  | 0, k, h => h
  | f + 1, k, h => by
    rw [runGo]
    split
    · rename_i hc; exact runGo_len m l f (k + 1) (by omega)
    · exact h
theorem runL_bd (l : List UInt8) : 1 ≤ runBy l ∧ runBy l ≤ 130 := ⟨runGo_ge _ _ _ _, runGo_le _ _ _ _ (by omega)⟩
theorem runBy_len (l : List UInt8) (h : 1 ≤ l.length) : runBy l ≤ l.length := runGo_len _ _ _ _ h
def plainGo (l : List UInt8) : Nat → Nat → Nat
  | 0, k => k
  | f + 1, k => if k < l.length ∧ k < 128 ∧ runBy (l.drop k) < 3 then plainGo l f (k + 1) else k
def plainL (l : List UInt8) : Nat := plainGo l 128 1
theorem plainGo_ge (l : List UInt8) : ∀ f k, k ≤ plainGo l f k
  | 0, k => Nat.le_refl _
  | f + 1, k => by
    rw [plainGo]
    split
    · have := plainGo_ge l f (k + 1); omega
    · exact Nat.le_refl _
theorem plainGo_le (l : List UInt8) : ∀ f k, k ≤ 128 → k ≤ l.length → plainGo l f k ≤ 128 ∧ plainGo l f k ≤ l.length
  | 0, k, h, h' => ⟨h, h'⟩
  | f + 1, k, h, h' => by
    rw [plainGo]
    split
    · rename_i hc; exact plainGo_le l f (k + 1) (by omega) (by omega)
    · exact ⟨h, h'⟩
theorem plainL_bd (l : List UInt8) (h : 1 ≤ l.length) : 1 ≤ plainL l ∧ plainL l ≤ 128 ∧ plainL l ≤ l.length :=
  ⟨plainGo_ge _ _ _, plainGo_le _ _ _ (by omega) h⟩
def shortF : Nat → List UInt8 → List UInt8
  | 0, _ => []
  | _ + 1, [] => []
  | f + 1, x :: t =>
    if 3 ≤ runBy (x :: t) then UInt8.ofNat (125 + runBy (x :: t)) :: x :: shortF f ((x :: t).drop (runBy (x :: t)))
    else UInt8.ofNat (plainL (x :: t) - 1) :: ((x :: t).take (plainL (x :: t)) ++ shortF f ((x :: t).drop (plainL (x :: t))))
def short (l : List UInt8) : List UInt8 := shortF l.length l
theorem shortF_more : ∀ (f g : Nat) (l : List UInt8), l.length ≤ f → l.length ≤ g → shortF f l = shortF g l
  | 0, g, l, h, _ => by
    obtain rfl : l = [] := List.length_eq_zero_iff.1 (by omega)
    cases g <;> rfl
  | f + 1, 0, l, _, h => by
    obtain rfl : l = [] := List.length_eq_zero_iff.1 (by omega)
    rfl
  | f + 1, g + 1, [], _, _ => rfl
  | f + 1, g + 1, x :: t, h1, h2 => by
    have r1 := (runL_bd (x :: t)).1
    have p1 := (plainL_bd (x :: t) (by simp)).1
    simp only [List.length_cons] at h1 h2
    rw [shortF, shortF, shortF_more f g ((x :: t).drop (runBy (x :: t))) (by simp; omega) (by simp; omega), shortF_more f g ((x :: t).drop (plainL (x :: t))) (by simp; omega) (by simp; omega)]
theorem short_nil : short [] = [] := rfl
theorem short_run (l : List UInt8) (h0 : 1 ≤ l.length) (h : 3 ≤ runBy l) : short l = UInt8.ofNat (125 + runBy l) :: l.getD 0 0 :: short (l.drop (runBy l)) := by
  match l, h0 with
  | x :: t, _ =>
    have r1 := (runL_bd (x :: t)).1
    rw [short, List.length_cons, shortF, if_pos h, short, shortF_more t.length _ _ (by simp; omega) (Nat.le_refl _)]
    rfl
theorem short_plain (l : List UInt8) (h0 : 1 ≤ l.length) (h : ¬ 3 ≤ runBy l) : short l = UInt8.ofNat (plainL l - 1) :: (l.take (plainL l) ++ short (l.drop (plainL l))) := by
  match l, h0 with
  | x :: t, _ =>
    have p1 := (plainL_bd (x :: t) (by simp)).1
    rw [short, List.length_cons, shortF, if_neg h, short, shortF_more t.length _ _ (by simp; omega) (Nat.le_refl _)]
theorem plainGo_stop (l : List UInt8) : ∀ f k, 128 ≤ k + f → plainGo l f k < 128 → plainGo l f k < l.length → 3 ≤ runBy (l.drop (plainGo l f k))
  | 0, k, hf, h, _ => by simp only [plainGo] at h; omega
  | f + 1, k, hf, h, h' => by
    rw [plainGo] at h h' ⊢
    split
    · rename_i hc
      rw [if_pos hc] at h h'
      exact plainGo_stop l f (k + 1) (by omega) h h'
    · rename_i hc
      rw [if_neg hc] at h h'
      by_cases hr : 3 ≤ runBy (l.drop k)
      · exact hr
      · exact absurd ⟨h', h, by omega⟩ hc
theorem plain_stop (l : List UInt8) (h : plainL l < 128) (h' : plainL l < l.length) : 3 ≤ runBy (l.drop (plainL l)) := plainGo_stop l 128 1 (by omega) h h'
theorem short_len2 : ∀ (n : Nat) (l : List UInt8), l.length ≤ n →
    (short l).length ≤ l.length + (l.length + 127) / 128 ∧ (3 ≤ runBy l → 1 ≤ l.length → (short l).length + 1 ≤ l.length + (l.length + 127) / 128)
  | 0, l, h => by
    obtain rfl : l = [] := List.length_eq_zero_iff.1 (by omega)
    simp [short_nil]
  | n + 1, l, h => by
    by_cases hl : 1 ≤ l.length
    · by_cases hr : 3 ≤ runBy l
      · have r2 := runBy_len l hl
        have ih := (short_len2 n (l.drop (runBy l)) (by simp; omega)).1
        rw [short_run l hl hr]
        simp only [List.length_cons, List.length_drop] at ih ⊢
        omega
      · have p := plainL_bd l hl
        have ih := short_len2 n (l.drop (plainL l)) (by simp; omega)
        have hs := plain_stop l
        rw [short_plain l hl hr]
        simp only [List.length_cons, List.length_append, List.length_take, List.length_drop] at ih ⊢
        rw [Nat.min_eq_left p.2.2]
        refine ⟨?_, fun h => absurd h hr⟩
        by_cases h1 : plainL l = l.length
        · omega
        · by_cases h2 : plainL l = 128
          · omega
          · have := ih.2 (hs (by omega) (by omega)) (by omega)
            omega
    · obtain rfl : l = [] := List.length_eq_zero_iff.1 (by omega)
      simp [short_nil]
theorem short_len (l : List UInt8) : (short l).length ≤ l.length + (l.length + 127) / 128 := (short_len2 l.length l (Nat.le_refl _)).1

/- a run alone -/
def errShort : Nat := 3
def errLong : Nat := 4
def stepL (n : UInt8) (rest : List UInt8) : Option (List UInt8 × List UInt8) :=
  if n.toNat < 128 then (if rest.length < n.toNat + 1 then none else some (rest.take (n.toNat + 1), rest.drop (n.toNat + 1)))
  else if rest.length = 0 then none else some (List.replicate (n.toNat - 125) (rest.getD 0 0), rest.drop 1)
def longF : Nat → List UInt8 → List UInt8 → List UInt8 × Nat
  | 0, _, acc => (acc, 0)
  | _ + 1, [], acc => (acc, 0)
  | f + 1, n :: rest, acc => match stepL n rest with
    | none => ([], errShort)
    | some (part, more) => if 65536 < acc.length + part.length then ([], errLong) else longF f more (acc ++ part)
def long (s : List UInt8) : List UInt8 × Nat := if 131072 < s.length then ([], errLong) else longF s.length s []
theorem stepL_less {n : UInt8} {rest part more : List UInt8} (h : stepL n rest = some (part, more)) : more.length < rest.length + 1 ∧ part.length ≤ 130 := by
  unfold stepL at h
  have := n.toNat_lt
  split at h
  · split at h
    · cases h
    · simp only [Option.some.injEq, Prod.mk.injEq] at h
      obtain ⟨rfl, rfl⟩ := h
      rw [List.length_drop, List.length_take]; omega
  · split at h
    · cases h
    · simp only [Option.some.injEq, Prod.mk.injEq] at h
      obtain ⟨rfl, rfl⟩ := h
      rw [List.length_drop, List.length_replicate]; omega
theorem longF_more : ∀ (f g : Nat) (s acc : List UInt8), s.length ≤ f → s.length ≤ g → longF f s acc = longF g s acc
  | 0, g, s, acc, h, _ => by
    obtain rfl : s = [] := List.length_eq_zero_iff.1 (by omega)
    cases g <;> rfl
  | f + 1, 0, s, acc, _, h => by
    obtain rfl : s = [] := List.length_eq_zero_iff.1 (by omega)
    rfl
  | f + 1, g + 1, [], acc, _, _ => rfl
  | f + 1, g + 1, n :: rest, acc, h1, h2 => by
    simp only [List.length_cons] at h1 h2
    rw [longF, longF]
    split
    · rfl
    · rename_i part more he
      have := (stepL_less he).1
      rw [longF_more f g more (acc ++ part) (by omega) (by omega)]
def longR (s acc : List UInt8) : List UInt8 × Nat := longF s.length s acc
theorem longR_nil (acc : List UInt8) : longR [] acc = (acc, 0) := rfl
theorem longR_cons (n : UInt8) (rest acc : List UInt8) : longR (n :: rest) acc = match stepL n rest with
    | none => ([], errShort)
    | some (part, more) => if 65536 < acc.length + part.length then ([], errLong) else longR more (acc ++ part) := by
  unfold longR
  rw [List.length_cons, longF]
  split
  · rfl
  · rename_i part more he
    have := (stepL_less he).1
    rw [longF_more rest.length more.length more _ (by omega) (Nat.le_refl _)]
theorem long_eq (s : List UInt8) (h : s.length ≤ 131072) : long s = longR s [] := by rw [long, if_neg (by omega), longR]
end
section
open Go.RowKit
theorem below_next {a w w' : World} (h : Below a.heap.size a w) (h2 : Below w.heap.size w w') : Below a.heap.size a w' := h.trans (h2.mono h.size)
theorem runGo_yes {l : List UInt8} {k : Nat} (h1 : k < 130) (h2 : k < l.length) (h3 : l.getD k 0 = l.getD 0 0) : runGo 130 l (131 - k) k = runGo 130 l (131 - (k + 1)) (k + 1) := by
  rw [show 131 - k = (131 - (k + 1)) + 1 by omega, runGo, if_pos ⟨h1, h2, h3⟩]
theorem runGo_no {l : List UInt8} {k : Nat} (hk : k ≤ 130) (h : ¬ (k < 130 ∧ k < l.length ∧ l.getD k 0 = l.getD 0 0)) : runGo 130 l (131 - k) k = k := by
  rw [show 131 - k = (131 - (k + 1)) + 1 by omega, runGo, if_neg h]
def byteAt (s : ByteArray) (k : Nat) : Int := ((s.data.toList.getD k 0).toNat : Int)
theorem idx_str {P : Program} {t : TypeId} (h : P.underlying t = some .string) (s : ByteArray) (k : Nat) (n : Int) (hn : n = k) (hk : k < s.size) :
    ∀ w : World, (Instr.index t (.string s) (.int .i64 n)).run P w = .ok (.int .u8 (byteAt s k)) w := by
  intro w
  subst hn
  rw [run_index_string w t s .i64 k h, dif_pos ⟨by omega, by omega⟩]
  have hl : k < s.data.toList.length := by simpa using hk
  have e : (s[(k : Int).toNat]'(by simpa using hk)) = s.data.toList.getD k 0 := by
    rw [List.getD_eq_getElem?_getD, List.getElem?_eq_getElem hl]
    simp only [Int.toNat_natCast, Option.getD_some]
    rfl
  rw [e]
  rfl
set_option maxHeartbeats 400000 in
theorem run_any (s : ByteArray) (i : Nat) (w : World) (hs : s.size ≤ 65536) (hi : i < s.size) :
    Calls Tryz.prog 51 #[.string s, .int .i64 i] w fun e w' => e = .returned (.int .i64 (runBy (s.data.toList.drop i))) ∧ Below w.heap.size w w' := by
  go_enter Tryz.func51, Tryz.ntmps51
  go_wp2_with fail
  go_loopw [5] (fun n wr => ∃ k : Nat, 1 ≤ k ∧ k ≤ 130 ∧ n = .int .i64 k ∧ Hid (runGo 130 (s.data.toList.drop i) (131 - k) k = runBy (s.data.toList.drop i)) ∧ Below w.heap.size w wr) (fun n _ => 130 - (intOf n).toNat)
  case atStart => exact ⟨1, by omega, by omega, rfl, rfl, Below.refl _ _⟩
  case round =>
    obtain ⟨k, hk1, hk2, rfl, hinv, hb⟩ := hrel
    by_cases h1 : k < 130
    · have h1' : decide ((k : Int) < 130) = true := by simp; omega
      by_cases h2 : i + k < s.size
      · have h2' : decide ((i : Int) + (k : Int) < (s.size : Int)) = true := by simp; omega
        have hw1 : IntKind.i64.wrap ((i : Int) + (k : Int)) = (i : Int) + (k : Int) := IntWalk.i64_in _ (by omega)
        have hw2 : (0 : Int) ≤ (i : Int) + (k : Int) := by omega
        have hw3 : ((i : Int) + (k : Int)).toNat = i + k := by omega
        have hx1 := idx_str Tryz.underlying9 s (i + k) ((i : Int) + (k : Int)) (by omega) h2
        have hx2 := idx_str Tryz.underlying9 s i (i : Int) rfl hi
        have hl : k < (s.data.toList.drop i).length := by simp; omega
        have e1 : (s.data.toList.drop i).getD k 0 = s.data.toList.getD (i + k) 0 := by simp [List.getD]
        have e0 : (s.data.toList.drop i).getD 0 0 = s.data.toList.getD i 0 := by simp [List.getD]
        by_cases h3 : s.data.toList.getD (i + k) 0 = s.data.toList.getD i 0
        · have h3' : (byteAt s (i + k) == byteAt s i) = true := by rw [byteAt, byteAt, h3]; simp
          have hgo := Lib.hid (runGo_yes h1 hl (by rw [e1, e0, h3]))
          clear e1 e0 h3
          go_wp2_with fail
          go_quiet (fail)
          clear hw1 hw2 hw3
          go_wp2_with fail
          go_roundw
          case rel => exact ⟨k + 1, by omega, by omega, by go_num, hgo.out.symm.trans hinv.out, below_drewN hb _⟩
          case measure => simp [intOf]; omega
        · have h3' : (byteAt s (i + k) == byteAt s i) = false := by
            simp only [byteAt, beq_eq_false_iff_ne, ne_eq]
            intro h
            exact h3 (UInt8.toNat_inj.1 (by omega))
          have hgo := Lib.hid (runGo_no (l := s.data.toList.drop i) hk2 (fun h => h3 (by rw [← e1, ← e0]; exact h.2.2)))
          clear e1 e0 h3
          go_wp2_with fail
          go_quiet (fail)
          clear hw1 hw2 hw3
          go_wp2_with fail
          go_ret
          exact ⟨by rw [← hinv.out, hgo.out]; rfl, below_drewN hb _⟩
      · have h2' : decide ((i : Int) + (k : Int) < (s.size : Int)) = false := by simp; omega
        have hw1 : IntKind.i64.wrap ((i : Int) + (k : Int)) = (i : Int) + (k : Int) := IntWalk.i64_in _ (by omega)
        have hgo := Lib.hid (runGo_no (l := s.data.toList.drop i) hk2 (fun h => h2 (by have := h.2.1; simp at this; omega)))
        go_wp2_with fail
        go_quiet (fail)
        clear hw1
        go_wp2_with fail
        go_ret
        exact ⟨by rw [← hinv.out, hgo.out]; rfl, below_drewN hb _⟩
    · have h1' : decide ((k : Int) < 130) = false := by simp; omega
      have hgo := Lib.hid (runGo_no (l := s.data.toList.drop i) hk2 (fun h => h1 h.1))
      go_wp2_with fail
      go_quiet (fail)
      go_wp2_with fail
      go_ret
      exact ⟨by rw [← hinv.out, hgo.out]; rfl, below_drewN hb _⟩
end
section
open Go.RowKit
theorem plainGo_yes {l : List UInt8} {k : Nat} (h1 : k < l.length) (h2 : k < 128) (h3 : runBy (l.drop k) < 3) : plainGo l (129 - k) k = plainGo l (129 - (k + 1)) (k + 1) := by
  rw [show 129 - k = (129 - (k + 1)) + 1 by omega, plainGo, if_pos ⟨h1, h2, h3⟩]
theorem plainGo_no {l : List UInt8} {k : Nat} (hk : k ≤ 128) (h : ¬ (k < l.length ∧ k < 128 ∧ runBy (l.drop k) < 3)) : plainGo l (129 - k) k = k := by
  rw [show 129 - k = (129 - (k + 1)) + 1 by omega, plainGo, if_neg h]
theorem runBy_at (s : ByteArray) (i : Nat) (n : Int) (hn : n = i) (r : Nat) (hr : runBy (s.data.toList.drop i) = r) (w : World) (hs : s.size ≤ 65536) (hi : i < s.size) :
    Calls Tryz.prog 51 #[.string s, .int .i64 n] w fun e w' => e = .returned (.int .i64 r) ∧ Below w.heap.size w w' := by
  subst hn; subst hr; exact run_any s i w hs hi
theorem extract_list (s : ByteArray) (i t : Nat) (_ht : t ≤ s.size) : (s.extract i t).data.toList = (s.data.toList.drop i).take (t - i) := by
  rw [ByteArray.data_extract, Array.toList_extract, List.extract_eq_take_drop]
theorem extract_size (s : ByteArray) (i t : Nat) (ht : t ≤ s.size) : (s.extract i t).size = t - i := by
  have h := congrArg List.length (extract_list s i t ht)
  simp at h
  simp
  omega
theorem acc_len {acc m l : List UInt8} (h : acc ++ m = short l) (hl : l.length ≤ 65536) : acc.length ≤ 70000 := by
  have h1 := short_len l
  have h2 : acc.length ≤ (short l).length := by rw [← h]; simp
  omega
set_option maxRecDepth 100000 in
set_option maxHeartbeats 1000000 in
theorem short_walk (s : ByteArray) (w : World) (hs : s.size ≤ 65536) :
    Calls Tryz.prog 14 #[.string s] w fun e w' => e = .returned (.string ⟨(short s.data.toList).toArray⟩) ∧ Below w.heap.size w w' := by
  have hsl : s.data.toList.length = s.size := by simp
  have HSL := Lib.hid hsl; clear hsl
  have hd0 : decide ((65536 : Int) < (s.size : Int)) = false := by simp; omega
  go_enter Tryz.func14, Tryz.ntmps14
  go_wp2_with fail
  go_loopw [4, 5, 6] (fun iv _ _ wr => ∃ (i : Nat) (acc : List UInt8), i ≤ s.size ∧ iv = .int .i64 i ∧ Tryz.Bd wr w.heap.size w.heap.size acc ∧ Hid (acc ++ short (s.data.toList.drop i) = short s.data.toList) ∧ Below w.heap.size w wr) (fun iv _ _ _ => s.size - (intOf iv).toNat)
  case atStart => exact ⟨0, [], Nat.zero_le _, rfl, Tryz.Bd.new w, rfl, (Below.refl _ _).alloc (Nat.le_refl _) _⟩
  case round =>
    obtain ⟨i, acc, hi, rfl, hbd, hinv, hb⟩ := hrel
    have hal := acc_len hinv.out (by rw [HSL.out]; exact hs)
    by_cases hlt : i < s.size
    · have hlen : 1 ≤ (s.data.toList.drop i).length := by rw [List.length_drop, HSL.out]; omega
      have hr1 := runL_bd (s.data.toList.drop i)
      have hr2 := runBy_len (s.data.toList.drop i) hlen
      rw [List.length_drop, HSL.out] at hr2
      have hx := idx_str Tryz.underlying9 s i (i : Int) rfl hlt
      generalize hr : runBy (s.data.toList.drop i) = r at hr1 hr2
      have HR := Lib.hid hr; clear hr
      obtain ⟨hr0, hr130⟩ := hr1
      go_wp2_with fail
      refine (runBy_at s i _ rfl r HR.out _ hs hlt).mono ?_
      rintro e w1 ⟨rfl, h1⟩
      have hbd1 := hbd.next h1
      have hb1 := below_next hb h1
      clear hbd hb h1
      by_cases h3 : 3 ≤ r
      · have hsh := Lib.hid (short_run (s.data.toList.drop i) hlen (by rw [HR.out]; exact h3))
        go_wp2_with fail
        refine (Tryz.bWriteByteI _ _ acc _ (UInt8.ofNat (125 + r)) ?_ _ hbd1 (by omega) hb1.size).mono ?_
        · rw [UInt8.toNat_ofNat']; omega
        rintro e w2 ⟨rfl, hbd2, h2⟩
        have hb2 := hb1.trans h2
        clear hbd1 hb1 h2
        go_wp2_with fail
        refine (Tryz.bWriteByteI _ _ _ _ (s.data.toList.getD i 0) rfl _ hbd2 (by simp; omega) hb2.size).mono ?_
        rintro e w3 ⟨rfl, hbd3, h3'⟩
        have hb3 := hb2.trans h3'
        clear hbd2 hb2 h3'
        go_wp2_with fail
        go_roundw
        case rel =>
          refine ⟨i + r, _, by omega, by go_num, hbd3, ?_, hb3⟩
          show _ = _
          rw [← hinv.out, hsh.out, HR.out]
          simp [List.drop_drop, List.getD]
        case measure => simp [intOf]; omega
      · have hsh := Lib.hid (short_plain (s.data.toList.drop i) hlen (by rw [HR.out]; exact h3))
        have h3' : decide ((3 : Int) ≤ (r : Int)) = false := by simp; omega
        have hp := plainL_bd (s.data.toList.drop i) hlen
        rw [List.length_drop, HSL.out] at hp
        generalize hpl : plainL (s.data.toList.drop i) = p at hp hsh
        have HP := Lib.hid hpl; clear hpl
        obtain ⟨hp1, hp128, hpl⟩ := hp
        go_wp2_with fail
        obtain ⟨wo, rfl⟩ : ∃ wo : World, wo = w1 := ⟨_, rfl⟩
        go_loopw [6] (fun tv wr => ∃ (t : Nat), i + 1 ≤ t ∧ t ≤ i + 128 ∧ t ≤ s.size ∧ tv = .int .i64 t ∧ Hid (plainGo (s.data.toList.drop i) (129 - (t - i)) (t - i) = p) ∧ Tryz.Bd wr w.heap.size w.heap.size acc ∧ Below w.heap.size w wr) (fun tv _ => s.size - (intOf tv).toNat)
        case atStart => exact ⟨i + 1, by omega, by omega, by omega, by go_num, by show _ = _; rw [show i + 1 - i = 1 by omega]; exact HP.out, hbd1, hb1⟩
        case round =>
          clear hbd1 hb1
          obtain ⟨t, ht1, ht2, ht3, rfl, hgo, hbd1, hb1⟩ := hrel
          have hdd : Hid ((s.data.toList.drop i).drop (t - i) = s.data.toList.drop t) := by show _ = _; rw [List.drop_drop]; congr 1; omega
          have hdl : Hid ((s.data.toList.drop i).length = s.size - i) := by show _ = _; rw [List.length_drop, HSL.out]
          by_cases ht4 : t < s.size
          · by_cases ht5 : t < i + 128
            · generalize hr' : runBy (s.data.toList.drop t) = q
              have HQ := Lib.hid hr'; clear hr'
              go_wp2_with fail
              refine (runBy_at s t _ rfl q HQ.out _ hs ht4).mono ?_
              rintro e w2 ⟨rfl, h2⟩
              have hbd2 := hbd1.next h2
              have hb2 := below_next hb1 h2
              clear hbd1 hb1 h2
              by_cases hq : q < 3
              · go_wp2_with fail
                go_roundw
                case rel =>
                  refine ⟨t + 1, by omega, by omega, by omega, by go_num, ?_, hbd2, hb2⟩
                  show _ = _
                  rw [← hgo.out, show t + 1 - i = (t - i) + 1 by omega]
                  exact (plainGo_yes (by rw [hdl.out]; omega) (by omega) (by rw [hdd.out, HQ.out]; exact hq)).symm
                case measure => simp [intOf]; omega
              · have hend : Hid (t - i = p) := by
                  show _ = _
                  rw [← hgo.out]
                  exact (plainGo_no (by omega) (fun h => hq (by have := h.2.2; rw [hdd.out, HQ.out] at this; exact this))).symm
                go_wp2_with fail
                refine (Tryz.bWriteByteI _ _ acc _ (UInt8.ofNat (p - 1)) ?_ _ hbd2 (by omega) hb2.size).mono ?_
                · have := hend.out; rw [UInt8.toNat_ofNat']; omega
                rintro e w3 ⟨rfl, hbd3, h3''⟩
                have hb3 := hb2.trans h3''
                clear hbd2 hb2 h3''
                go_wp2_with fail
                refine (Tryz.bWriteString _ _ _ (s.extract i t) _ hbd3 (by have := extract_size s i t ht3; simp; omega) hb3.size).mono ?_
                rintro e w4 ⟨rfl, hbd4, h4⟩
                have hb4 := hb3.trans h4
                clear hbd3 hb3 h4
                go_wp2_with fail
                go_roundw
                case rel =>
                  refine ⟨t, _, by omega, rfl, hbd4, ?_, hb4⟩
                  show _ = _
                  rw [← hinv.out, hsh.out, extract_list s i t ht3, hend.out, ← hdd.out, hend.out]
                  simp
                case measure => simp [intOf]; omega
            · have hend : Hid (t - i = p) := by
                show _ = _
                rw [← hgo.out]
                exact (plainGo_no (by omega) (fun h => ht5 (by have := h.2.1; omega))).symm
              go_wp2_with fail
              refine (Tryz.bWriteByteI _ _ acc _ (UInt8.ofNat (p - 1)) ?_ _ hbd1 (by omega) hb1.size).mono ?_
              · have := hend.out; rw [UInt8.toNat_ofNat']; omega
              rintro e w3 ⟨rfl, hbd3, h3''⟩
              have hb3 := hb1.trans h3''
              clear hbd1 hb1 h3''
              go_wp2_with fail
              refine (Tryz.bWriteString _ _ _ (s.extract i t) _ hbd3 (by have := extract_size s i t ht3; simp; omega) hb3.size).mono ?_
              rintro e w4 ⟨rfl, hbd4, h4⟩
              have hb4 := hb3.trans h4
              clear hbd3 hb3 h4
              go_wp2_with fail
              go_roundw
              case rel =>
                refine ⟨t, _, by omega, rfl, hbd4, ?_, hb4⟩
                show _ = _
                rw [← hinv.out, hsh.out, extract_list s i t ht3, hend.out, ← hdd.out, hend.out]
                simp
              case measure => simp [intOf]; omega
          · have hend : Hid (t - i = p) := by
              show _ = _
              rw [← hgo.out]
              exact (plainGo_no (by omega) (fun h => ht4 (by have := h.1; rw [hdl.out] at this; omega))).symm
            go_wp2_with fail
            refine (Tryz.bWriteByteI _ _ acc _ (UInt8.ofNat (p - 1)) ?_ _ hbd1 (by omega) hb1.size).mono ?_
            · have := hend.out; rw [UInt8.toNat_ofNat']; omega
            rintro e w3 ⟨rfl, hbd3, h3''⟩
            have hb3 := hb1.trans h3''
            clear hbd1 hb1 h3''
            go_wp2_with fail
            refine (Tryz.bWriteString _ _ _ (s.extract i t) _ hbd3 (by have := extract_size s i t ht3; simp; omega) hb3.size).mono ?_
            rintro e w4 ⟨rfl, hbd4, h4⟩
            have hb4 := hb3.trans h4
            clear hbd3 hb3 h4
            go_wp2_with fail
            go_roundw
            case rel =>
              refine ⟨t, _, by omega, rfl, hbd4, ?_, hb4⟩
              show _ = _
              rw [← hinv.out, hsh.out, extract_list s i t ht3, hend.out, ← hdd.out, hend.out]
              simp
            case measure => simp [intOf]; omega
    · obtain rfl : i = s.size := by omega
      have hfin : Hid (acc = short s.data.toList) := by
        show _ = _
        rw [← hinv.out, List.drop_of_length_le (by rw [HSL.out]; exact Nat.le_refl _), short_nil, List.append_nil]
      go_wp2_with fail
      refine (Tryz.bString _ _ acc _ hbd hb.size).mono ?_
      rintro e w1 ⟨rfl, h1⟩
      go_wp2_with fail
      go_ret
      exact ⟨by rw [← hfin.out]; rfl, hb.trans h1⟩
end
section
open Go.RowKit
theorem repeat_one (x : UInt8) : ∀ c : Nat, Lib.repeatL [x] c = List.replicate c x
  | 0 => rfl
  | c + 1 => by rw [Lib.repeatL, repeat_one x c, List.replicate_succ]; rfl
theorem repeat_at (s : ByteArray) (x : UInt8) (hs : s.data.toList = [x]) (c : Nat) (n : Int) (hn : n = c) (hc : c ≤ 200) (w : World) :
    Calls Tryz.prog 47 #[.string s, .int .i64 n] w fun e w' => e = .returned (.string ⟨(List.replicate c x).toArray⟩) ∧ Below w.heap.size w w' := by
  subst hn
  have hsz : s.size = 1 := by have := congrArg List.length hs; simpa using this
  have := Tryz.strings_Repeat s c w (by omega) (by rw [hsz]; omega)
  rw [hs, repeat_one] at this
  exact this
theorem stepL_plain_no {n : UInt8} {rest : List UInt8} (h1 : n.toNat < 128) (h2 : rest.length < n.toNat + 1) : stepL n rest = none := by unfold stepL; rw [if_pos h1, if_pos h2]
theorem stepL_plain {n : UInt8} {rest : List UInt8} (h1 : n.toNat < 128) (h2 : ¬ rest.length < n.toNat + 1) : stepL n rest = some (rest.take (n.toNat + 1), rest.drop (n.toNat + 1)) := by unfold stepL; rw [if_pos h1, if_neg h2]
theorem stepL_run_no {n : UInt8} {rest : List UInt8} (h1 : ¬ n.toNat < 128) (h2 : rest.length = 0) : stepL n rest = none := by unfold stepL; rw [if_neg h1, if_pos h2]
theorem stepL_run {n : UInt8} {rest : List UInt8} (h1 : ¬ n.toNat < 128) (h2 : ¬ rest.length = 0) : stepL n rest = some (List.replicate (n.toNat - 125) (rest.getD 0 0), rest.drop 1) := by unfold stepL; rw [if_neg h1, if_neg h2]
theorem long_walk_long (s : ByteArray) (w : World) (hs : s.size ≤ maxLen) (h : 131072 < s.size) :
    Calls Tryz.prog 13 #[.string s] w fun e w' => e = .returned (.tuple #[.string ⟨(long s.data.toList).1.toArray⟩, .int .i64 (long s.data.toList).2]) ∧ Below w.heap.size w w' := by
  have e : long s.data.toList = ([], errLong) := by unfold long; rw [if_pos (by simpa using h)]
  rw [e]
  unfold maxLen at hs
  clear e
  go_enter Tryz.func13, Tryz.ntmps13
  go_wp2
  go_ret2
  exact ⟨rfl, Below.refl _ _⟩
set_option maxRecDepth 100000 in
set_option maxHeartbeats 1000000 in
theorem long_walk (s : ByteArray) (w : World) (hs : s.size ≤ 131072) :
    Calls Tryz.prog 13 #[.string s] w fun e w' => e = .returned (.tuple #[.string ⟨(long s.data.toList).1.toArray⟩, .int .i64 (long s.data.toList).2]) ∧ Below w.heap.size w w' := by
  have hsl : s.data.toList.length = s.size := by simp
  rw [long_eq _ (by rw [hsl]; exact hs)]
  generalize hR : longR s.data.toList [] = R
  obtain ⟨out, code⟩ := R
  have HR := Lib.hid hR; clear hR
  have HSL := Lib.hid hsl; clear hsl
  have hd0 : decide ((131072 : Int) < (s.size : Int)) = false := by simp; omega
  go_enter Tryz.func13, Tryz.ntmps13
  go_wp2_with fail
  go_loopw [5, 6, 7] (fun iv _ _ wr => ∃ (i : Nat) (acc : List UInt8), i ≤ s.size ∧ iv = .int .i64 i ∧ acc.length ≤ 65536 ∧ Tryz.Bd wr w.heap.size w.heap.size acc ∧ Hid (longR (s.data.toList.drop i) acc = (out, code)) ∧ Below w.heap.size w wr) (fun iv _ _ _ => s.size - (intOf iv).toNat)
  case atStart => exact ⟨0, [], Nat.zero_le _, rfl, by simp, Tryz.Bd.new w, HR.out, (Below.refl _ _).alloc (Nat.le_refl _) _⟩
  case round =>
    obtain ⟨i, acc, hi, rfl, hal, hbd, hinv, hb⟩ := hrel
    by_cases hlt : i < s.size
    · have hx := idx_str Tryz.underlying9 s i (i : Int) rfl hlt
      have hdr : s.data.toList.drop i = s.data.toList.getD i 0 :: s.data.toList.drop (i + 1) := by
        have hl : i < s.data.toList.length := by rw [HSL.out]; exact hlt
        rw [List.drop_eq_getElem_cons hl]
        congr 1
        simp [List.getD, List.getElem?_eq_getElem hl]
      have hc := longR_cons (s.data.toList.getD i 0) (s.data.toList.drop (i + 1)) acc
      rw [← hdr, hinv.out] at hc
      have hlr : (s.data.toList.drop (i + 1)).length = s.size - (i + 1) := by rw [List.length_drop, HSL.out]
      have hbt := (s.data.toList.getD i 0).toNat_lt
      generalize hB : s.data.toList.getD i 0 = b at hc hbt
      have hx2 : byteAt s i = (b.toNat : Int) := by unfold byteAt; rw [hB]
      rw [hx2] at hx
      generalize hn : b.toNat = n at hx hbt
      have HN := Lib.hid hn; have HC := Lib.hid hc; have HLR := Lib.hid hlr
      clear hn hc hlr hdr hB hx2 hinv
      by_cases h128 : n < 128
      · by_cases hsh : s.size - (i + 1) < n + 1
        · have hfin : Hid ((out, code) = ([], errShort)) := by
            show _ = _
            rw [HC.out, stepL_plain_no (by rw [HN.out]; exact h128) (by rw [HLR.out, HN.out]; exact hsh)]
          go_wp2_with fail
          go_ret2
          have hf := hfin.out
          simp only [Prod.mk.injEq] at hf
          exact ⟨by rw [hf.1, hf.2]; rfl, hb⟩
        · have hstep := Lib.hid (stepL_plain (n := b) (rest := s.data.toList.drop (i + 1)) (by rw [HN.out]; exact h128) (by rw [HLR.out, HN.out]; exact hsh))
          have hpl : Hid ((s.extract (i + 1) (i + 1 + n + 1)).data.toList = (s.data.toList.drop (i + 1)).take (b.toNat + 1)) := by
            show _ = _
            rw [extract_list s _ _ (by omega), HN.out]; congr 1; omega
          have hps := extract_size s (i + 1) (i + 1 + n + 1) (by omega)
          have HPS := Lib.hid hps; clear hps
          have hps1 : (s.extract (i + 1) (i + 1 + n + 1)).size ≤ n + 1 := by rw [HPS.out]; omega
          have hps2 : n + 1 ≤ (s.extract (i + 1) (i + 1 + n + 1)).size := by rw [HPS.out]; omega
          by_cases hov : 65536 < acc.length + (n + 1)
          · have hfin : Hid ((out, code) = ([], errLong)) := by
              show _ = _
              rw [HC.out, hstep.out]
              simp only
              rw [if_pos (by rw [List.length_take, HLR.out, HN.out]; omega)]
            go_wp2_with fail
            refine (Tryz.bLen _ _ acc _ hbd).mono ?_
            rintro e w1 ⟨rfl, rfl⟩
            go_wp2_with fail
            go_ret2
            have hf := hfin.out
            simp only [Prod.mk.injEq] at hf
            exact ⟨by rw [hf.1, hf.2]; rfl, hb⟩
          · have hfin : Hid (longR (s.data.toList.drop (i + n + 2)) (acc ++ (s.extract (i + 1) (i + 1 + n + 1)).data.toList) = (out, code)) := by
              show _ = _
              rw [HC.out, hstep.out]
              simp only
              rw [if_neg (by rw [List.length_take, HLR.out, HN.out]; omega), hpl.out, List.drop_drop, HN.out]
              congr 2; omega
            go_wp2_with fail
            refine (Tryz.bLen _ _ acc _ hbd).mono ?_
            rintro e w1 ⟨rfl, rfl⟩
            go_wp2_with fail
            refine (Tryz.bWriteString _ _ acc (s.extract (i + 1) (i + 1 + n + 1)) _ hbd (by omega) hb.size).mono ?_
            rintro e w2 ⟨rfl, hbd2, h2⟩
            have hb2 := hb.trans h2
            clear hbd hb h2
            go_wp2_with fail
            go_roundw
            case rel =>
              refine ⟨i + n + 2, _, by omega, by go_num, ?_, hbd2, hfin.out, hb2⟩
              have := HPS.out
              have e := hpl.out
              rw [List.length_append, e, List.length_take, HLR.out, HN.out]; omega
            case measure => simp [intOf]; omega
      · by_cases hsh : i + 1 = s.size
        · have hfin : Hid ((out, code) = ([], errShort)) := by
            show _ = _
            rw [HC.out, stepL_run_no (by rw [HN.out]; exact h128) (by rw [HLR.out]; omega)]
          have hq : (((i : Int) + 1) == (s.size : Int)) = true := by simp; omega
          have HSH := Lib.hid hsh; clear hsh
          go_wp2_with fail
          go_ret2
          have hf := hfin.out
          simp only [Prod.mk.injEq] at hf
          exact ⟨by rw [hf.1, hf.2]; rfl, hb⟩
        · have hq : (((i : Int) + 1) == (s.size : Int)) = false := by simp; omega
          have hstep := Lib.hid (stepL_run (n := b) (rest := s.data.toList.drop (i + 1)) (by rw [HN.out]; exact h128) (by rw [HLR.out]; omega))
          have hx1 : Hid ((s.extract (i + 1) (i + 1 + 1)).data.toList = [(s.data.toList.drop (i + 1)).getD 0 0]) := by
            show _ = _
            rw [extract_list s _ _ (by omega), show i + 1 + 1 - (i + 1) = 1 by omega]
            have hl : 0 < (s.data.toList.drop (i + 1)).length := by rw [HLR.out]; omega
            match s.data.toList.drop (i + 1), hl with
            | y :: t, _ => rfl
          generalize hy : (s.data.toList.drop (i + 1)).getD 0 0 = y at hstep hx1
          clear hy
          go_wp2_with fail
          refine (repeat_at _ y hx1.out (n - 125) _ (by omega) (by omega) _).mono ?_
          rintro e w1 ⟨rfl, h1⟩
          have hbd1 := hbd.next h1
          have hb1 := below_next hb h1
          clear hbd hb h1
          have hsz : (⟨(List.replicate (n - 125) y).toArray⟩ : ByteArray).size = n - 125 := by simp [ByteArray.size]
          have hdl : (⟨(List.replicate (n - 125) y).toArray⟩ : ByteArray).data.toList = List.replicate (n - 125) y := by simp
          generalize (⟨(List.replicate (n - 125) y).toArray⟩ : ByteArray) = ps at hsz hdl
          have HSZ := Lib.hid hsz; have HDL := Lib.hid hdl
          have hps1 : ps.size ≤ n - 125 := by rw [hsz]; exact Nat.le_refl _
          have hps2 : n - 125 ≤ ps.size := by rw [hsz]; exact Nat.le_refl _
          clear hsz hdl
          by_cases hov : 65536 < acc.length + (n - 125)
          · have hfin : Hid ((out, code) = ([], errLong)) := by
              show _ = _
              rw [HC.out, hstep.out]
              simp only
              rw [if_pos (by rw [List.length_replicate, HN.out]; omega)]
            go_wp2_with fail
            refine (Tryz.bLen _ _ acc _ hbd1).mono ?_
            rintro e w2 ⟨rfl, rfl⟩
            go_wp2_with fail
            go_ret2
            have hf := hfin.out
            simp only [Prod.mk.injEq] at hf
            exact ⟨by rw [hf.1, hf.2]; rfl, hb1⟩
          · have hfin : Hid (longR (s.data.toList.drop (i + 2)) (acc ++ ps.data.toList) = (out, code)) := by
              show _ = _
              rw [HC.out, hstep.out]
              simp only
              rw [if_neg (by rw [List.length_replicate, HN.out]; omega), HDL.out, List.drop_drop, HN.out]
            go_wp2_with fail
            refine (Tryz.bLen _ _ acc _ hbd1).mono ?_
            rintro e w2 ⟨rfl, rfl⟩
            go_wp2_with fail
            refine (Tryz.bWriteString _ _ acc ps _ hbd1 (by omega) hb1.size).mono ?_
            rintro e w3 ⟨rfl, hbd2, h2⟩
            have hb2 := hb1.trans h2
            clear hbd1 hb1 h2
            go_wp2_with fail
            go_roundw
            case rel =>
              refine ⟨i + 2, _, by omega, by go_num, ?_, hbd2, hfin.out, hb2⟩
              rw [List.length_append, HDL.out, List.length_replicate]; omega
            case measure => simp [intOf]; omega
    · obtain rfl : i = s.size := by omega
      have hfin : Hid ((out, code) = (acc, 0)) := by
        show _ = _
        rw [← hinv.out, List.drop_of_length_le (by rw [HSL.out]; exact Nat.le_refl _), longR_nil]
      go_wp2_with fail
      refine (Tryz.bString _ _ acc _ hbd hb.size).mono ?_
      rintro e w1 ⟨rfl, h1⟩
      have hf := hfin.out
      simp only [Prod.mk.injEq] at hf
      have HF1 := Lib.hid hf.1; have HF2 := Lib.hid hf.2; clear hf
      go_wp2_with fail
      go_ret2
      exact ⟨by rw [HF1.out, HF2.out]; rfl, hb.trans h1⟩
end
section
open Go.RowKit
def Law (w : World) (e : Ending) (w' : World) : Prop := e = .returned (.bool true) ∧ Below w.heap.size w w'
theorem str_of {s : ByteArray} {l : List UInt8} (h : s.data.toList = l) : s = ⟨l.toArray⟩ := by
  subst h; cases s; simp
theorem short_at (s r : ByteArray) (h : r.data.toList = short s.data.toList) (w : World) (hs : s.size ≤ 65536) :
    Calls Tryz.prog 14 #[.string s] w fun e w' => e = .returned (.string r) ∧ Below w.heap.size w w' := by
  rw [str_of h]; exact short_walk s w hs
theorem long_at (s r : ByteArray) (c : Nat) (h : long s.data.toList = (r.data.toList, c)) (w : World) (hs : s.size ≤ maxLen) :
    Calls Tryz.prog 13 #[.string s] w fun e w' => e = .returned (.tuple #[.string r, .int .i64 c]) ∧ Below w.heap.size w w' := by
  have e : r = ⟨(long s.data.toList).1.toArray⟩ := by rw [h]
  have e2 : c = (long s.data.toList).2 := by rw [h]
  rw [e, e2]
  by_cases hl : s.size ≤ 131072
  · exact long_walk s w hl
  · exact long_walk_long s w hs (by omega)
theorem ex1 : short [7, 7, 7, 7, 1, 2] = [129, 7, 1, 1, 2] := by decide +kernel
theorem ex2 : long [0, 9, 128, 5] = ([9, 5, 5, 5], 0) := by decide +kernel
theorem ex3 : ((⟨#[129, 7, 1, 1, 2]⟩ : ByteArray).toList == [129, 7, 1, 1, 2]) = true := by decide +kernel
theorem ex4 : ((⟨#[9, 5, 5, 5]⟩ : ByteArray).toList == [9, 5, 5, 5]) = true := by decide +kernel
theorem awake_any (w : World) : Calls Tryz.prog 5 #[] w (Law w) := by
  have h3 := ex3
  have h4 := ex4
  go_enter Tryz.func5, Tryz.ntmps5
  go_wp2_with fail
  refine (long_at ⟨#[0, 9, 128, 5]⟩ ⟨#[9, 5, 5, 5]⟩ 0 ex2 _ (by decide)).mono ?_
  rintro e w1 ⟨rfl, h1⟩
  go_wp2_with fail
  refine (short_at ⟨#[7, 7, 7, 7, 1, 2]⟩ ⟨#[129, 7, 1, 1, 2]⟩ ex1.symm _ (by decide)).mono ?_
  rintro e w2 ⟨rfl, h2⟩
  go_wp2_with fail
  go_ret
  exact ⟨rfl, below_next h1 h2⟩
end
section
open Go.RowKit Go.Sort
set_option maxRecDepth 10000
set_option maxHeartbeats 1000000
theorem awake25_p : CallP Tryz.prog 5 [] (BL true) := CallP.of_calls (by kernel_rfl) fun w => (awake_any w).mono fun e w' h => h
abbrev shGrid : Sh := .st [shU, shU, .str]
theorem wt_grid {ts : List T} (h : shGrid.wt ts) : ∃ (W H : Nat) (B : ByteArray), ts = gridL W H B ∧ W < 256 ∧ H < 256 := by
  obtain ⟨a, b, rfl, h1, c, d, rfl, h2, e, f, rfl, h3, rfl⟩ := h
  obtain ⟨x, rfl, hx⟩ := wt_u8 h1
  obtain ⟨y, rfl, hy⟩ := wt_u8 h2
  obtain ⟨s, rfl, hs⟩ := h3
  refine ⟨x.toNat, y.toNat, s, ?_, by omega, by omega⟩
  show _ = [U8 (x.toNat : Nat), U8 (y.toNat : Nat), .v (.string s)]
  rw [Int.toNat_of_nonneg hx.1, Int.toNat_of_nonneg hy.1]
  rfl
def okS (s : Rect) : Prop := -1000 ≤ s.X ∧ s.X ≤ 1000 ∧ -1000 ≤ s.Y ∧ s.Y ≤ 1000 ∧ 0 ≤ s.W ∧ s.W ≤ 1000 ∧ 0 ≤ s.H ∧ s.H ≤ 1000
theorem okS_in {l : List Rect} (h : ∀ s ∈ l, okS s) (x y : Int) : inL (bandOf l) x y ↔ inL l x y := by
  rw [bandOf_in]
  constructor
  · rintro ⟨r, h1, h2⟩
    exact ⟨r, (List.mem_filter.1 h1).1, h2⟩
  · rintro ⟨r, h1, h2⟩
    refine ⟨r, List.mem_filter.2 ⟨h1, ?_⟩, h2⟩
    have := h r h1
    unfold okS at this
    unfold Rect.has at h2
    unfold countsB fitsB
    simp
    omega
end
section
open Go.RowKit Go.Sort
set_option maxRecDepth 10000
set_option maxHeartbeats 1000000
abbrev shPen : Sh := .st [shI, shU, shU, shU, .int .u32, shI, shI, .bool, .sl shR]
theorem wt_pen {ts : List T} (h : shPen.wt ts) : ∃ p : PenS, ts = penC p ∧ 0 ≤ p.pl ∧ p.pl < 256 ∧ p.clip.length ≤ maxLen := by
  obtain ⟨a, b, rfl, h1, c, d, rfl, h2, e, f, rfl, h3, g, i, rfl, h4, j, k, rfl, h5, l, m, rfl, h6, n, o, rfl, h7, q, r, rfl, h8, s, t, rfl, h9, rfl⟩ := h
  obtain ⟨x1, rfl, -⟩ := wt_i64 h1
  obtain ⟨x2, rfl, hx2⟩ := wt_u8 h2
  obtain ⟨x3, rfl, -⟩ := wt_u8 h3
  obtain ⟨x4, rfl, -⟩ := wt_u8 h4
  obtain ⟨x5, rfl, -⟩ := h5
  obtain ⟨x6, rfl, -⟩ := wt_i64 h6
  obtain ⟨x7, rfl, -⟩ := wt_i64 h7
  obtain ⟨x8, rfl⟩ := h8
  obtain ⟨x9, rfl, hl, -⟩ := wt_rects h9
  exact ⟨⟨x1, x2, x3, x4, x5, x6, x7, x8, x9⟩, rfl, hx2.1, hx2.2, hl⟩
theorem set_same (l : List Int) (i : Nat) : l.set i l[i]! = l := by
  by_cases h : i < l.length
  · rw [getElem!_pos l i h, List.set_getElem_self]
  · exact List.set_eq_of_length_le (by omega)
theorem imagePuts_all {t0 t1 t2 t3 t4 t5 : List T} (h0 : shGrid.wt t0) (h1 : shGrid.wt t1) (h2 : shB.wt t2) (h3 : shB.wt t3) (h4 : (Sh.sl shR).wt t4) (h5 : shPen.wt t5) : CallP Tryz.prog 4 [shGrid.tree t0, shGrid.tree t1, shB.tree t2, shB.tree t3, (Sh.sl shR).tree t4, shPen.tree t5] (BL true) := by
  obtain ⟨gw, gh, B, rfl, hgw, hgh⟩ := wt_grid h0
  obtain ⟨gw2, gh2, B2, rfl, hgw2, hgh2⟩ := wt_grid h1
  obtain ⟨X, rfl, hX⟩ := wt_i8 h2
  obtain ⟨Y, rfl, hY⟩ := wt_i8 h3
  obtain ⟨clip, rfl, hsl, hsi⟩ := wt_rects h4
  obtain ⟨p, rfl, hp1, hp2, hpc⟩ := wt_pen h5
  clear h0 h1 h2 h3 h4 h5
  show CallP Tryz.prog 4 [.agg (gridL gw gh B), .agg (gridL gw2 gh2 B2), I8 X, I8 Y, .islc (encL cR clip) clip.length none, penT p] (BL true)
  have hmk := made_p gw gh B hgw hgh
  have hmk2 := made_p gw2 gh2 B2 hgw2 hgh2
  have hpl := padL_len (strL B) ((gw % 24 + 1) * (gh % 24 + 1))
  have hpb := padL_bd (strL_bd B) ((gw % 24 + 1) * (gh % 24 + 1))
  have hil := padL_len (strL B2) ((gw2 % 24 + 1) * (gh2 % 24 + 1))
  have hib := padL_bd (strL_bd B2) ((gw2 % 24 + 1) * (gh2 % 24 + 1))
  generalize padL (strL B) ((gw % 24 + 1) * (gh % 24 + 1)) = px at *
  generalize padL (strL B2) ((gw2 % 24 + 1) * (gh2 % 24 + 1)) = ipx at *
  have hwh : (gw % 24 + 1) * (gh % 24 + 1) ≤ 24 * 24 := Nat.mul_le_mul (by omega) (by omega)
  have hvu : (gw2 % 24 + 1) * (gh2 % 24 + 1) ≤ 24 * 24 := Nat.mul_le_mul (by omega) (by omega)
  have hw1 : 1 ≤ gw % 24 + 1 ∧ gw % 24 + 1 ≤ 24 := by omega
  have hh1 : 1 ≤ gh % 24 + 1 ∧ gh % 24 + 1 ≤ 24 := by omega
  have hv1 : 1 ≤ gw2 % 24 + 1 ∧ gw2 % 24 + 1 ≤ 24 := by omega
  have hu1 : 1 ≤ gh2 % 24 + 1 ∧ gh2 % 24 + 1 ≤ 24 := by omega
  generalize gw % 24 + 1 = w at hmk hpl hpb hwh hw1
  generalize gh % 24 + 1 = h at hmk hpl hpb hwh hh1
  generalize gw2 % 24 + 1 = v at hmk2 hil hib hvu hv1
  generalize gh2 % 24 + 1 = u at hmk2 hil hib hvu hu1
  obtain ⟨W, hput, hWl, hWb, hWk, hWn⟩ : ∃ W : List Int, (clip.length ≤ 20 → (∀ s ∈ clip, okS s) → CallP Tryz.prog 12 [gT w h px, regT (bandOf clip), gT v u ipx, I64 X, I64 Y, penT p] (gT w h W)) ∧ W.length = w * h ∧ (∀ a ∈ W, 0 ≤ a ∧ a < 256) ∧
      (∀ k, k < w * h → (penE p = 0 ∧ (clip.length ≤ 20 ∧ (∀ s ∈ clip, okS s)) ∧ inL clip (k % w : Nat) (k / w : Nat) ∧ inB' v u ((k % w : Nat) - X) ((k / w : Nat) - Y) = true) → W[k]! = mixI p.f ipx[(((k / w : Nat) - Y) * v + ((k % w : Nat) - X)).toNat]! px[k]! p.pl) ∧
      (∀ k, k < w * h → ¬ (penE p = 0 ∧ (clip.length ≤ 20 ∧ (∀ s ∈ clip, okS s)) ∧ inL clip (k % w : Nat) (k / w : Nat) ∧ inB' v u ((k % w : Nat) - X) ((k / w : Nat) - Y) = true) → W[k]! = px[k]!) := by
    by_cases hok : penE p = 0 ∧ (clip.length ≤ 20 ∧ (∀ s ∈ clip, okS s))
    · have hcl20 := hok.2.1
      refine ⟨paintL w (putV v u X Y (fun a b => inL (bandOf clip) a b ∧ 0 ≤ a ∧ a < w ∧ 0 ≤ b ∧ b < h)) (moveF w px p (srcP v ipx X Y)) px, fun _ _ => put_p w h v u px ipx (bandOf clip) X Y p (by omega) (by omega) hpl hpb (by omega) (by omega) hil hib ((Reg.of clip).mono (m := 40) (by omega)) (by omega) (by omega) (by omega) ((penE_ok p).1 hok.1) ⟨hp1, hp2⟩, (paintL_len _ _ _ _).trans hpl, paintL_bd hpb (moveF_bd _ _ _ _), fun k hk hc => ?_, fun k hk hc => ?_⟩
      · have hd1 : k % w < w := Nat.mod_lt _ (by omega)
        have hd2 : k / w < h := Nat.div_lt_of_lt_mul hk
        have hid : (((k / w : Nat) : Int) * (w : Int) + ((k % w : Nat) : Int)).toNat = k := by rw [idx_nat, Nat.div_add_mod']
        rw [paintL_get (by rw [hpl]; exact hk), if_pos (show putV v u X Y _ _ _ from ⟨⟨(okS_in hok.2.2 _ _).2 hc.2.2.1, Int.natCast_nonneg _, Int.ofNat_lt.2 hd1, Int.natCast_nonneg _, Int.ofNat_lt.2 hd2⟩, hc.2.2.2⟩)]
        unfold moveF srcP
        rw [hid]
      · have hd1 : k % w < w := Nat.mod_lt _ (by omega)
        have hd2 : k / w < h := Nat.div_lt_of_lt_mul hk
        rw [paintL_get (by rw [hpl]; exact hk), if_neg (show ¬ putV v u X Y _ _ _ from fun kk => hc ⟨hok.1, hok.2, (okS_in hok.2.2 _ _).1 kk.1.1, kk.2⟩)]
    · refine ⟨px, fun ha hb => put_bad w h v u px ipx _ X Y p (fun k => hok ⟨k, ha, hb⟩), hpl, hpb, fun k hk hc => absurd ⟨hc.1, hc.2.1⟩ hok, fun k hk hc => rfl⟩
  have hsR : ∀ k, k < clip.length → rI clip[k]! := fun k hk => hsi _ (List.mem_iff_getElem?.2 ⟨k, getE hk⟩)
  have hppu : T.pureL (penC p) = true := penC_pure0 p
  have hpW : px.length = W.length := by rw [hpl, hWl]
  refine CallP.intro2 au_pu au_pu ?_
  refine CallT.intro tab_ok Tryz.func4 rfl (by kernel_rfl) (Nat.le_of_ble_eq_true rfl) ?_
  refine VC.reg tab_ok [6, 7, 11] rfl ?_
  refine VX.newI rfl rfl ?_
  refine VX.newI rfl rfl ?_
  refine VX.newI rfl rfl ?_
  refine VX.meek rfl ?_
  refine VX.nil ?_
  refine VC.seq ?_
  refine VC.reg tab_ok [] rfl ?_
  iterate 4 refine VX.meek rfl ?_
  refine' VX.merge (d := 41) [_, _, _, _, _] rfl ?_ rfl ?_
  rotate_left
  · refine VX.guard rfl rfl (fun hb1_3 => ?_) (fun hb1_3 => ?_)
    · have ghb1_3 := hb1_3
      try simp only [au_std, Bool.not_true, Bool.not_false] at ghb1_3
      refine VX.meek rfl ?_
      refine VX.guardT rfl rfl hb1_3 ?_
      first | refine VX.meek rfl ?_ | refine VX.loadI rfl rfl au_l ?_ | refine VX.loadP rfl rfl rfl au_l ?_
      refine VX.guardT rfl rfl hb1_3 ?_
      refine VX.meek rfl ?_
      refine VX.guardT rfl rfl hb1_3 ?_
      refine VX.meek rfl ?_
      refine VX.pickO rfl (fun _ => rfl) ?_
      exact VX.nil ⟨rfl, rfl⟩
    · refine VX.guardF rfl rfl hb1_3 ?_
      refine VX.guardF rfl rfl hb1_3 ?_
      refine VX.guardF rfl rfl hb1_3 ?_
      exact VX.pickO rfl (fun h => absurd (h.symm.trans hb1_3) (by decide)) (VX.nil ⟨rfl, rfl⟩)
  refine VX.nil ?_
  refine VC.cond rfl (fun hc0 => ?_) (fun hc0 => ?_)
  · (try simp only [au_std] at hc0)
    refine VC.reg tab_ok [] rfl ?_
    refine VX.callP0 rfl rfl rfl (awake25_p) ?_
    refine VX.meek rfl ?_
    refine VX.nil ?_
    refine VC.ret ?_
    exact ⟨trivial, _, rfl, Cv.eq rfl rfl⟩
  · (try simp only [au_std] at hc0); have hn20 : clip.length ≤ 20 ∧ p.clip.length ≤ 300 := (by omega); replace hput := hput hn20.1
    refine VC.skip ?_
    refine VC.seq ?_
    refine VC.reg tab_ok [] rfl ?_
    iterate 3 refine VX.meek rfl ?_
    refine VX.nil ?_
    refine VC.block ?_
    refine VC.loopS (σ := Nat) (fun k => clip.length - k) (fun k => k ≤ clip.length ∧ ∀ s ∈ clip.take k, okS s) (fun k => [(45, I64 k)]) (fun _ => []) [2, 3, 4, 6, 7, 11, 43, 44] rfl (0) ?_ ?_ ?_
    · refine ⟨[], rfl, by first | trivial | decide, rfl, ?_, ?_⟩ <;> (repeat' first | exact trivial | exact CvB_n | exact CvB_d | refine CvE_app ?_ ?_ | refine CvE_cons rfl ?_ ?_ | refine CvH_cons ?_ ?_ | refine CvB_c rfl ?_ | fail) <;> first | exact au_v | (skip)
    · exact ⟨by omega, by simp⟩
    rintro k ⟨hk, hok⟩
    refine VC.reg tab_ok [] rfl ?_
    refine VX.meek rfl ?_
    refine VX.nil ?_
    refine VC.seq ?_
    refine VC.cond rfl (fun hc1 => ?_) (fun hc1 => ?_)
    · (try simp only [au_std] at hc1); have hkl : k < clip.length := (by omega)
      refine VC.skip ?_
      refine VC.seq ?_
      refine VC.block ?_
      refine VC.reg tab_ok [] rfl ?_
      first | refine VX.idxI rfl rfl rfl rfl rfl rfl (by omega) ?_ | refine VX.idxO0 rfl rfl rfl rfl rfl rfl rfl (by omega) ?_ | refine VX.idxO0 rfl rfl rfl rfl rfl rfl au_z (by omega) ?_ | refine VX.idxO rfl rfl rfl rfl rfl rfl rfl (by omega) ?_ | refine VX.idxI rfl rfl rfl rfl rfl au_z (by omega) ?_ | refine VX.idxO rfl rfl rfl rfl rfl rfl au_z (by omega) ?_ | refine VX.meek rfl ?_
      first | refine VX.meek rfl ?_ | refine VX.loadI rfl rfl au_l ?_ | refine VX.loadP rfl rfl rfl au_l ?_
      refine VX.new rfl rfl ?_
      refine VX.store rfl rfl rfl rfl rfl au_sR rfl ?_
      refine VX.nil ?_
      refine VC.reg tab_ok [] rfl ?_
      refine VX.meek rfl ?_
      first | refine VX.meek rfl ?_ | refine VX.loadI rfl rfl au_l ?_ | refine VX.loadP rfl rfl rfl au_l ?_
      iterate 2 refine VX.meek rfl ?_
      refine' VX.merge (d := 56) [_, _, _, _] rfl ?_ rfl ?_
      rotate_left
      · refine VX.guard rfl rfl (fun hb6_3 => ?_) (fun hb6_3 => ?_)
        · have ghb6_3 := hb6_3
          try simp only [au_std, Bool.not_true, Bool.not_false] at ghb6_3
          refine VX.meek rfl ?_
          refine VX.guardT rfl rfl hb6_3 ?_
          first | refine VX.meek rfl ?_ | refine VX.loadI rfl rfl au_l ?_ | refine VX.loadP rfl rfl rfl au_l ?_
          refine VX.guardT rfl rfl hb6_3 ?_
          refine VX.meek rfl ?_
          refine VX.pickO rfl (fun _ => rfl) ?_
          exact VX.nil ⟨rfl, rfl⟩
        · refine VX.guardF rfl rfl hb6_3 ?_
          refine VX.guardF rfl rfl hb6_3 ?_
          exact VX.pickO rfl (fun h => absurd (h.symm.trans hb6_3) (by decide)) (VX.nil ⟨rfl, rfl⟩)
      refine VX.meek rfl ?_
      refine' VX.merge (d := 61) [_, _, _, _] rfl ?_ rfl ?_
      rotate_left
      · refine VX.guard rfl rfl (fun hb6_8 => ?_) (fun hb6_8 => ?_)
        · have ghb6_8 := hb6_8
          try simp only [au_std, Bool.not_true, Bool.not_false] at ghb6_8
          refine VX.meek rfl ?_
          refine VX.guardT rfl rfl hb6_8 ?_
          first | refine VX.meek rfl ?_ | refine VX.loadI rfl rfl au_l ?_ | refine VX.loadP rfl rfl rfl au_l ?_
          refine VX.guardT rfl rfl hb6_8 ?_
          refine VX.meek rfl ?_
          refine VX.pickO rfl (fun _ => rfl) ?_
          exact VX.nil ⟨rfl, rfl⟩
        · refine VX.guardF rfl rfl hb6_8 ?_
          refine VX.guardF rfl rfl hb6_8 ?_
          exact VX.pickO rfl (fun h => absurd (h.symm.trans hb6_8) (by decide)) (VX.nil ⟨rfl, rfl⟩)
      refine VX.meek rfl ?_
      refine' VX.merge (d := 66) [_, _, _, _] rfl ?_ rfl ?_
      rotate_left
      · refine VX.guard rfl rfl (fun hb6_13 => ?_) (fun hb6_13 => ?_)
        · have ghb6_13 := hb6_13
          try simp only [au_std, Bool.not_true, Bool.not_false] at ghb6_13
          refine VX.meek rfl ?_
          refine VX.guardT rfl rfl hb6_13 ?_
          first | refine VX.meek rfl ?_ | refine VX.loadI rfl rfl au_l ?_ | refine VX.loadP rfl rfl rfl au_l ?_
          refine VX.guardT rfl rfl hb6_13 ?_
          refine VX.meek rfl ?_
          refine VX.pickO rfl (fun _ => rfl) ?_
          exact VX.nil ⟨rfl, rfl⟩
        · refine VX.guardF rfl rfl hb6_13 ?_
          refine VX.guardF rfl rfl hb6_13 ?_
          exact VX.pickO rfl (fun h => absurd (h.symm.trans hb6_13) (by decide)) (VX.nil ⟨rfl, rfl⟩)
      refine VX.meek rfl ?_
      refine' VX.merge (d := 71) [_, _, _, _] rfl ?_ rfl ?_
      rotate_left
      · refine VX.guard rfl rfl (fun hb6_18 => ?_) (fun hb6_18 => ?_)
        · have ghb6_18 := hb6_18
          try simp only [au_std, Bool.not_true, Bool.not_false] at ghb6_18
          refine VX.meek rfl ?_
          refine VX.guardT rfl rfl hb6_18 ?_
          first | refine VX.meek rfl ?_ | refine VX.loadI rfl rfl au_l ?_ | refine VX.loadP rfl rfl rfl au_l ?_
          refine VX.guardT rfl rfl hb6_18 ?_
          refine VX.meek rfl ?_
          refine VX.pickO rfl (fun _ => rfl) ?_
          exact VX.nil ⟨rfl, rfl⟩
        · refine VX.guardF rfl rfl hb6_18 ?_
          refine VX.guardF rfl rfl hb6_18 ?_
          exact VX.pickO rfl (fun h => absurd (h.symm.trans hb6_18) (by decide)) (VX.nil ⟨rfl, rfl⟩)
      refine VX.meek rfl ?_
      refine' VX.merge (d := 76) [_, _, _, _] rfl ?_ rfl ?_
      rotate_left
      · refine VX.guard rfl rfl (fun hb6_23 => ?_) (fun hb6_23 => ?_)
        · have ghb6_23 := hb6_23
          try simp only [au_std, Bool.not_true, Bool.not_false] at ghb6_23
          refine VX.meek rfl ?_
          refine VX.guardT rfl rfl hb6_23 ?_
          first | refine VX.meek rfl ?_ | refine VX.loadI rfl rfl au_l ?_ | refine VX.loadP rfl rfl rfl au_l ?_
          refine VX.guardT rfl rfl hb6_23 ?_
          refine VX.meek rfl ?_
          refine VX.pickO rfl (fun _ => rfl) ?_
          exact VX.nil ⟨rfl, rfl⟩
        · refine VX.guardF rfl rfl hb6_23 ?_
          refine VX.guardF rfl rfl hb6_23 ?_
          exact VX.pickO rfl (fun h => absurd (h.symm.trans hb6_23) (by decide)) (VX.nil ⟨rfl, rfl⟩)
      refine VX.meek rfl ?_
      refine' VX.merge (d := 81) [_, _, _, _] rfl ?_ rfl ?_
      rotate_left
      · refine VX.guard rfl rfl (fun hb6_28 => ?_) (fun hb6_28 => ?_)
        · have ghb6_28 := hb6_28
          try simp only [au_std, Bool.not_true, Bool.not_false] at ghb6_28
          refine VX.meek rfl ?_
          refine VX.guardT rfl rfl hb6_28 ?_
          first | refine VX.meek rfl ?_ | refine VX.loadI rfl rfl au_l ?_ | refine VX.loadP rfl rfl rfl au_l ?_
          refine VX.guardT rfl rfl hb6_28 ?_
          refine VX.meek rfl ?_
          refine VX.pickO rfl (fun _ => rfl) ?_
          exact VX.nil ⟨rfl, rfl⟩
        · refine VX.guardF rfl rfl hb6_28 ?_
          refine VX.guardF rfl rfl hb6_28 ?_
          exact VX.pickO rfl (fun h => absurd (h.symm.trans hb6_28) (by decide)) (VX.nil ⟨rfl, rfl⟩)
      refine VX.meek rfl ?_
      refine' VX.merge (d := 86) [_, _, _, _] rfl ?_ rfl ?_
      rotate_left
      · refine VX.guard rfl rfl (fun hb6_33 => ?_) (fun hb6_33 => ?_)
        · have ghb6_33 := hb6_33
          try simp only [au_std, Bool.not_true, Bool.not_false] at ghb6_33
          refine VX.meek rfl ?_
          refine VX.guardT rfl rfl hb6_33 ?_
          first | refine VX.meek rfl ?_ | refine VX.loadI rfl rfl au_l ?_ | refine VX.loadP rfl rfl rfl au_l ?_
          refine VX.guardT rfl rfl hb6_33 ?_
          refine VX.meek rfl ?_
          refine VX.pickO rfl (fun _ => rfl) ?_
          exact VX.nil ⟨rfl, rfl⟩
        · refine VX.guardF rfl rfl hb6_33 ?_
          refine VX.guardF rfl rfl hb6_33 ?_
          exact VX.pickO rfl (fun h => absurd (h.symm.trans hb6_33) (by decide)) (VX.nil ⟨rfl, rfl⟩)
      refine VX.nil ?_
      refine VC.cond rfl (fun hc2 => ?_) (fun hc2 => ?_)
      · (try simp only [au_std] at hc2)
        refine VC.reg tab_ok [] rfl ?_
        refine VX.callP0 rfl rfl rfl (awake25_p) ?_
        refine VX.meek rfl ?_
        refine VX.nil ?_
        refine VC.ret ?_
        exact ⟨trivial, _, rfl, Cv.eq rfl rfl⟩
      · (try simp only [au_std] at hc2); have hks : okS clip[k]! := (by unfold okS; omega)
        refine VC.skip ?_
        refine VC.regN tab_ok [] rfl ?_
        first | refine VX.add rfl rfl (by omega) ?_ | refine VX.meek rfl ?_
        refine VX.meek rfl ?_
        refine VX.nil ?_
        refine ⟨k + 1, by (try dsimp only); omega, ?_, (by refine ⟨[], rfl, by first | trivial | decide, rfl, ?_, ?_⟩ <;> (repeat' first | exact trivial | exact CvB_n | exact CvB_d | refine CvE_app ?_ ?_ | refine CvE_cons rfl ?_ ?_ | refine CvH_cons ?_ ?_ | refine CvB_c rfl ?_ | fail) <;> first | exact au_v | (fail))⟩
        refine ⟨by omega, fun s hs => ?_⟩; rw [take_snoc hkl] at hs; rcases List.mem_append.1 hs with hs | hs; exact hok s hs; rw [List.mem_singleton] at hs; subst hs; exact hks
    · (try simp only [au_std] at hc1); obtain rfl : k = clip.length := (by omega); rw [List.take_length] at hok; replace hput := hput hok
      refine VC.exit ?_
      refine VC.reg tab_ok [] rfl ?_
      first | refine VX.meek rfl ?_ | refine VX.loadI rfl rfl au_l ?_ | refine VX.loadP rfl rfl rfl au_l ?_
      refine VX.callP0 rfl rfl rfl (hmk) ?_
      iterate 5 refine VX.meek rfl ?_
      refine VX.new rfl rfl ?_
      refine VX.store rfl rfl rfl rfl rfl au_sR rfl ?_
      iterate 3 refine VX.meek rfl ?_
      refine VX.nil ?_
      refine VC.reg tab_ok [] rfl ?_
      first | refine VX.meek rfl ?_ | refine VX.loadI rfl rfl au_l ?_ | refine VX.loadP rfl rfl rfl au_l ?_
      refine VX.callP0 rfl rfl rfl (hmk2) ?_
      iterate 5 refine VX.meek rfl ?_
      refine VX.new rfl rfl ?_
      refine VX.store rfl rfl rfl rfl rfl au_sR rfl ?_
      iterate 3 refine VX.meek rfl ?_
      refine VX.nil ?_
      refine VC.view ([(15, .iptr [I64 w, I64 h, .islc (encL cU px) px.length none] 0), (19, .iptr [I64 v, I64 u, .islc (encL cU ipx) ipx.length none] 0), (18, .islc (encL cU px) px.length none), (22, .islc (encL cU ipx) ipx.length none)]) ([]) [2, 3, 4, 11, 16, 17, 20] rfl (by refine ⟨[], rfl, by first | trivial | decide, rfl, ?_, ?_⟩ <;> (repeat' first | exact trivial | exact CvB_n | exact CvB_d | refine CvE_app ?_ ?_ | refine CvE_cons rfl ?_ ?_ | refine CvH_cons ?_ ?_ | refine CvB_c rfl ?_ | fail) <;> first | exact au_v | (first | (refine Cv.fptr ⟨rfl, by simp⟩ ?_; exact CvL.eq rfl (by simp only [T.pureL, T.pure, encL_pure]; rfl)) | exact Cv.eq (by rw [hpl]) (encL_pure cU _) | exact Cv.eq (by rw [hil]) (encL_pure cU _))) ?_
      refine VC.reg tab_ok [] rfl ?_
      iterate 3 refine VX.meek rfl ?_
      refine VX.quo rfl rfl (by omega) (by omega) (by (try dsimp only); omega) ?_; rw [show ((ipx.length : Nat) : Int) / (v : Int) = (u : Int) from by rw [hil, ← Int.natCast_ediv, Nat.mul_div_cancel_left _ (by omega)]]
      refine VX.meek rfl ?_
      refine VX.nil ?_
      refine VC.reg tab_ok [] rfl ?_
      refine VX.meek rfl ?_
      first | refine VX.meek rfl ?_ | refine VX.loadI rfl rfl au_l ?_ | refine VX.loadP rfl rfl rfl au_l ?_
      refine VX.meek rfl ?_
      first | refine VX.meek rfl ?_ | refine VX.loadI rfl rfl au_l ?_ | refine VX.loadP rfl rfl rfl au_l ?_
      refine VX.meek rfl ?_
      first | refine VX.meek rfl ?_ | refine VX.loadI rfl rfl au_l ?_ | refine VX.loadP rfl rfl rfl au_l ?_
      refine VX.meek rfl ?_
      first | refine VX.meek rfl ?_ | refine VX.loadI rfl rfl au_l ?_ | refine VX.loadP rfl rfl rfl au_l ?_
      refine VX.meek rfl ?_
      first | refine VX.meek rfl ?_ | refine VX.loadI rfl rfl au_l ?_ | refine VX.loadP rfl rfl rfl au_l ?_
      refine VX.meek rfl ?_
      first | refine VX.meek rfl ?_ | refine VX.loadI rfl rfl au_l ?_ | refine VX.loadP rfl rfl rfl au_l ?_
      refine VX.meek rfl ?_
      refine VX.callP0 rfl rfl rfl (check19_p p) ?_
      iterate 2 refine VX.meek rfl ?_
      refine VX.nil ?_
      refine VC.reg tab_ok [122] rfl ?_
      refine VX.newI rfl rfl ?_
      refine VX.meek rfl ?_
      refine VX.appM rfl rfl (mApp_empty rfl rfl rfl (src_isl cU rfl rfl rfl) (by (try dsimp only); omega) (by omega) (by rw [encL_len]; rfl)) ?_
      refine VX.meek rfl ?_
      refine VX.nil ?_
      try dsimp only
      refine VC.seq ?_
      refine VC.reg tab_ok [] rfl ?_
      iterate 3 refine VX.meek rfl ?_
      refine VX.nil ?_
      refine VC.block ?_
      refine VC.loopS (σ := Nat) (fun i => w * h - i) (fun i => i ≤ w * h) (fun i => [(127, I64 i), (25, .slc 0 0 px.length 1 none)]) (fun i => [.c (encL cU (W.take i ++ px.drop i))]) [2, 3, 4, 11, 15, 16, 17, 18, 19, 20, 22, 23, 24, 126] rfl (0) ?_ ?_ ?_
      · refine ⟨[some 0], rfl, by first | trivial | decide, rfl, ?_, ?_⟩ <;> (repeat' first | exact trivial | exact CvB_n | exact CvB_d | refine CvE_app ?_ ?_ | refine CvE_cons rfl ?_ ?_ | refine CvH_cons ?_ ?_ | refine CvB_c rfl ?_ | fail) <;> first | exact au_v | (first | exact Cv.slc rfl (.inl rfl) | exact CvL.pure (encL_pure cU _) | exact CvL.eq (by rw [List.take_zero, List.drop_zero, List.nil_append]) (encL_pure cU _))
      · (try dsimp only); omega
      rintro i hi
      refine VC.reg tab_ok [] rfl ?_
      refine VX.meek rfl ?_
      refine VX.nil ?_
      refine VC.seq ?_
      refine VC.cond rfl (fun hc3 => ?_) (fun hc3 => ?_)
      · (try simp only [au_std] at hc3); have hil1 : i < w * h := (by omega)
        have hlen : (W.take i ++ px.drop i).length = w * h := (by rw [List.length_append, List.length_take, List.length_drop]; omega)
        have hcur : (W.take i ++ px.drop i)[i]! = px[i]! := (by rw [List.getElem!_eq_getElem?_getD, List.getElem?_append_right (by rw [List.length_take]; omega), List.length_take, show i - min i W.length = 0 from by omega, List.getElem?_drop, Nat.add_zero, ← List.getElem!_eq_getElem?_getD])
        have hstep : (W.take i ++ px.drop i).set i W[i]! = W.take (i + 1) ++ px.drop (i + 1) := (by
          refine listI_ext (by rw [List.length_set, List.length_append, List.length_append, List.length_take, List.length_take, List.length_drop, List.length_drop]; omega) fun j hj => ?_
          rw [List.length_set, hlen] at hj
          rw [bang_set]
          by_cases hji : i = j
          · subst hji
            rw [if_pos ⟨rfl, by rw [hlen]; exact hj⟩, List.getElem!_eq_getElem?_getD (l := _ ++ _), List.getElem?_append_left (by rw [List.length_take]; omega), List.getElem?_take_of_lt (by omega), ← List.getElem!_eq_getElem?_getD]
          · rw [if_neg (fun k => hji k.1), List.getElem!_eq_getElem?_getD (l := _ ++ _), List.getElem!_eq_getElem?_getD (l := _ ++ _)]
            by_cases hlt : j < i
            · rw [List.getElem?_append_left (by rw [List.length_take]; omega), List.getElem?_append_left (by rw [List.length_take]; omega), List.getElem?_take_of_lt (by omega), List.getElem?_take_of_lt (by omega)]
            · rw [List.getElem?_append_right (by rw [List.length_take]; omega), List.getElem?_append_right (by rw [List.length_take]; omega), List.length_take, List.length_take, List.getElem?_drop, List.getElem?_drop, show i + (j - min i W.length) = i + 1 + (j - min (i + 1) W.length) from by omega])
        have hxm : (i : Int) % (w : Int) = ((i % w : Nat) : Int) := (Int.natCast_emod i w).symm
        have hyd : (i : Int) / (w : Int) = ((i / w : Nat) : Int) := (Int.natCast_ediv i w).symm
        have hx1 : i % w < w := Nat.mod_lt _ (by omega)
        have hy1 : i / w < h := Nat.div_lt_of_lt_mul hil1
        have hWk1 := hWk i hil1
        have hWn1 := hWn i hil1
        generalize i % w = a at hxm hx1 hWk1 hWn1
        generalize i / w = b at hyd hy1 hWk1 hWn1
        generalize W.take i ++ px.drop i = cur at *
        refine VC.skip ?_
        refine VC.seq ?_
        refine VC.block ?_
        refine VC.reg tab_ok [] rfl ?_
        iterate 2 refine VX.meek rfl ?_
        refine VX.nil ?_
        refine VC.drw tab_ok [] [_, _, _, _, _, _, _, _, _, _, _, _, _, _] rfl (by kernel_rfl) (by kernel_rfl) ?_
        iterate 2 refine VX.meek rfl ?_
        refine VX.rem rfl rfl (by omega) (by (try dsimp only); omega) ?_; rw [hxm]
        refine VX.meek rfl ?_
        refine VX.meek (t := I64 X) (by show some (T.v (.int .i64 (IntKind.i64.wrap X)), (none : Option (Nat × List T))) = _; rw [wrap_in (by omega)]) ?_
        first | refine VX.sub rfl rfl (by omega) ?_ | refine VX.meek rfl ?_
        iterate 2 refine VX.meek rfl ?_
        refine VX.quo rfl rfl (by omega) (by omega) (by (try dsimp only); omega) ?_; rw [hyd]
        refine VX.meek rfl ?_
        refine VX.meek (t := I64 Y) (by show some (T.v (.int .i64 (IntKind.i64.wrap Y)), (none : Option (Nat × List T))) = _; rw [wrap_in (by omega)]) ?_
        first | refine VX.sub rfl rfl (by omega) ?_ | refine VX.meek rfl ?_
        iterate 2 refine VX.meek rfl ?_
        refine VX.nil ?_
        refine VX.nil ?_
        refine VC.reg tab_ok [] rfl ?_
        refine VX.meek rfl ?_
        refine VX.nil ?_
        refine VC.seq ?_
        refine VC.reg tab_ok [] rfl ?_
        iterate 3 refine VX.meek rfl ?_
        refine VX.nil ?_
        refine VC.block ?_
        refine VC.loopS (σ := Nat) (fun k => clip.length - k) (fun k => k ≤ clip.length) (fun k => [(144, I64 k), (29, BL (decide (inL (clip.take k) a b))), (25, .slc 0 0 px.length 1 none)]) (fun k => [.c (encL cU cur)]) [2, 3, 4, 11, 15, 16, 17, 18, 19, 20, 22, 23, 24, 26, 27, 28, 126, 127, 142, 143] rfl (0) ?_ ?_ ?_
        · refine ⟨[some 0], rfl, by first | trivial | decide, rfl, ?_, ?_⟩ <;> (repeat' first | exact trivial | exact CvB_n | exact CvB_d | refine CvE_app ?_ ?_ | refine CvE_cons rfl ?_ ?_ | refine CvH_cons ?_ ?_ | refine CvB_c rfl ?_ | fail) <;> first | exact au_v | (first | exact Cv.slc rfl (.inl rfl) | exact CvL.pure (encL_pure cU _) | exact Cv.eq (congrArg BL (by simp [inL])) rfl)
        · (try dsimp only); omega
        rintro k hk
        refine VC.reg tab_ok [] rfl ?_
        refine VX.meek rfl ?_
        refine VX.nil ?_
        refine VC.seq ?_
        refine VC.cond rfl (fun hc4 => ?_) (fun hc4 => ?_)
        · (try simp only [au_std] at hc4); have hkl : k < clip.length := (by omega); have hks := hok clip[k]! (List.mem_iff_getElem?.2 ⟨k, getE hkl⟩); unfold okS at hks
          refine VC.skip ?_
          refine VC.seq ?_
          refine VC.block ?_
          refine VC.reg tab_ok [] rfl ?_
          first | refine VX.idxI rfl rfl rfl rfl rfl rfl (by omega) ?_ | refine VX.idxO0 rfl rfl rfl rfl rfl rfl rfl (by omega) ?_ | refine VX.idxO0 rfl rfl rfl rfl rfl rfl au_z (by omega) ?_ | refine VX.idxO rfl rfl rfl rfl rfl rfl rfl (by omega) ?_ | refine VX.idxI rfl rfl rfl rfl rfl au_z (by omega) ?_ | refine VX.idxO rfl rfl rfl rfl rfl rfl au_z (by omega) ?_ | refine VX.meek rfl ?_
          first | refine VX.meek rfl ?_ | refine VX.loadI rfl rfl au_l ?_ | refine VX.loadP rfl rfl rfl au_l ?_
          refine VX.new rfl rfl ?_
          refine VX.store rfl rfl rfl rfl rfl au_sR rfl ?_
          refine VX.nil ?_
          refine VC.drwN tab_ok [] [_, _, _, _, _, _, _, _, _, _, _, _, _, _, _, _, _, _, _, _, _, _, _, _, _, _, _, _, _, _, _, _, _, _, _, _, _, _, _, _] rfl (by kernel_rfl) (by kernel_rfl) ?_
          iterate 2 refine VX.meek rfl ?_
          refine' VX.merge (d := 186) [_, _, _, _, _, _, _, _, _, _, _, _, _, _, _, _, _, _, _, _, _, _, _, _, _, _, _, _, _, _, _, _, _, _, _, _, _] rfl ?_ rfl ?_
          rotate_left
          · refine VX.guard rfl rfl (fun hb22_1 => ?_) (fun hb22_1 => ?_)
            · have ghb22_1 := hb22_1
              try simp only [au_std, Bool.not_true, Bool.not_false] at ghb22_1
              refine VX.meek rfl ?_
              refine VX.guardT rfl rfl hb22_1 ?_
              refine VX.meek rfl ?_
              refine VX.guardT rfl rfl hb22_1 ?_
              refine VX.rem rfl rfl (by omega) (by (try dsimp only); omega) ?_; rw [hxm]
              refine VX.guardT rfl rfl hb22_1 ?_
              refine VX.meek rfl ?_
              refine VX.guardT rfl rfl hb22_1 ?_
              first | refine VX.meek rfl ?_ | refine VX.loadI rfl rfl au_l ?_ | refine VX.loadP rfl rfl rfl au_l ?_
              refine VX.guardT rfl rfl hb22_1 ?_
              refine VX.meek rfl ?_
              refine VX.guardT rfl rfl hb22_1 ?_
              refine VX.meek rfl ?_
              refine' VX.merge (d := 166) [_, _, _, _, _, _, _, _, _, _] rfl ?_ rfl ?_
              rotate_left
              · refine VX.guard rfl rfl (fun hb22_8 => ?_) (fun hb22_8 => ?_)
                · have ghb22_8 := hb22_8
                  try simp only [au_std, Bool.not_true, Bool.not_false] at ghb22_8
                  refine VX.meek rfl ?_
                  refine VX.guardT rfl rfl hb22_8 ?_
                  refine VX.meek rfl ?_
                  refine VX.guardT rfl rfl hb22_8 ?_
                  refine VX.rem rfl rfl (by omega) (by (try dsimp only); omega) ?_; rw [hxm]
                  refine VX.guardT rfl rfl hb22_8 ?_
                  refine VX.meek rfl ?_
                  refine VX.guardT rfl rfl hb22_8 ?_
                  first | refine VX.meek rfl ?_ | refine VX.loadI rfl rfl au_l ?_ | refine VX.loadP rfl rfl rfl au_l ?_
                  refine VX.guardT rfl rfl hb22_8 ?_
                  refine VX.meek rfl ?_
                  refine VX.guardT rfl rfl hb22_8 ?_
                  first | refine VX.meek rfl ?_ | refine VX.loadI rfl rfl au_l ?_ | refine VX.loadP rfl rfl rfl au_l ?_
                  refine VX.guardT rfl rfl hb22_8 ?_
                  first | refine VX.add rfl rfl (by omega) ?_ | refine VX.meek rfl ?_
                  refine VX.guardT rfl rfl hb22_8 ?_
                  refine VX.meek rfl ?_
                  refine VX.guardT rfl rfl hb22_1 ?_
                  refine VX.pickA rfl (fun _ => rfl) ?_
                  exact VX.nil ⟨rfl, rfl⟩
                · refine VX.guardF rfl rfl hb22_8 ?_
                  refine VX.guardF rfl rfl hb22_8 ?_
                  refine VX.guardF rfl rfl hb22_8 ?_
                  refine VX.guardF rfl rfl hb22_8 ?_
                  refine VX.guardF rfl rfl hb22_8 ?_
                  refine VX.guardF rfl rfl hb22_8 ?_
                  refine VX.guardF rfl rfl hb22_8 ?_
                  refine VX.guardF rfl rfl hb22_8 ?_
                  refine VX.guardT rfl rfl hb22_1 ?_
                  exact VX.pickA rfl (fun h => absurd (h.symm.trans hb22_8) (by decide)) (VX.nil ⟨rfl, rfl⟩)
              refine VX.guardT rfl rfl hb22_1 ?_
              refine VX.meek rfl ?_
              refine' VX.merge (d := 174) [_, _, _, _, _, _, _] rfl ?_ rfl ?_
              rotate_left
              · refine VX.guard rfl rfl (fun hb22_19 => ?_) (fun hb22_19 => ?_)
                · have ghb22_19 := hb22_19
                  try simp only [au_std, Bool.not_true, Bool.not_false] at ghb22_19
                  refine VX.meek rfl ?_
                  refine VX.guardT rfl rfl hb22_19 ?_
                  refine VX.meek rfl ?_
                  refine VX.guardT rfl rfl hb22_19 ?_
                  refine VX.quo rfl rfl (by omega) (by omega) (by (try dsimp only); omega) ?_; rw [hyd]
                  refine VX.guardT rfl rfl hb22_19 ?_
                  refine VX.meek rfl ?_
                  refine VX.guardT rfl rfl hb22_19 ?_
                  first | refine VX.meek rfl ?_ | refine VX.loadI rfl rfl au_l ?_ | refine VX.loadP rfl rfl rfl au_l ?_
                  refine VX.guardT rfl rfl hb22_19 ?_
                  refine VX.meek rfl ?_
                  refine VX.guardT rfl rfl hb22_1 ?_
                  refine VX.pickA rfl (fun _ => rfl) ?_
                  exact VX.nil ⟨rfl, rfl⟩
                · refine VX.guardF rfl rfl hb22_19 ?_
                  refine VX.guardF rfl rfl hb22_19 ?_
                  refine VX.guardF rfl rfl hb22_19 ?_
                  refine VX.guardF rfl rfl hb22_19 ?_
                  refine VX.guardF rfl rfl hb22_19 ?_
                  refine VX.guardT rfl rfl hb22_1 ?_
                  exact VX.pickA rfl (fun h => absurd (h.symm.trans hb22_19) (by decide)) (VX.nil ⟨rfl, rfl⟩)
              refine VX.guardT rfl rfl hb22_1 ?_
              refine VX.meek rfl ?_
              refine' VX.merge (d := 185) [_, _, _, _, _, _, _, _, _, _] rfl ?_ rfl ?_
              rotate_left
              · refine VX.guard rfl rfl (fun hb22_27 => ?_) (fun hb22_27 => ?_)
                · have ghb22_27 := hb22_27
                  try simp only [au_std, Bool.not_true, Bool.not_false] at ghb22_27
                  refine VX.meek rfl ?_
                  refine VX.guardT rfl rfl hb22_27 ?_
                  refine VX.meek rfl ?_
                  refine VX.guardT rfl rfl hb22_27 ?_
                  refine VX.quo rfl rfl (by omega) (by omega) (by (try dsimp only); omega) ?_; rw [hyd]
                  refine VX.guardT rfl rfl hb22_27 ?_
                  refine VX.meek rfl ?_
                  refine VX.guardT rfl rfl hb22_27 ?_
                  first | refine VX.meek rfl ?_ | refine VX.loadI rfl rfl au_l ?_ | refine VX.loadP rfl rfl rfl au_l ?_
                  refine VX.guardT rfl rfl hb22_27 ?_
                  refine VX.meek rfl ?_
                  refine VX.guardT rfl rfl hb22_27 ?_
                  first | refine VX.meek rfl ?_ | refine VX.loadI rfl rfl au_l ?_ | refine VX.loadP rfl rfl rfl au_l ?_
                  refine VX.guardT rfl rfl hb22_27 ?_
                  first | refine VX.add rfl rfl (by omega) ?_ | refine VX.meek rfl ?_
                  refine VX.guardT rfl rfl hb22_27 ?_
                  refine VX.meek rfl ?_
                  refine VX.guardT rfl rfl hb22_1 ?_
                  refine VX.pickA rfl (fun _ => rfl) ?_
                  exact VX.nil ⟨rfl, rfl⟩
                · refine VX.guardF rfl rfl hb22_27 ?_
                  refine VX.guardF rfl rfl hb22_27 ?_
                  refine VX.guardF rfl rfl hb22_27 ?_
                  refine VX.guardF rfl rfl hb22_27 ?_
                  refine VX.guardF rfl rfl hb22_27 ?_
                  refine VX.guardF rfl rfl hb22_27 ?_
                  refine VX.guardF rfl rfl hb22_27 ?_
                  refine VX.guardF rfl rfl hb22_27 ?_
                  refine VX.guardT rfl rfl hb22_1 ?_
                  exact VX.pickA rfl (fun h => absurd (h.symm.trans hb22_27) (by decide)) (VX.nil ⟨rfl, rfl⟩)
              refine VX.pickO rfl (fun _ => rfl) ?_
              exact VX.nil ⟨rfl, rfl⟩
            · refine VX.guardF rfl rfl hb22_1 ?_
              refine VX.guardF rfl rfl hb22_1 ?_
              refine VX.guardF rfl rfl hb22_1 ?_
              refine VX.guardF rfl rfl hb22_1 ?_
              refine VX.guardF rfl rfl hb22_1 ?_
              refine VX.guardF rfl rfl hb22_1 ?_
              refine VX.guardU rfl rfl ?_
              refine VX.guardU rfl rfl ?_
              refine VX.guardU rfl rfl ?_
              refine VX.guardU rfl rfl ?_
              refine VX.guardU rfl rfl ?_
              refine VX.guardU rfl rfl ?_
              refine VX.guardU rfl rfl ?_
              refine VX.guardU rfl rfl ?_
              refine VX.guardU rfl rfl ?_
              refine VX.guardF rfl rfl hb22_1 ?_
              refine VX.guardF rfl rfl hb22_1 ?_
              refine VX.guardU rfl rfl ?_
              refine VX.guardU rfl rfl ?_
              refine VX.guardU rfl rfl ?_
              refine VX.guardU rfl rfl ?_
              refine VX.guardU rfl rfl ?_
              refine VX.guardU rfl rfl ?_
              refine VX.guardF rfl rfl hb22_1 ?_
              refine VX.guardF rfl rfl hb22_1 ?_
              refine VX.guardU rfl rfl ?_
              refine VX.guardU rfl rfl ?_
              refine VX.guardU rfl rfl ?_
              refine VX.guardU rfl rfl ?_
              refine VX.guardU rfl rfl ?_
              refine VX.guardU rfl rfl ?_
              refine VX.guardU rfl rfl ?_
              refine VX.guardU rfl rfl ?_
              refine VX.guardU rfl rfl ?_
              refine VX.guardF rfl rfl hb22_1 ?_
              exact VX.pickO rfl (fun h => absurd (h.symm.trans hb22_1) (by decide)) (VX.nil ⟨rfl, rfl⟩)
          refine VX.meek rfl ?_
          refine VX.nil ?_
          refine VX.nil ?_
          refine VC.regN tab_ok [] rfl ?_
          first | refine VX.add rfl rfl (by omega) ?_ | refine VX.meek rfl ?_
          refine VX.meek rfl ?_
          refine VX.nil ?_
          refine ⟨k + 1, by (try dsimp only); omega, ?_, (by refine ⟨[some 0], rfl, by first | trivial | decide, rfl, ?_, ?_⟩ <;> (repeat' first | exact trivial | exact CvB_n | exact CvB_d | refine CvE_app ?_ ?_ | refine CvE_cons rfl ?_ ?_ | refine CvH_cons ?_ ?_ | refine CvB_c rfl ?_ | fail) <;> first | exact au_v | (first | exact Cv.slc rfl (.inl rfl) | exact CvL.pure (encL_pure cU _) | exact Cv.eq (congrArg BL (by rw [Bool.eq_iff_iff]; simp only [Bool.or_eq_true, Bool.and_eq_true, decide_eq_true_eq, inL_take hkl]; unfold Rect.has; constructor; (rintro (k | k); exact .inl k; right; omega); (rintro (k | k); exact .inl k; right; omega))) rfl))⟩
          (try dsimp only); omega
        · (try simp only [au_std] at hc4); obtain rfl : k = clip.length := (by omega); rw [List.take_length]
          refine VC.exit ?_
          refine VC.reg tab_ok [] rfl ?_
          iterate 2 refine VX.meek rfl ?_
          refine' VX.merge (d := 191) [_, _] rfl ?_ rfl ?_
          rotate_left
          · refine VX.guard rfl rfl (fun hb24_1 => ?_) (fun hb24_1 => ?_)
            · have ghb24_1 := hb24_1
              try simp only [au_std, Bool.not_true, Bool.not_false] at ghb24_1
              refine VX.meek rfl ?_
              refine VX.pickA rfl (fun _ => rfl) ?_
              exact VX.nil ⟨rfl, rfl⟩
            · exact VX.pickA rfl (fun h => absurd (h.symm.trans hb24_1) (by decide)) (VX.nil ⟨rfl, rfl⟩)
          refine VX.meek rfl ?_
          refine' VX.merge (d := 195) [_, _, _] rfl ?_ rfl ?_
          rotate_left
          · refine VX.guard rfl rfl (fun hb24_4 => ?_) (fun hb24_4 => ?_)
            · have ghb24_4 := hb24_4
              try simp only [au_std, Bool.not_true, Bool.not_false] at ghb24_4
              refine VX.meek rfl ?_
              refine VX.guardT rfl rfl hb24_4 ?_
              refine VX.meek rfl ?_
              refine VX.pickA rfl (fun _ => rfl) ?_
              exact VX.nil ⟨rfl, rfl⟩
            · refine VX.guardF rfl rfl hb24_4 ?_
              exact VX.pickA rfl (fun h => absurd (h.symm.trans hb24_4) (by decide)) (VX.nil ⟨rfl, rfl⟩)
          refine VX.meek rfl ?_
          refine' VX.merge (d := 200) [_, _, _, _] rfl ?_ rfl ?_
          rotate_left
          · refine VX.guard rfl rfl (fun hb24_8 => ?_) (fun hb24_8 => ?_)
            · have ghb24_8 := hb24_8
              try simp only [au_std, Bool.not_true, Bool.not_false] at ghb24_8
              refine VX.meek rfl ?_
              refine VX.guardT rfl rfl hb24_8 ?_
              refine VX.meek rfl ?_
              refine VX.guardT rfl rfl hb24_8 ?_
              refine VX.meek rfl ?_
              refine VX.pickA rfl (fun _ => rfl) ?_
              exact VX.nil ⟨rfl, rfl⟩
            · refine VX.guardF rfl rfl hb24_8 ?_
              refine VX.guardF rfl rfl hb24_8 ?_
              exact VX.pickA rfl (fun h => absurd (h.symm.trans hb24_8) (by decide)) (VX.nil ⟨rfl, rfl⟩)
          refine VX.meek rfl ?_
          refine' VX.merge (d := 204) [_, _, _] rfl ?_ rfl ?_
          rotate_left
          · refine VX.guard rfl rfl (fun hb24_13 => ?_) (fun hb24_13 => ?_)
            · have ghb24_13 := hb24_13
              try simp only [au_std, Bool.not_true, Bool.not_false] at ghb24_13
              refine VX.meek rfl ?_
              refine VX.guardT rfl rfl hb24_13 ?_
              refine VX.meek rfl ?_
              refine VX.pickA rfl (fun _ => rfl) ?_
              exact VX.nil ⟨rfl, rfl⟩
            · refine VX.guardF rfl rfl hb24_13 ?_
              exact VX.pickA rfl (fun h => absurd (h.symm.trans hb24_13) (by decide)) (VX.nil ⟨rfl, rfl⟩)
          refine VX.meek rfl ?_
          refine' VX.merge (d := 209) [_, _, _, _] rfl ?_ rfl ?_
          rotate_left
          · refine VX.guard rfl rfl (fun hb24_17 => ?_) (fun hb24_17 => ?_)
            · have ghb24_17 := hb24_17
              try simp only [au_std, Bool.not_true, Bool.not_false] at ghb24_17
              refine VX.meek rfl ?_
              refine VX.guardT rfl rfl hb24_17 ?_
              refine VX.meek rfl ?_
              refine VX.guardT rfl rfl hb24_17 ?_
              refine VX.meek rfl ?_
              refine VX.pickA rfl (fun _ => rfl) ?_
              exact VX.nil ⟨rfl, rfl⟩
            · refine VX.guardF rfl rfl hb24_17 ?_
              refine VX.guardF rfl rfl hb24_17 ?_
              exact VX.pickA rfl (fun h => absurd (h.symm.trans hb24_17) (by decide)) (VX.nil ⟨rfl, rfl⟩)
          refine VX.nil ?_
          refine VC.cond rfl (fun hc5 => ?_) (fun hc5 => ?_)
          · (try simp only [au_std] at hc5)
            have hcc : penE p = 0 ∧ inL clip a b ∧ inB' v u ((a : Int) - X) ((b : Int) - Y) = true := (by rw [inB_iff]; exact ⟨hc5.1.1.1.1.1, hc5.1.1.1.1.2, by omega⟩)
            have hin := inB_iff.1 hcc.2.2
            have hpi := place_lt hin.1 hin.2.1 hin.2.2.1 hin.2.2.2
            have hWv := hWk1 ⟨hcc.1, ⟨hn20.1, hok⟩, hcc.2.1, hcc.2.2⟩
            have hok2 := (penE_ok p).1 hcc.1
            have hmb : 0 ≤ ((b : Int) - Y) * v ∧ ((b : Int) - Y) * v ≤ 24 * 24 := ⟨Int.mul_nonneg (by omega) (by omega), Int.mul_le_mul (c := 24) (d := 24) (by omega) (by omega) (by omega) (by omega)⟩
            rw [← hcur] at hWv
            refine VC.drwN tab_ok [] [_, _, _, _, _, _, _, _, _, _, _, _, _, _, _, _, _, _, _, _] rfl (by kernel_rfl) (by kernel_rfl) ?_
            iterate 3 refine VX.meek rfl ?_
            first | refine VX.meek rfl ?_ | refine VX.loadI rfl rfl au_l ?_ | refine VX.loadP rfl rfl rfl au_l ?_
            iterate 3 refine VX.meek rfl ?_
            refine VX.mul rfl rfl (by omega) ?_
            refine VX.meek rfl ?_
            first | refine VX.add rfl rfl (by omega) ?_ | refine VX.meek rfl ?_
            first | refine VX.idxI rfl rfl rfl rfl rfl rfl (by omega) ?_ | refine VX.idxO0 rfl rfl rfl rfl rfl rfl rfl (by omega) ?_ | refine VX.idxO0 rfl rfl rfl rfl rfl rfl au_z (by omega) ?_ | refine VX.idxO rfl rfl rfl rfl rfl rfl rfl (by omega) ?_ | refine VX.idxI rfl rfl rfl rfl rfl au_z (by omega) ?_ | refine VX.idxO rfl rfl rfl rfl rfl rfl au_z (by omega) ?_ | refine VX.meek rfl ?_
            first | refine VX.meek rfl ?_ | refine VX.loadI rfl rfl au_l ?_ | refine VX.loadP rfl rfl rfl au_l ?_
            iterate 2 refine VX.meek rfl ?_
            first | refine VX.idxI rfl rfl rfl rfl rfl rfl (by omega) ?_ | refine VX.idxO0 rfl rfl rfl rfl rfl rfl rfl (by omega) ?_ | refine VX.idxO0 rfl rfl rfl rfl rfl rfl au_z (by omega) ?_ | refine VX.idxO rfl rfl rfl rfl rfl rfl rfl (by omega) ?_ | refine VX.idxI rfl rfl rfl rfl rfl au_z (by omega) ?_ | refine VX.idxO rfl rfl rfl rfl rfl rfl au_z (by omega) ?_ | refine VX.meek rfl ?_
            first | refine VX.meek rfl ?_ | refine VX.loadI rfl rfl au_l ?_ | refine VX.loadP rfl rfl rfl au_l ?_
            refine VX.meek rfl ?_
            first | refine VX.meek rfl ?_ | refine VX.loadI rfl rfl au_l ?_ | refine VX.loadP rfl rfl rfl au_l ?_
            refine VX.callP0 rfl rfl rfl (mix25_p p.f ipx[(((b : Int) - Y) * v + ((a : Int) - X)).toNat]! cur[i]! p.pl hok2.1 (bang_bd hib _) (hcur.symm ▸ bang_bd hpb i) ⟨hp1, hp2⟩) ?_
            first | refine VX.idxI rfl rfl rfl rfl rfl rfl (by omega) ?_ | refine VX.idxO0 rfl rfl rfl rfl rfl rfl rfl (by omega) ?_ | refine VX.idxO0 rfl rfl rfl rfl rfl rfl au_z (by omega) ?_ | refine VX.idxO rfl rfl rfl rfl rfl rfl rfl (by omega) ?_ | refine VX.idxI rfl rfl rfl rfl rfl au_z (by omega) ?_ | refine VX.idxO rfl rfl rfl rfl rfl rfl au_z (by omega) ?_ | refine VX.meek rfl ?_
            refine VX.nil ?_
            refine VX.store rfl rfl rfl rfl rfl (by rw [encL_len, cU_sz]; (try dsimp only); omega) rfl ?_
            refine VX.nil ?_
            refine VC.regN tab_ok [] rfl ?_
            first | refine VX.add rfl rfl (by omega) ?_ | refine VX.meek rfl ?_
            refine VX.meek rfl ?_
            refine VX.nil ?_
            refine ⟨i + 1, by (try dsimp only); omega, ?_, (by refine ⟨[some 0], rfl, by first | trivial | decide, rfl, ?_, ?_⟩ <;> (repeat' first | exact trivial | exact CvB_n | exact CvB_d | refine CvE_app ?_ ?_ | refine CvE_cons rfl ?_ ?_ | refine CvH_cons ?_ ?_ | refine CvB_c rfl ?_ | fail) <;> first | exact au_v | (first | exact Cv.slc rfl (.inl rfl) | (rw [← hstep, hWv]; exact CvL.eq (cells_put (by omega)) (encL_pure cU _))))⟩
            (try dsimp only); omega
          · (try simp only [au_std] at hc5)
            have hnc : ¬ (penE p = 0 ∧ (clip.length ≤ 20 ∧ (∀ s ∈ clip, okS s)) ∧ inL clip a b ∧ inB' v u ((a : Int) - X) ((b : Int) - Y) = true) := (by rintro ⟨k1, -, k2, k3⟩; rw [inB_iff] at k3; revert hc5; simp [k1, k2]; omega)
            refine VC.skip ?_
            refine VC.regN tab_ok [] rfl ?_
            first | refine VX.add rfl rfl (by omega) ?_ | refine VX.meek rfl ?_
            refine VX.meek rfl ?_
            refine VX.nil ?_
            refine ⟨i + 1, by (try dsimp only); omega, ?_, (by refine ⟨[some 0], rfl, by first | trivial | decide, rfl, ?_, ?_⟩ <;> (repeat' first | exact trivial | exact CvB_n | exact CvB_d | refine CvE_app ?_ ?_ | refine CvE_cons rfl ?_ ?_ | refine CvH_cons ?_ ?_ | refine CvB_c rfl ?_ | fail) <;> first | exact au_v | (first | exact Cv.slc rfl (.inl rfl) | (rw [← hstep, hWn1 hnc, ← hcur, set_same cur]; exact CvL.pure (encL_pure cU _))))⟩
            (try dsimp only); omega
      · (try simp only [au_std] at hc3); obtain rfl : i = w * h := (by omega)
        rw [List.take_of_length_le (by omega), List.drop_of_length_le (by omega), List.append_nil]
        refine VC.exit ?_
        refine VC.drw tab_ok [] [_, _, _, _, _, _, _, _, _, _, _] rfl (by kernel_rfl) (by kernel_rfl) ?_
        first | refine VX.meek rfl ?_ | refine VX.loadI rfl rfl au_l ?_ | refine VX.loadP rfl rfl rfl au_l ?_
        refine VX.meek rfl ?_
        refine VX.callP0 rfl rfl rfl (of_p clip (by omega) (fun r hr => ⟨(hsi r hr).1, (hsi r hr).2.1⟩)) ?_
        first | refine VX.meek rfl ?_ | refine VX.loadI rfl rfl au_l ?_ | refine VX.loadP rfl rfl rfl au_l ?_
        refine VX.meek rfl ?_
        refine VX.meek (t := I64 X) (by show some (T.v (.int .i64 (IntKind.i64.wrap X)), (none : Option (Nat × List T))) = _; rw [wrap_in (by omega)]) ?_
        refine VX.meek rfl ?_
        refine VX.meek (t := I64 Y) (by show some (T.v (.int .i64 (IntKind.i64.wrap Y)), (none : Option (Nat × List T))) = _; rw [wrap_in (by omega)]) ?_
        first | refine VX.meek rfl ?_ | refine VX.loadI rfl rfl au_l ?_ | refine VX.loadP rfl rfl rfl au_l ?_
        refine VX.callP0 rfl rfl rfl (hput) ?_
        refine VX.new rfl rfl ?_
        refine VX.nil ?_
        refine VX.store rfl rfl rfl rfl rfl au_sR rfl ?_
        refine VX.nil ?_
        refine VC.reg tab_ok [] rfl ?_
        refine VX.callP0 rfl rfl rfl (awake25_p) ?_
        refine VX.meek rfl ?_
        refine' VX.merge (d := 248) [_, _, _, _, _, _] rfl ?_ rfl ?_
        rotate_left
        · refine VX.guard rfl rfl (fun hb28_1 => ?_) (fun hb28_1 => ?_)
          · have ghb28_1 := hb28_1
            try simp only [au_std, Bool.not_true, Bool.not_false] at ghb28_1
            first | refine VX.meek rfl ?_ | refine VX.loadI rfl rfl au_l ?_ | refine VX.loadP rfl rfl rfl au_l ?_
            refine VX.guardT rfl rfl hb28_1 ?_
            refine VX.meek rfl ?_
            refine VX.guardT rfl rfl hb28_1 ?_
            refine VX.meek rfl ?_
            refine VX.guardT rfl rfl hb28_1 ?_
            refine VX.meek rfl ?_
            refine VX.guardT rfl rfl hb28_1 ?_
            refine VX.callB rfl rfl (is25_p w h W ⟨by omega, by omega⟩ ⟨by omega, by omega⟩ hWl hWb) rfl (CvL.cons (Cv.eq rfl (by simp only [T.pureL, T.pure, encL_pure]; rfl)) (CvL.cons (Cv.pure rfl) (CvL.cons (Cv.pure rfl) (CvL.cons (by rw [hpW]; exact Cv.fslc0 ⟨rfl, by simp⟩ (CvL.pure (encL_pure cU _))) CvL.nil)))) ?_
            refine VX.pickA rfl (fun _ => rfl) ?_
            exact VX.nil ⟨rfl, rfl⟩
          · refine VX.guardF rfl rfl hb28_1 ?_
            refine VX.guardF rfl rfl hb28_1 ?_
            refine VX.guardF rfl rfl hb28_1 ?_
            refine VX.guardF rfl rfl hb28_1 ?_
            exact VX.pickA rfl (fun h => absurd (h.symm.trans hb28_1) (by decide)) (VX.nil ⟨rfl, rfl⟩)
        refine VX.meek rfl ?_
        refine' VX.merge (d := 255) [_, _, _, _, _, _] rfl ?_ rfl ?_
        rotate_left
        · refine VX.guard rfl rfl (fun hb28_8 => ?_) (fun hb28_8 => ?_)
          · have ghb28_8 := hb28_8
            try simp only [au_std, Bool.not_true, Bool.not_false] at ghb28_8
            first | refine VX.meek rfl ?_ | refine VX.loadI rfl rfl au_l ?_ | refine VX.loadP rfl rfl rfl au_l ?_
            refine VX.guardT rfl rfl hb28_8 ?_
            refine VX.meek rfl ?_
            refine VX.guardT rfl rfl hb28_8 ?_
            refine VX.meek rfl ?_
            refine VX.guardT rfl rfl hb28_8 ?_
            refine VX.meek rfl ?_
            refine VX.guardT rfl rfl hb28_8 ?_
            refine VX.callP0 rfl rfl rfl (is25_p w h px ⟨by omega, by omega⟩ ⟨by omega, by omega⟩ hpl hpb) ?_
            refine VX.pickA rfl (fun _ => rfl) ?_
            exact VX.nil ⟨rfl, rfl⟩
          · refine VX.guardF rfl rfl hb28_8 ?_
            refine VX.guardF rfl rfl hb28_8 ?_
            refine VX.guardF rfl rfl hb28_8 ?_
            refine VX.guardF rfl rfl hb28_8 ?_
            exact VX.pickA rfl (fun h => absurd (h.symm.trans hb28_8) (by decide)) (VX.nil ⟨rfl, rfl⟩)
        refine VX.meek rfl ?_
        refine VX.nil ?_
        refine VC.ret ?_
        exact ⟨trivial, _, rfl, Cv.eq rfl rfl⟩
end
section
open Go.ChangeShapes Go.WideShapes Go.ChangeAt Go.RowKit Go.WideElems
def rowed (P : Program) (ts : List TypeId) : Bool := ts.all fun t => P.readableRec t && decide (t < P.types.size)
theorem trodAll_below {H : Type} {enc : TypeId × Value → H} {P : Program} (hl : laidOutB P = true) {W W' : World} (hb : Below W.heap.size W W') :
    ∀ {ts : List TypeId} {vs : List Value} {ds : List (DataW H)} {p : List MemPlace}, rowed P ts = true → (∀ x ∈ p, x.block < W.heap.size) →
      DataW.TrodAll enc P W 0 (fun _ => true) true ts vs ds p → DataW.TrodAll enc P W' 0 (fun b => decide (b < W.heap.size)) true ts vs ds p
  | [], _, _, _, _, _, h => by
    obtain ⟨rfl, rfl, rfl⟩ := trodAll_nil h
    exact trodAll_mk0
  | t :: ts, _, _, _, hr, hlt, h => by
    obtain ⟨v, vs1, d, ds1, a, b, rfl, rfl, rfl, h1, h2⟩ := trodAll_cons h
    simp only [rowed, List.all_cons, Bool.and_eq_true, decide_eq_true_eq] at hr
    refine trodAll_cons_mk (Below.trod hl hr.1.1 hr.1.2 h1 hb (fun x hx => hlt x (by simp [hx]))) ?_
    exact trodAll_below hl hb (by simpa [rowed] using hr.2) (fun x hx => hlt x (by simp [hx])) h2
theorem post_law {H : Type} {enc : TypeId × Value → H} {P : Program} {f : Func} {s : ChangeSpec} {W W' : World} {args : Array Value} {ds gs : List (DataW H)} {before : List MemPlace} {tb : TypeId}
    (hl : laidOutB P = true) (hps : rowed P f.params.toList = true) (hvs : varsRowed P s.vars = true) (hres : f.resultTypes = #[tb]) (htb : P.underlying tb = some .bool)
    (hW : DataW.Whole enc P f.params.toList s.vars false W args.toList ds gs before)
    (h1 : (s.fn H (ds ++ gs)).results = [.lit (.bool true)]) (h2 : (s.fn H (ds ++ gs)).args = ds) (h3 : (s.fn H (ds ++ gs)).vars = gs)
    (hb : Below W.heap.size W W') : s.post enc P f false true false false W args (.bool true) W' := by
  have hlt := hW.lt
  have hW' := hW
  obtain ⟨p, q, hA, hV, rfl, hfz, hnd⟩ := hW
  refine ⟨ds, gs, p ++ q, [], p, q, hW', ?_, ?_, ?_, hb.frame _, fun h => by cases h⟩
  · rw [h1, hres]
    exact trodAll_cons_mk (shut_bool htb true) trodAll_mk0
  · rw [h2]
    exact trodAll_below hl hb hps (fun x hx => hlt x (by simp [hx])) hA
  · rw [h3]
    exact Below.trodVars hl hb hvs hV
end
end Go.Proofs.YtmahbhdjpielmaaGreat
