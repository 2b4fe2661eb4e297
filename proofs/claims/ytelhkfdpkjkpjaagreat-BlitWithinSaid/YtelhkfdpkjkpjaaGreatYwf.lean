/-
  The proof's lemmas, part 6.
-/
import Derived.Test.YtelhkfdpkjkpjaaGreatYwe
import Derived.OpenVars
import Derived.Carry
namespace Go.Proofs.YtelhkfdpkjkpjaaGreat
set_option linter.unusedSimpArgs false
set_option linter.unusedVariables false
section
open Go.RowKit Go.Sort
set_option maxRecDepth 10000
theorem padL_bang (P : List Int) (n j : Nat) : (padL P n)[j]! = if j < n ∧ j < P.length then P[j]! else 0 := by
  by_cases hj : j < n
  · rw [getElem!_pos (padL P n) j (by rw [padL_len]; exact hj)]
    unfold padL
    rw [List.getElem_map, List.getElem_range]
    by_cases h2 : j < P.length
    · rw [if_pos h2, if_pos ⟨hj, h2⟩]
    · rw [if_neg h2, if_neg (fun h => h2 h.2)]
  · rw [if_neg (fun h => hj h.1), List.getElem!_eq_getElem?_getD, List.getElem?_eq_none (by rw [padL_len]; omega)]; rfl
theorem padL_nil (n : Nat) : padL [] n = List.replicate n 0 := by
  refine listI_ext (by rw [padL_len, List.length_replicate]) fun i hi => ?_
  rw [padL_bang, if_neg (by simp), repl_at]
theorem take_bang {P : List Int} {i j : Nat} (h : j < i) : (P.take i)[j]! = P[j]! := by
  rw [List.getElem!_eq_getElem?_getD, List.getElem!_eq_getElem?_getD, List.getElem?_take_of_lt h]
theorem padL_set {P : List Int} {n i : Nat} (hi : i < n) (hP : i < P.length) : (padL (P.take i) n).set i P[i]! = padL (P.take (i + 1)) n := by
  refine listI_ext (by rw [List.length_set, padL_len, padL_len]) fun j hj => ?_
  rw [List.length_set, padL_len] at hj
  rw [bang_set, padL_bang, padL_bang, padL_len, List.length_take, List.length_take]
  by_cases e : i = j
  · subst e
    rw [if_pos ⟨rfl, hi⟩, if_pos ⟨hi, by omega⟩, take_bang (by omega)]
  · rw [if_neg (fun h => e h.1)]
    by_cases h : j < i
    · rw [if_pos ⟨hj, by omega⟩, if_pos ⟨hj, by omega⟩, take_bang h, take_bang (by omega)]
    · rw [if_neg (by omega), if_neg (by omega)]
theorem padL_skip {P : List Int} {n i : Nat} (hi : ¬ i < n) : padL (P.take i) n = padL (P.take (i + 1)) n := by
  refine listI_ext (by rw [padL_len, padL_len]) fun j hj => ?_
  rw [padL_len] at hj
  rw [padL_bang, padL_bang, List.length_take, List.length_take]
  by_cases h : j < P.length
  · rw [if_pos ⟨hj, by omega⟩, if_pos ⟨hj, by omega⟩, take_bang (by omega), take_bang (by omega)]
  · rw [if_neg (by omega), if_neg (by omega)]
abbrev plane17T (cw ch : Nat) (P : List Int) : T := .agg [U8 cw, U8 ch, .islc (encL cU P) P.length none]
theorem make17_p (cw ch : Nat) (P : List Int) (hcw : cw < 256) (hch : ch < 256) (hn : P.length ≤ 1048576) (hb : ∀ v ∈ P, 0 ≤ v ∧ v < 256) : CallP Tryz.prog 36 [plane17T cw ch P] (gT (cw % 16 + 1) (ch % 16 + 1) (padL P ((cw % 16 + 1) * (ch % 16 + 1)))) := by
  have hwh : (cw % 16 + 1) * (ch % 16 + 1) ≤ 16 * 16 := Nat.mul_le_mul (by omega) (by omega)
  generalize hW : cw % 16 + 1 = W at *
  generalize hH : ch % 16 + 1 = H at *
  have hm : (W : Int) * (H : Int) = ((W * H : Nat) : Int) := (Int.natCast_mul W H).symm
  have hw16 : 1 ≤ W ∧ W ≤ 16 := by omega
  have hh16 : 1 ≤ H ∧ H ≤ 16 := by omega
  refine CallP.intro2 au_pu au_pu ?_
  refine CallT.intro tab_ok Tryz.func36 rfl (by kernel_rfl) (Nat.le_of_ble_eq_true rfl) ?_
  refine VC.reg tab_ok [1] rfl ?_
  refine VX.newI rfl rfl ?_
  refine VX.new rfl rfl ?_
  refine VX.nil ?_
  refine VC.drw tab_ok [] [_, _, _, _, _, _, _, _, _, _, _, _] rfl (by kernel_rfl) (by kernel_rfl) ?_
  refine VX.meek rfl ?_
  first | refine VX.meek rfl ?_ | refine VX.loadI rfl rfl au_l ?_ | refine VX.loadP rfl rfl rfl au_l ?_
  refine VX.remU rfl rfl (by omega) (by omega) ?_
  refine VX.meek (t := I64 ((cw : Int) % 16)) (by show some (T.v (.int .i64 (IntKind.i64.wrap ((cw : Int) % 16))), (none : Option (Nat × List T))) = _; rw [wrap_in (by omega)]) ?_
  refine VX.add rfl rfl (by omega) ?_; rw [show (cw : Int) % 16 + 1 = (W : Int) from by omega]
  refine VX.meek rfl ?_
  first | refine VX.meek rfl ?_ | refine VX.loadI rfl rfl au_l ?_ | refine VX.loadP rfl rfl rfl au_l ?_
  refine VX.remU rfl rfl (by omega) (by omega) ?_
  refine VX.meek (t := I64 ((ch : Int) % 16)) (by show some (T.v (.int .i64 (IntKind.i64.wrap ((ch : Int) % 16))), (none : Option (Nat × List T))) = _; rw [wrap_in (by omega)]) ?_
  refine VX.add rfl rfl (by omega) ?_; rw [show (ch : Int) % 16 + 1 = (H : Int) from by omega]
  iterate 2 refine VX.meek rfl ?_
  refine VX.nil ?_
  refine VX.nil ?_
  refine VC.reg tab_ok [] rfl ?_
  iterate 2 refine VX.meek rfl ?_
  refine VX.callP0 rfl rfl rfl (gnew_p W H 0 ⟨by omega, by omega⟩ ⟨by omega, by omega⟩) ?_
  iterate 3 refine VX.meek rfl ?_
  refine VX.new rfl rfl ?_
  refine VX.store rfl rfl rfl rfl rfl au_sS rfl ?_
  refine VX.meek rfl ?_
  refine VX.nil ?_
  refine VC.seq ?_
  refine VC.reg tab_ok [] rfl ?_
  refine VX.meek rfl ?_
  first | refine VX.meek rfl ?_ | refine VX.loadI rfl rfl au_l ?_ | refine VX.loadP rfl rfl rfl au_l ?_
  iterate 2 refine VX.meek rfl ?_
  refine VX.nil ?_
  refine VC.block ?_
  refine VC.loopS (σ := Nat) (fun i => P.length - i) (fun i => i ≤ P.length) (fun i => [(28, I64 i), (2, .ptr 0 0), (5, .ptr 1 0)]) (fun i => [.c [I64 0, I64 0, NIL], .c [I64 W, I64 H, .islc (encL cU (padL (P.take i) (W * H))) (W * H) none]]) [3, 4, 26, 27] rfl (0) ?_ ?_ ?_
  · refine ⟨[some 0, some 1], rfl, by first | trivial | decide, rfl, ?_, ?_⟩ <;> (repeat' first | exact trivial | exact CvB_n | exact CvB_d | refine CvE_app ?_ ?_ | refine CvE_cons rfl ?_ ?_ | refine CvH_cons ?_ ?_ | refine CvB_c rfl ?_ | fail) <;> first | exact au_v | (first | exact CvL.pure rfl | (refine cv_g (Cv.eq ?_ (encL_pure cU _)); rw [List.take_zero, padL_nil, List.length_replicate]))
  · (try dsimp only); omega
  rintro i hi
  refine VC.reg tab_ok [] rfl ?_
  refine VX.meek rfl ?_
  refine VX.nil ?_
  refine VC.seq ?_
  refine VC.cond rfl (fun hc0 => ?_) (fun hc0 => ?_)
  · (try simp only [au_std] at hc0); have hil : i < P.length := (by omega); have hpl := padL_len (P.take i) (W * H)
    refine VC.skip ?_
    refine VC.seq ?_
    refine VC.block ?_
    refine VC.reg tab_ok [] rfl ?_
    refine VX.meek rfl ?_
    first | refine VX.idxI rfl rfl rfl rfl rfl rfl (by omega) ?_ | refine VX.idxO0 rfl rfl rfl rfl rfl rfl rfl (by omega) ?_ | refine VX.idxO0 rfl rfl rfl rfl rfl rfl au_z (by omega) ?_ | refine VX.idxO rfl rfl rfl rfl rfl rfl rfl (by omega) ?_ | refine VX.idxI rfl rfl rfl rfl rfl au_z (by omega) ?_ | refine VX.idxO rfl rfl rfl rfl rfl rfl au_z (by omega) ?_ | refine VX.meek rfl ?_
    first | refine VX.meek rfl ?_ | refine VX.loadI rfl rfl au_l ?_ | refine VX.loadP rfl rfl rfl au_l ?_
    iterate 2 refine VX.meek rfl ?_
    refine VX.nil ?_
    refine VC.reg tab_ok [] rfl ?_
    iterate 3 refine VX.meek rfl ?_
    first | refine VX.mul rfl rfl (by omega) ?_ | refine VX.meek rfl ?_
    refine VX.meek rfl ?_
    refine VX.nil ?_
    refine VC.cond rfl (fun hc1 => ?_) (fun hc1 => ?_)
    · (try simp only [au_std] at hc1); have hin : i < W * H := (by omega)
      have hxm : (i : Int) % (W : Int) = ((i % W : Nat) : Int) := (Int.natCast_emod i W).symm
      have hyd : (i : Int) / (W : Int) = ((i / W : Nat) : Int) := (Int.natCast_ediv i W).symm
      have hx1 : i % W < W := Nat.mod_lt _ (by omega)
      have hy1 : i / W < H := Nat.div_lt_of_lt_mul hin
      have hidx : ((i : Int) / (W : Int) * (W : Int) + (i : Int) % (W : Int)).toNat = i := (by rw [hxm, hyd, idx_nat, Nat.div_add_mod'])
      have hst := padL_set (P := P) hin hil
      have hX : 0 ≤ (i : Int) % (W : Int) ∧ (i : Int) % (W : Int) < W := ⟨by rw [hxm]; exact Int.natCast_nonneg _, by rw [hxm]; exact Int.ofNat_lt.2 hx1⟩
      have hY : 0 ≤ (i : Int) / (W : Int) ∧ (i : Int) / (W : Int) < H := ⟨by rw [hyd]; exact Int.natCast_nonneg _, by rw [hyd]; exact Int.ofNat_lt.2 hy1⟩
      refine VC.drwN tab_ok [] [_, _, _, _, _, _, _, _, _] rfl (by kernel_rfl) (by kernel_rfl) ?_
      first | refine VX.meek rfl ?_ | refine VX.loadI rfl rfl au_l ?_ | refine VX.loadP rfl rfl rfl au_l ?_
      iterate 2 refine VX.meek rfl ?_
      refine VX.rem rfl rfl (by omega) (by omega) ?_
      iterate 2 refine VX.meek rfl ?_
      refine VX.quo rfl rfl (by omega) (by omega) (by omega) ?_
      refine VX.meek rfl ?_
      refine VX.callP0 rfl rfl rfl (hidx ▸ gset_n W H (padL (P.take i) (W * H)) (W * H) hpl ((i : Int) % (W : Int)) ((i : Int) / (W : Int)) P[i]! (by omega) (by omega) hpl (padL_bd (fun v hv => hb v (List.mem_of_mem_take hv)) _) hX hY) ?_
      refine VX.nil ?_
      refine VX.store rfl rfl rfl rfl rfl au_sS rfl ?_
      refine VX.nil ?_
      refine VC.regN tab_ok [] rfl ?_
      first | refine VX.add rfl rfl (by omega) ?_ | refine VX.meek rfl ?_
      refine VX.meek rfl ?_
      refine VX.nil ?_
      refine ⟨i + 1, by (try dsimp only); omega, ?_, (by refine ⟨[some 0, some 1], rfl, by first | trivial | decide, rfl, ?_, ?_⟩ <;> (repeat' first | exact trivial | exact CvB_n | exact CvB_d | refine CvE_app ?_ ?_ | refine CvE_cons rfl ?_ ?_ | refine CvH_cons ?_ ?_ | refine CvB_c rfl ?_ | fail) <;> first | exact au_v | (first | exact CvL.pure rfl | (rw [← hst]; exact cv_g (Cv.pure (encL_pure cU _)))))⟩
      (try dsimp only); omega
    · (try simp only [au_std] at hc1); have hst := padL_skip (P := P) (n := W * H) (i := i) (by omega)
      refine VC.skip ?_
      refine VC.regN tab_ok [] rfl ?_
      first | refine VX.add rfl rfl (by omega) ?_ | refine VX.meek rfl ?_
      refine VX.meek rfl ?_
      refine VX.nil ?_
      refine ⟨i + 1, by (try dsimp only); omega, ?_, (by refine ⟨[some 0, some 1], rfl, by first | trivial | decide, rfl, ?_, ?_⟩ <;> (repeat' first | exact trivial | exact CvB_n | exact CvB_d | refine CvE_app ?_ ?_ | refine CvE_cons rfl ?_ ?_ | refine CvH_cons ?_ ?_ | refine CvB_c rfl ?_ | fail) <;> first | exact au_v | (first | exact CvL.pure rfl | (rw [← hst]; exact cv_g (Cv.pure (encL_pure cU _)))))⟩
      (try dsimp only); omega
  · (try simp only [au_std] at hc0); obtain rfl : i = P.length := (by omega); rw [List.take_length]
    refine VC.exit ?_
    refine VC.reg tab_ok [] rfl ?_
    first | refine VX.meek rfl ?_ | refine VX.loadI rfl rfl au_l ?_ | refine VX.loadP rfl rfl rfl au_l ?_
    refine VX.store rfl rfl rfl rfl rfl au_sS rfl ?_
    refine VX.nil ?_
    refine VC.ret ?_
    refine ⟨trivial, _, rfl, Cv.agg (cv_g (Cv.eq (by rw [padL_len]) (encL_pure cU _)))⟩
theorem cells_putT {s : List Int} {tl : List T} {m : Nat} {v : Int} (h : m < s.length) : putL (encL cU s ++ tl) (m * 1) [U8 v] = encL cU (s.set m v) ++ tl := by
  have e := cells_put (v := v) h
  have hl : (encL cU s).length = s.length := by rw [encL_len, cU_sz, Nat.mul_one]
  have h2 : m * 1 + [U8 v].length ≤ (encL cU s).length := by rw [hl]; simp; omega
  unfold putL at e ⊢
  rw [List.take_append_of_le_length (by omega), List.drop_append_of_le_length h2, ← List.append_assoc, e]
theorem new17_t (w h : Nat) (hw : w ≤ 128) (hh : h ≤ 128) : CallT Tryz.prog 103 [I64 w, I64 h, U8 0] [] (fun t H' => ∃ tl, T.pureL tl = true ∧ t = .agg [I64 w, I64 h, .slc 2 0 (w * h) 1 none] ∧ H' = [.c [I64 w, I64 h, .slc 2 0 (w * h) 1 none], .c [I64 w, I64 h, .slc 2 0 (w * h) 1 none], .c (encL cU (List.replicate (w * h) 0) ++ tl)]) := by
  have hwh : w * h ≤ 128 * 128 := Nat.mul_le_mul hw hh
  have hm : (w : Int) * (h : Int) = ((w * h : Nat) : Int) := (Int.natCast_mul w h).symm
  refine CallT.intro tab_ok Tryz.func103 rfl (by kernel_rfl) (Nat.le_of_ble_eq_true rfl) ?_
  refine VC.reg tab_ok [] rfl ?_
  refine VX.new rfl rfl ?_
  refine VX.nil ?_
  refine VC.reg tab_ok [] rfl ?_
  iterate 3 refine VX.meek rfl ?_
  refine VX.new rfl rfl ?_
  refine VX.store rfl rfl rfl rfl rfl au_sS rfl ?_
  refine VX.nil ?_
  refine VC.view ([(6, .ptr 0 0), (7, .ptr 1 0)]) ([.c [I64 0, I64 0, NIL], .c [I64 w, I64 h, NIL]]) [0, 1, 2] rfl (by refine ⟨[some 0, some 1], rfl, by first | trivial | decide, rfl, ?_, ?_⟩ <;> (repeat' first | exact trivial | exact CvB_n | exact CvB_d | refine CvE_app ?_ ?_ | refine CvE_cons rfl ?_ ?_ | refine CvH_cons ?_ ?_ | refine CvB_c rfl ?_ | fail) <;> first | exact au_v | (exact CvL.eq rfl rfl)) ?_
  refine VC.seq ?_
  refine VC.reg tab_ok [] rfl ?_
  refine VX.meek rfl ?_
  refine VX.nil ?_
  refine VC.block ?_
  refine VC.loopS2 (σ1 := Nat) (σ2 := List T) (fun i _ => w * h - i) (fun i tl => i ≤ w * h ∧ T.pureL tl = true) (fun i _ => [(8, I64 i), (6, .ptr 0 0), (7, .ptr 1 0)]) (fun i tl => [.c [I64 0, I64 0, NIL], .c [I64 w, I64 h, .slc 2 0 i 1 none], .c (encL cU (List.replicate i 0) ++ tl)]) [0, 1, 2] rfl (0) ([]) ?_ ?_ ?_
  · refine ⟨[some 0, some 1, none], rfl, by first | trivial | decide, rfl, ?_, ?_⟩ <;> (repeat' first | exact trivial | exact CvB_n | exact CvB_d | refine CvE_app ?_ ?_ | refine CvE_cons rfl ?_ ?_ | refine CvH_cons ?_ ?_ | refine CvB_c rfl ?_ | fail) <;> first | exact au_v | (first | exact CvL.pure rfl | exact CvL.cons (Cv.pure rfl) (CvL.cons (Cv.pure rfl) (CvL.cons (Cv.nilv rfl) CvL.nil)))
  · exact ⟨by omega, rfl⟩
  rintro i tl ⟨hi, htl⟩
  refine VC.seq ?_
  refine VC.reg tab_ok [] rfl ?_
  iterate 3 refine VX.meek rfl ?_
  first | refine VX.mul rfl rfl (by omega) ?_ | refine VX.meek rfl ?_
  refine VX.meek rfl ?_
  refine VX.nil ?_
  refine VC.cond rfl (fun hc0 => ?_) (fun hc0 => ?_)
  · (try simp only [au_std] at hc0); have hil : i < w * h := (by omega); have hrl : (List.replicate i (0 : Int)).length = i := List.length_replicate; have hcl : (encL cU (List.replicate i (0 : Int)) ++ tl).length = i + tl.length := (by rw [List.length_append, encL_len, cU_sz, hrl, Nat.mul_one])
    have hsn : List.replicate (i + 1) (0 : Int) = List.replicate i 0 ++ [0] := List.replicate_succ'
    refine VC.skip ?_
    refine VC.seq ?_
    refine VC.block ?_
    refine VC.regN tab_ok [22] rfl ?_
    refine VX.meek rfl ?_
    first | refine VX.meek rfl ?_ | refine VX.loadI rfl rfl au_l ?_ | refine VX.loadP rfl rfl rfl au_l ?_
    refine VX.meek rfl ?_
    refine VX.newI rfl rfl ?_
    refine VX.append rfl rfl rfl rfl rfl rfl rfl rfl (by rw [hcl]; omega) (by dsimp only; omega) (by omega) rfl rfl ?_
    refine VX.meek rfl ?_
    refine VX.store rfl rfl rfl rfl rfl au_sS rfl ?_
    refine VX.nil ?_
    refine VC.regN tab_ok [] rfl ?_
    refine VX.meek rfl ?_
    first | refine VX.add rfl rfl (by omega) ?_ | refine VX.meek rfl ?_
    refine VX.meek rfl ?_
    refine VX.nil ?_
    refine ⟨i + 1, [], by (try dsimp only); omega, ?_, (by refine ⟨[some 0, some 1, some 3], rfl, by first | trivial | decide, rfl, ?_, ?_⟩ <;> (repeat' first | exact trivial | exact CvB_n | exact CvB_d | refine CvE_app ?_ ?_ | refine CvE_cons rfl ?_ ?_ | refine CvH_cons ?_ ?_ | refine CvB_c rfl ?_ | fail) <;> first | exact au_v | (first | exact CvL.pure rfl | (refine cv_g (Cv.slcE rfl rfl (.inl rfl))) | (refine CvL.eq ?_ ?_; (rw [hsn]; exact app_one cU hrl.symm rfl rfl); (rw [List.append_nil]; exact encL_pure cU _))))⟩
    exact ⟨by omega, rfl⟩
  · (try simp only [au_std] at hc0); obtain rfl : i = w * h := (by omega)
    refine VC.exit ?_
    refine VC.reg tab_ok [] rfl ?_
    first | refine VX.meek rfl ?_ | refine VX.loadI rfl rfl au_l ?_ | refine VX.loadP rfl rfl rfl au_l ?_
    refine VX.store rfl rfl rfl rfl rfl au_sS rfl ?_
    refine VX.nil ?_
    refine VC.ret ?_
    exact ⟨trivial, _, rfl, tl, htl, rfl, rfl⟩
theorem ref17_p (cw ch : Nat) (P : List Int) (hcw : cw < 256) (hch : ch < 256) (hn : P.length ≤ 1048576) (hb : ∀ v ∈ P, 0 ≤ v ∧ v < 256) : CallP Tryz.prog 41 [plane17T cw ch P] (gT (cw % 16 + 1) (ch % 16 + 1) (padL P ((cw % 16 + 1) * (ch % 16 + 1)))) := by
  have hwh : (cw % 16 + 1) * (ch % 16 + 1) ≤ 16 * 16 := Nat.mul_le_mul (by omega) (by omega)
  generalize hW : cw % 16 + 1 = W at *
  generalize hH : ch % 16 + 1 = H at *
  have hw16 : 1 ≤ W ∧ W ≤ 16 := by omega
  have hh16 : 1 ≤ H ∧ H ≤ 16 := by omega
  refine CallP.intro2 au_pu au_pu ?_
  refine CallT.intro tab_ok Tryz.func41 rfl (by kernel_rfl) (Nat.le_of_ble_eq_true rfl) ?_
  refine VC.reg tab_ok [1] rfl ?_
  refine VX.newI rfl rfl ?_
  refine VX.new rfl rfl ?_
  refine VX.nil ?_
  refine VC.reg tab_ok [] rfl ?_
  refine VX.meek rfl ?_
  first | refine VX.meek rfl ?_ | refine VX.loadI rfl rfl au_l ?_ | refine VX.loadP rfl rfl rfl au_l ?_
  refine VX.remU rfl rfl (by omega) (by omega) ?_
  refine VX.meek (t := I64 ((cw : Int) % 16)) (by show some (T.v (.int .i64 (IntKind.i64.wrap ((cw : Int) % 16))), (none : Option (Nat × List T))) = _; rw [wrap_in (by omega)]) ?_
  refine VX.add rfl rfl (by omega) ?_; rw [show (cw : Int) % 16 + 1 = (W : Int) from by omega]
  refine VX.meek rfl ?_
  first | refine VX.meek rfl ?_ | refine VX.loadI rfl rfl au_l ?_ | refine VX.loadP rfl rfl rfl au_l ?_
  refine VX.remU rfl rfl (by omega) (by omega) ?_
  refine VX.meek (t := I64 ((ch : Int) % 16)) (by show some (T.v (.int .i64 (IntKind.i64.wrap ((ch : Int) % 16))), (none : Option (Nat × List T))) = _; rw [wrap_in (by omega)]) ?_
  refine VX.add rfl rfl (by omega) ?_; rw [show (ch : Int) % 16 + 1 = (H : Int) from by omega]
  refine VX.callT rfl rfl (CallT.frame (new17_t W H (by omega) (by omega)) [] rfl au_ci au_ci ?_)
  rintro _ _ ⟨tl, htl, rfl, rfl⟩
  refine frK au_co au_co ?_
  refine VX.new rfl rfl ?_
  refine VX.store rfl rfl rfl rfl rfl au_sS rfl ?_
  refine VX.nil ?_
  refine VC.seq ?_
  refine VC.reg tab_ok [] rfl ?_
  refine VX.meek rfl ?_
  first | refine VX.meek rfl ?_ | refine VX.loadI rfl rfl au_l ?_ | refine VX.loadP rfl rfl rfl au_l ?_
  iterate 2 refine VX.meek rfl ?_
  refine VX.nil ?_
  refine VC.block ?_
  refine VC.loopS (σ := Nat) (fun i => P.length - i) (fun i => i ≤ P.length) (fun i => [(20, I64 i), (2, .ptr 0 0), (3, .ptr 1 0)]) (fun i => [.c [I64 0, I64 0, NIL], .c [I64 W, I64 H, .slc 2 0 (W * H) 1 none], .c (encL cU (padL (P.take i) (W * H)) ++ tl)]) [18, 19] rfl (0) ?_ ?_ ?_
  · refine ⟨[some 0, some 4, some 3], rfl, by first | trivial | decide, rfl, ?_, ?_⟩ <;> (repeat' first | exact trivial | exact CvB_n | exact CvB_d | refine CvE_app ?_ ?_ | refine CvE_cons rfl ?_ ?_ | refine CvH_cons ?_ ?_ | refine CvB_c rfl ?_ | fail) <;> first | exact au_v | (first | exact CvL.pure rfl | (rw [List.take_zero, padL_nil]; exact CvL.pure (pureL_append (encL_pure cU _) htl)) | exact cv_g (Cv.slc rfl (.inl rfl)))
  · (try dsimp only); omega
  rintro i hi
  refine VC.reg tab_ok [] rfl ?_
  refine VX.meek rfl ?_
  refine VX.nil ?_
  refine VC.seq ?_
  refine VC.cond rfl (fun hc0 => ?_) (fun hc0 => ?_)
  · (try simp only [au_std] at hc0); have hil : i < P.length := (by omega); have hpl := padL_len (P.take i) (W * H)
    refine VC.skip ?_
    refine VC.seq ?_
    refine VC.block ?_
    refine VC.reg tab_ok [] rfl ?_
    refine VX.meek rfl ?_
    first | refine VX.idxI rfl rfl rfl rfl rfl rfl (by omega) ?_ | refine VX.idxO0 rfl rfl rfl rfl rfl rfl rfl (by omega) ?_ | refine VX.idxO0 rfl rfl rfl rfl rfl rfl au_z (by omega) ?_ | refine VX.idxO rfl rfl rfl rfl rfl rfl rfl (by omega) ?_ | refine VX.idxI rfl rfl rfl rfl rfl au_z (by omega) ?_ | refine VX.idxO rfl rfl rfl rfl rfl rfl au_z (by omega) ?_ | refine VX.meek rfl ?_
    first | refine VX.meek rfl ?_ | refine VX.loadI rfl rfl au_l ?_ | refine VX.loadP rfl rfl rfl au_l ?_
    iterate 2 refine VX.meek rfl ?_
    refine VX.nil ?_
    refine VC.reg tab_ok [] rfl ?_
    iterate 2 refine VX.meek rfl ?_
    first | refine VX.meek rfl ?_ | refine VX.loadI rfl rfl au_l ?_ | refine VX.loadP rfl rfl rfl au_l ?_
    iterate 2 refine VX.meek rfl ?_
    refine VX.nil ?_
    refine VC.cond rfl (fun hc1 => ?_) (fun hc1 => ?_)
    · (try simp only [au_std] at hc1); have hin : i < W * H := (by omega); have hst := padL_set (P := P) hin hil
      refine VC.regN tab_ok [] rfl ?_
      refine VX.meek rfl ?_
      first | refine VX.meek rfl ?_ | refine VX.loadI rfl rfl au_l ?_ | refine VX.loadP rfl rfl rfl au_l ?_
      iterate 2 refine VX.meek rfl ?_
      first | refine VX.idxI rfl rfl rfl rfl rfl rfl (by omega) ?_ | refine VX.idxO0 rfl rfl rfl rfl rfl rfl rfl (by omega) ?_ | refine VX.idxO0 rfl rfl rfl rfl rfl rfl au_z (by omega) ?_ | refine VX.idxO rfl rfl rfl rfl rfl rfl rfl (by omega) ?_ | refine VX.idxI rfl rfl rfl rfl rfl au_z (by omega) ?_ | refine VX.idxO rfl rfl rfl rfl rfl rfl au_z (by omega) ?_ | refine VX.meek rfl ?_
      refine VX.store rfl rfl rfl rfl rfl (by rw [List.length_append, encL_len, cU_sz, hpl]; dsimp only; omega) rfl ?_
      refine VX.nil ?_
      refine VC.regN tab_ok [] rfl ?_
      first | refine VX.add rfl rfl (by omega) ?_ | refine VX.meek rfl ?_
      refine VX.meek rfl ?_
      refine VX.nil ?_
      refine ⟨i + 1, by (try dsimp only); omega, ?_, (by refine ⟨[some 0, some 1, some 2], rfl, by first | trivial | decide, rfl, ?_, ?_⟩ <;> (repeat' first | exact trivial | exact CvB_n | exact CvB_d | refine CvE_app ?_ ?_ | refine CvE_cons rfl ?_ ?_ | refine CvH_cons ?_ ?_ | refine CvB_c rfl ?_ | fail) <;> first | exact au_v | (first | exact CvL.pure rfl | exact cv_g (Cv.slc rfl (.inl rfl)) | (rw [← hst]; exact CvL.eq (cells_putT (by omega)) (pureL_append (encL_pure cU _) htl))))⟩
      (try dsimp only); omega
    · (try simp only [au_std] at hc1); have hst := padL_skip (P := P) (n := W * H) (i := i) (by omega)
      refine VC.skip ?_
      refine VC.regN tab_ok [] rfl ?_
      first | refine VX.add rfl rfl (by omega) ?_ | refine VX.meek rfl ?_
      refine VX.meek rfl ?_
      refine VX.nil ?_
      refine ⟨i + 1, by (try dsimp only); omega, ?_, (by refine ⟨[some 0, some 1, some 2], rfl, by first | trivial | decide, rfl, ?_, ?_⟩ <;> (repeat' first | exact trivial | exact CvB_n | exact CvB_d | refine CvE_app ?_ ?_ | refine CvE_cons rfl ?_ ?_ | refine CvH_cons ?_ ?_ | refine CvB_c rfl ?_ | fail) <;> first | exact au_v | (first | exact CvL.pure rfl | exact cv_g (Cv.slc rfl (.inl rfl)) | (rw [← hst]; exact CvL.pure (pureL_append (encL_pure cU _) htl))))⟩
      (try dsimp only); omega
  · (try simp only [au_std] at hc0); obtain rfl : i = P.length := (by omega); rw [List.take_length]
    refine VC.exit ?_
    refine VC.reg tab_ok [] rfl ?_
    first | refine VX.meek rfl ?_ | refine VX.loadI rfl rfl au_l ?_ | refine VX.loadP rfl rfl rfl au_l ?_
    refine VX.store rfl rfl rfl rfl rfl au_sS rfl ?_
    refine VX.nil ?_
    refine VC.ret ?_
    refine ⟨trivial, _, rfl, Cv.agg (cv_g ?_)⟩; rw [padL_len]; exact Cv.fslcA ⟨rfl, by simp⟩ (CvL.pure (encL_pure cU _))
theorem in17g_p (w h : Nat) (px : List Int) (x y : Int) : CallP Tryz.prog 46 [gT w h px, I64 x, I64 y] (BL (inB' w h x y)) := by
  refine CallP.intro2 au_pu au_pu ?_
  refine CallT.intro tab_ok Tryz.func46 rfl (by kernel_rfl) (Nat.le_of_ble_eq_true rfl) ?_
  refine VC.reg tab_ok [3] rfl ?_
  refine VX.newI rfl rfl ?_
  refine VX.meek rfl ?_
  refine VX.nil ?_
  refine VC.reg tab_ok [] rfl ?_
  iterate 3 refine VX.meek rfl ?_
  refine' VX.merge (d := 14) [_, _, _, _, _] rfl ?_ rfl ?_
  rotate_left
  · refine VX.guard rfl rfl (fun hb1_2 => ?_) (fun hb1_2 => ?_)
    · have ghb1_2 := hb1_2
      try simp only [au_std, Bool.not_true, Bool.not_false] at ghb1_2
      refine VX.meek rfl ?_
      refine VX.guardT rfl rfl hb1_2 ?_
      refine VX.meek rfl ?_
      refine VX.guardT rfl rfl hb1_2 ?_
      first | refine VX.meek rfl ?_ | refine VX.loadI rfl rfl au_l ?_ | refine VX.loadP rfl rfl rfl au_l ?_
      refine VX.guardT rfl rfl hb1_2 ?_
      refine VX.meek rfl ?_
      refine VX.pickA rfl (fun _ => rfl) ?_
      exact VX.nil ⟨rfl, rfl⟩
    · refine VX.guardF rfl rfl hb1_2 ?_
      refine VX.guardF rfl rfl hb1_2 ?_
      refine VX.guardF rfl rfl hb1_2 ?_
      exact VX.pickA rfl (fun h => absurd (h.symm.trans hb1_2) (by decide)) (VX.nil ⟨rfl, rfl⟩)
  refine VX.meek rfl ?_
  refine' VX.merge (d := 18) [_, _, _] rfl ?_ rfl ?_
  rotate_left
  · refine VX.guard rfl rfl (fun hb1_8 => ?_) (fun hb1_8 => ?_)
    · have ghb1_8 := hb1_8
      try simp only [au_std, Bool.not_true, Bool.not_false] at ghb1_8
      refine VX.meek rfl ?_
      refine VX.guardT rfl rfl hb1_8 ?_
      refine VX.meek rfl ?_
      refine VX.pickA rfl (fun _ => rfl) ?_
      exact VX.nil ⟨rfl, rfl⟩
    · refine VX.guardF rfl rfl hb1_8 ?_
      exact VX.pickA rfl (fun h => absurd (h.symm.trans hb1_8) (by decide)) (VX.nil ⟨rfl, rfl⟩)
  refine VX.meek rfl ?_
  refine' VX.merge (d := 24) [_, _, _, _, _] rfl ?_ rfl ?_
  rotate_left
  · refine VX.guard rfl rfl (fun hb1_12 => ?_) (fun hb1_12 => ?_)
    · have ghb1_12 := hb1_12
      try simp only [au_std, Bool.not_true, Bool.not_false] at ghb1_12
      refine VX.meek rfl ?_
      refine VX.guardT rfl rfl hb1_12 ?_
      refine VX.meek rfl ?_
      refine VX.guardT rfl rfl hb1_12 ?_
      first | refine VX.meek rfl ?_ | refine VX.loadI rfl rfl au_l ?_ | refine VX.loadP rfl rfl rfl au_l ?_
      refine VX.guardT rfl rfl hb1_12 ?_
      refine VX.meek rfl ?_
      refine VX.pickA rfl (fun _ => rfl) ?_
      exact VX.nil ⟨rfl, rfl⟩
    · refine VX.guardF rfl rfl hb1_12 ?_
      refine VX.guardF rfl rfl hb1_12 ?_
      refine VX.guardF rfl rfl hb1_12 ?_
      exact VX.pickA rfl (fun h => absurd (h.symm.trans hb1_12) (by decide)) (VX.nil ⟨rfl, rfl⟩)
  refine VX.meek rfl ?_
  refine VX.nil ?_
  refine VC.ret ?_
  exact ⟨trivial, _, rfl, Cv.eq (congrArg BL (by rw [Bool.eq_iff_iff, inB_iff]; simp; omega)) rfl⟩
theorem at17_p (w h : Nat) (px : List Int) (x y : Int) (hw : w ≤ 128) (hh : h ≤ 128) (hl : px.length = w * h) : CallP Tryz.prog 44 [gT w h px, I64 x, I64 y] (U8 (atG w h px x y)) := by
  refine CallP.intro2 au_pu au_pu ?_
  refine CallT.intro tab_ok Tryz.func44 rfl (by kernel_rfl) (Nat.le_of_ble_eq_true rfl) ?_
  refine VC.reg tab_ok [3] rfl ?_
  refine VX.newI rfl rfl ?_
  refine VX.meek rfl ?_
  refine VX.nil ?_
  refine VC.seq ?_
  refine VC.reg tab_ok [] rfl ?_
  first | refine VX.meek rfl ?_ | refine VX.loadI rfl rfl au_l ?_ | refine VX.loadP rfl rfl rfl au_l ?_
  iterate 2 refine VX.meek rfl ?_
  refine VX.callP0 rfl rfl rfl (in17g_p w h px x y) ?_
  refine VX.meek rfl ?_
  refine VX.nil ?_
  refine VC.cond rfl (fun hc0 => ?_) (fun hc0 => ?_)
  · (try simp only [au_std] at hc0); have hres : atG w h px x y = 0 := (by unfold atG; rw [hc0]; rfl); rw [hres]
    refine VC.reg tab_ok [] rfl ?_
    refine VX.meek rfl ?_
    refine VX.nil ?_
    refine VC.ret ?_
    exact ⟨trivial, _, rfl, Cv.eq (by first | rfl | (simp [*]; done)) rfl⟩
  · (try simp only [au_std] at hc0); have hin' := inB_iff.1 hc0; have hin := in_place (x := x) (y := y) hw hh (by omega) (by omega) (by omega) (by omega); have hres : atG w h px x y = px[(y * w + x).toNat]! := if_pos hc0; rw [hres]
    refine VC.skip ?_
    refine VC.reg tab_ok [] rfl ?_
    refine VX.meek rfl ?_
    first | refine VX.meek rfl ?_ | refine VX.loadI rfl rfl au_l ?_ | refine VX.loadP rfl rfl rfl au_l ?_
    iterate 2 refine VX.meek rfl ?_
    first | refine VX.meek rfl ?_ | refine VX.loadI rfl rfl au_l ?_ | refine VX.loadP rfl rfl rfl au_l ?_
    first | refine VX.mul rfl rfl (by omega) ?_ | refine VX.meek rfl ?_
    refine VX.meek rfl ?_
    first | refine VX.add rfl rfl (by omega) ?_ | refine VX.meek rfl ?_
    first | refine VX.idxI rfl rfl rfl rfl rfl rfl (by omega) ?_ | refine VX.idxO0 rfl rfl rfl rfl rfl rfl rfl (by omega) ?_ | refine VX.idxO0 rfl rfl rfl rfl rfl rfl au_z (by omega) ?_ | refine VX.idxO rfl rfl rfl rfl rfl rfl rfl (by omega) ?_ | refine VX.idxI rfl rfl rfl rfl rfl au_z (by omega) ?_ | refine VX.idxO rfl rfl rfl rfl rfl rfl au_z (by omega) ?_ | refine VX.meek rfl ?_
    first | refine VX.meek rfl ?_ | refine VX.loadI rfl rfl au_l ?_ | refine VX.loadP rfl rfl rfl au_l ?_
    refine VX.meek rfl ?_
    refine VX.nil ?_
    refine VC.ret ?_
    exact ⟨trivial, _, rfl, Cv.eq (by first | rfl | (simp [*]; done)) rfl⟩
theorem copied24_p (w h : Nat) (px : List Int) (s : Rect) (x y i j : Int) (fr : List Rect) (hn : fr.length ≤ 1048576) (hfi : ∀ r ∈ fr, rI r) (h1 : -4000000 ≤ s.X ∧ s.X ≤ 4000000) (h2 : -4000000 ≤ s.Y ∧ s.Y ≤ 4000000) (h3 : -4000000 ≤ x ∧ x ≤ 4000000) (h4 : -4000000 ≤ y ∧ y ≤ 4000000) (h5 : -4000000 ≤ i ∧ i ≤ 4000000) (h6 : -4000000 ≤ j ∧ j ≤ 4000000) :
    CallP Tryz.prog 102 [gT w h px, rectT s, I64 x, I64 y, I64 i, I64 j, .islc (encL cR fr) fr.length none] (BL (inB' w h (s.X + i - x) (s.Y + j - y) && decide (inL (fr.filter countsB) (s.X + i - x) (s.Y + j - y)))) := by
  refine CallP.intro2 au_pu au_pu ?_
  refine CallT.intro tab_ok Tryz.func102 rfl (by kernel_rfl) (Nat.le_of_ble_eq_true rfl) ?_
  refine VC.reg tab_ok [7, 8] rfl ?_
  refine VX.newI rfl rfl ?_
  refine VX.newI rfl rfl ?_
  refine VX.meek rfl ?_
  refine VX.nil ?_
  refine VC.reg tab_ok [] rfl ?_
  first | refine VX.meek rfl ?_ | refine VX.loadI rfl rfl au_l ?_ | refine VX.loadP rfl rfl rfl au_l ?_
  iterate 4 refine VX.meek rfl ?_
  refine VX.callP0 rfl rfl rfl (source_p s x y i j h1 h2 h3 h4 h5 h6) ?_
  iterate 5 refine VX.meek rfl ?_
  refine VX.nil ?_
  refine VC.reg tab_ok [] rfl ?_
  first | refine VX.meek rfl ?_ | refine VX.loadI rfl rfl au_l ?_ | refine VX.loadP rfl rfl rfl au_l ?_
  iterate 2 refine VX.meek rfl ?_
  refine VX.callP0 rfl rfl rfl (in17g_p w h px (s.X + i - x) (s.Y + j - y)) ?_
  refine VX.meek rfl ?_
  refine' VX.merge (d := 35) [_, _, _, _, _] rfl ?_ rfl ?_
  rotate_left
  · refine VX.guard rfl rfl (fun hb2_4 => ?_) (fun hb2_4 => ?_)
    · have ghb2_4 := hb2_4
      try simp only [au_std, Bool.not_true, Bool.not_false] at ghb2_4
      refine VX.meek rfl ?_
      refine VX.guardT rfl rfl hb2_4 ?_
      refine VX.meek rfl ?_
      refine VX.guardT rfl rfl hb2_4 ?_
      refine VX.meek rfl ?_
      refine VX.guardT rfl rfl hb2_4 ?_
      refine VX.callP0 rfl rfl rfl (has14_p fr (s.X + i - x) (s.Y + j - y) hn hfi) ?_
      refine VX.pickA rfl (fun _ => rfl) ?_
      exact VX.nil ⟨rfl, rfl⟩
    · refine VX.guardF rfl rfl hb2_4 ?_
      refine VX.guardF rfl rfl hb2_4 ?_
      refine VX.guardF rfl rfl hb2_4 ?_
      exact VX.pickA rfl (fun h => absurd (h.symm.trans hb2_4) (by decide)) (VX.nil ⟨rfl, rfl⟩)
  refine VX.meek rfl ?_
  refine VX.nil ?_
  refine VC.ret ?_
  exact ⟨trivial, _, rfl, Cv.eq (by first | rfl | (simp [*]; done)) rfl⟩
end
section
open Go.RowKit Go.Sort
def cntR (p : Int → Bool) : Nat → Nat
  | 0 => 0
  | n + 1 => cntR p n + (if p n = true then 1 else 0)
def cntG (p : Int → Int → Bool) (w : Nat) : Nat → Nat
  | 0 => 0
  | j + 1 => cntG p w j + cntR (fun x => p x j) w
theorem cntR_congr {p q : Int → Bool} : ∀ {n : Nat}, (∀ i : Nat, i < n → p i = q i) → cntR p n = cntR q n
  | 0, _ => rfl
  | n + 1, h => by
    show cntR p n + _ = cntR q n + _
    rw [cntR_congr fun i hi => h i (by omega), h n (by omega)]
theorem cntG_congr {p q : Int → Int → Bool} {w : Nat} : ∀ {h : Nat}, (∀ i j : Nat, i < w → j < h → p i j = q i j) → cntG p w h = cntG q w h
  | 0, _ => rfl
  | j + 1, h => by
    show cntG p w j + _ = cntG q w j + _
    rw [cntG_congr fun i k hi hk => h i k hi (by omega), cntR_congr (p := fun x => p x j) (q := fun x => q x j) fun i hi => h i j hi (by omega)]
theorem cntR_le (p : Int → Bool) : ∀ n, cntR p n ≤ n
  | 0 => Nat.le_refl _
  | n + 1 => by show cntR p n + _ ≤ n + 1; have := cntR_le p n; split <;> omega
theorem cntG_le (p : Int → Int → Bool) (w : Nat) : ∀ h, cntG p w h ≤ h * w
  | 0 => by simp [cntG]
  | j + 1 => by show cntG p w j + _ ≤ (j + 1) * w; have h1 := cntG_le p w j; have h2 := cntR_le (fun x => p x j) w; rw [Nat.add_mul, Nat.one_mul]; omega
theorem cntR_or {p q : Int → Bool} : ∀ {n : Nat}, (∀ i : Nat, i < n → ¬ (p i = true ∧ q i = true)) → cntR (fun i => p i || q i) n = cntR p n + cntR q n
  | 0, _ => rfl
  | n + 1, h => by
    show cntR _ n + _ = (cntR p n + _) + (cntR q n + _)
    rw [cntR_or fun i hi => h i (by omega)]
    have := h n (by omega)
    cases h1 : p n <;> cases h2 : q n <;> simp_all <;> omega
theorem cntG_or {p q : Int → Int → Bool} {w : Nat} : ∀ {h : Nat}, (∀ i j : Nat, i < w → j < h → ¬ (p i j = true ∧ q i j = true)) → cntG (fun i j => p i j || q i j) w h = cntG p w h + cntG q w h
  | 0, _ => rfl
  | j + 1, h => by
    show cntG _ w j + _ = (cntG p w j + _) + (cntG q w j + _)
    rw [cntG_or fun i k hi hk => h i k hi (by omega), cntR_or fun i hi => h i j hi (by omega)]
    omega
theorem cntR_seg (a b : Int) : ∀ n : Nat, 0 ≤ a → a ≤ b → b ≤ n → (cntR (fun i => decide (a ≤ i) && decide (i < b)) n : Int) = b - a
  | 0, h1, h2, h3 => by show ((0 : Nat) : Int) = _; omega
  | n + 1, h1, h2, h3 => by
    show ((cntR _ n + _ : Nat) : Int) = _
    by_cases hb : b ≤ n
    · have ih := cntR_seg a b n h1 h2 hb
      rw [if_neg (by simp; omega)]; simpa using ih
    · by_cases ha : a ≤ n
      · have ih := cntR_seg a n n h1 ha (Int.le_refl _)
        have e : cntR (fun i => decide (a ≤ i) && decide (i < b)) n = cntR (fun i => decide (a ≤ i) && decide (i < (n : Int))) n := cntR_congr fun i hi => by
          rw [Bool.eq_iff_iff]; simp; omega
        rw [e, if_pos (by simp; omega)]
        push_cast
        rw [ih]; omega
      · have e : cntR (fun i => decide (a ≤ i) && decide (i < b)) n = cntR (fun _ => false) n := cntR_congr fun i hi => by simp; omega
        have e0 : ∀ m, cntR (fun _ => false) m = 0 := fun m => by induction m with
          | zero => rfl
          | succ m ih => show cntR _ m + _ = 0; rw [ih]; rfl
        rw [e, e0, if_neg (by simp; omega)]
        omega
theorem cntR_false : ∀ m, cntR (fun _ => false) m = 0
  | 0 => rfl
  | m + 1 => by show cntR _ m + _ = 0; rw [cntR_false m]; rfl
theorem cntG_false (w : Nat) : ∀ m, cntG (fun _ _ => false) w m = 0
  | 0 => rfl
  | m + 1 => by show cntG _ w m + _ = 0; rw [cntG_false w m, cntR_false]
theorem cntG_rect {w : Nat} (r : Rect) (hx : 0 ≤ r.X) (hw : 0 ≤ r.W) (hxw : r.X + r.W ≤ w) (hy : 0 ≤ r.Y) (hh : 0 ≤ r.H) : ∀ h : Nat, (cntG (fun x y => decide (r.has x y)) w h : Int) = r.W * (min (r.Y + r.H) (max h r.Y) - r.Y)
  | 0 => by
    show ((0 : Nat) : Int) = _
    rw [Int.max_eq_right (by omega), Int.min_eq_right (by omega)]; simp
  | h + 1 => by
    show ((cntG _ w h + cntR _ w : Nat) : Int) = _
    have ih := cntG_rect r hx hw hxw hy hh h
    push_cast
    rw [ih]
    by_cases c : r.Y ≤ h ∧ (h : Int) < r.Y + r.H
    · have e : cntR (fun x => decide (r.has x h)) w = cntR (fun i => decide (r.X ≤ i) && decide (i < r.X + r.W)) w := cntR_congr fun i hi => by
        rw [Bool.eq_iff_iff]; simp only [decide_eq_true_eq, Bool.and_eq_true]; unfold Rect.has; omega
      rw [e, cntR_seg r.X (r.X + r.W) w hx (by omega) hxw]
      rw [show (min (r.Y + r.H) (max ((h : Int) + 1) r.Y) - r.Y) = (min (r.Y + r.H) (max (h : Int) r.Y) - r.Y) + 1 from by omega, Int.mul_add]
      omega
    · have e : cntR (fun x => decide (r.has x h)) w = cntR (fun _ => false) w := cntR_congr fun i hi => by
        exact decide_eq_false (fun hh => by unfold Rect.has at hh; omega)
      rw [e, cntR_false]
      rw [show (min (r.Y + r.H) (max ((h : Int) + 1) r.Y) - r.Y) = (min (r.Y + r.H) (max (h : Int) r.Y) - r.Y) from by omega]
      simp
theorem area_cnt {w h : Nat} {l : List Rect} (hc : Canon l) (hr : ∀ r ∈ l, rok r) (hin : ∀ x y, inL l x y → 0 ≤ x ∧ x < w ∧ 0 ≤ y ∧ y < h) : ∀ k, k ≤ l.length → areaL (l.take k) = cntG (fun x y => decide (inL (l.take k) x y)) w h
  | 0, _ => by
    have e : cntG (fun x y => decide (inL (l.take 0) x y)) w h = cntG (fun _ _ => false) w h := cntG_congr fun i j _ _ => decide_eq_false inL_nil
    rw [e, cntG_false]; rfl
  | k + 1, hk => by
    have hkl : k < l.length := by omega
    have hmk : l[k]! ∈ l := List.mem_iff_getElem?.2 ⟨k, getE hkl⟩
    have hrk := hr _ hmk
    unfold rok at hrk
    have ih := area_cnt hc hr hin k (by omega)
    rw [take_snoc hkl, areaL_app, ih]
    have hik : ∀ x y, l[k]!.has x y → 0 ≤ x ∧ x < w ∧ 0 ≤ y ∧ y < h := fun x y hh => hin x y ⟨_, hmk, hh⟩
    have c1 := hik l[k]!.X l[k]!.Y (by unfold Rect.has; omega)
    have c2 := hik (l[k]!.X + l[k]!.W - 1) (l[k]!.Y + l[k]!.H - 1) (by unfold Rect.has; omega)
    have e : cntG (fun x y => decide (inL (l.take k ++ [l[k]!]) x y)) w h = cntG (fun x y => decide (inL (l.take k) x y) || decide (l[k]!.has x y)) w h := cntG_congr fun i j _ _ => by
      rw [Bool.eq_iff_iff, decide_eq_true_eq, inL_append, inL_cons]
      simp only [Bool.or_eq_true, decide_eq_true_eq]
      have : ¬ inL [] (i : Int) (j : Int) := inL_nil
      constructor
      · rintro (h | h | h)
        · exact .inl h
        · exact .inr h
        · exact absurd h this
      · rintro (h | h)
        · exact .inl h
        · exact .inr (.inl h)
    rw [e, cntG_or fun i j _ _ hh => by
      simp only [decide_eq_true_eq] at hh
      exact canon_disj hc hkl hh.2 hh.1]
    have := cntG_rect (w := w) l[k]! (by omega) (by omega) (by omega) (by omega) (by omega) h
    push_cast
    rw [this, Int.max_eq_left (by omega), Int.min_eq_left (by omega)]
    simp only [areaL, areaR, Int.add_zero]
    congr 2
    omega
theorem area_all {w h : Nat} {l : List Rect} (hc : Canon l) (hr : ∀ r ∈ l, rok r) (hin : ∀ x y, inL l x y → 0 ≤ x ∧ x < w ∧ 0 ≤ y ∧ y < h) : areaL l = cntG (fun x y => decide (inL l x y)) w h := by
  have := area_cnt hc hr hin l.length (Nat.le_refl _)
  rwa [List.take_length] at this
theorem area_any {n : Nat} {w h : Nat} {l : List Rect} (hc : Reg n l) (hn : n ≤ 300) (hwh : w * h ≤ 1048576) (hin : ∀ x y, inL l x y → 0 ≤ x ∧ x < w ∧ 0 ≤ y ∧ y < h) : CallP Tryz.prog 50 [regT l] (I64 (cntG (fun x y => decide (inL l x y)) w h)) := by
  rw [← area_all hc.canon hc.ok hin]
  have hb : ∀ p : Int → Int → Bool, (cntG p w h : Int) ≤ 1048576 := fun p => by have := cntG_le p w h; rw [Nat.mul_comm] at this; omega
  refine area_p l (Nat.le_trans hc.len (Nat.le_trans (Nat.mul_le_mul hn hn) (by decide))) (fun k hk => ?_) (fun r hr => ?_)
  · rw [area_cnt hc.canon hc.ok hin k hk]
    have := hb (fun x y => decide (inL (l.take k) x y))
    omega
  · have hrk := hc.ok r hr
    unfold rok at hrk
    unfold areaR
    have h1 : 0 ≤ r.W * r.H := Int.mul_nonneg (by omega) (by omega)
    have h2 : r.W * r.H ≤ 2097152 * 2097152 := Int.mul_le_mul (by omega) (by omega) (by omega) (by omega)
    omega
end
section
open Go.RowKit Go.Sort
set_option maxRecDepth 10000
set_option maxHeartbeats 1000000
structure PcS where
  f : Int
  pl : Int
  x : Int
  y : Int
  cl : Bool
  c : List Rect
abbrev pcC (p : PcS) : List T := [U8 p.f, U8 p.pl, I8 p.x, I8 p.y, BL p.cl, .islc (encL cS p.c) p.c.length none]
def PcS.Ok (p : PcS) : Prop := (0 ≤ p.f ∧ p.f < 256) ∧ (0 ≤ p.pl ∧ p.pl < 256) ∧ (-128 ≤ p.x ∧ p.x ≤ 127) ∧ (-128 ≤ p.y ∧ p.y ≤ 127) ∧ ∀ s ∈ p.c, smOk s
def penOf (p : PcS) : PenS := ⟨p.f % 16, p.pl, 0, 1, 0, p.x, p.y, p.cl, if p.cl = true then p.c.map smR else []⟩
theorem penOf_ok {p : PcS} (h : p.Ok) (hn : p.c.length ≤ 10) : PenOk (penOf p) := by
  obtain ⟨h1, h2, h3, h4, h5⟩ := h
  refine ⟨?_, ?_, ?_, ?_, ?_, ?_⟩
  · unfold ropKnown penOf; simp; omega
  · unfold placeB penOf; simp; omega
  · unfold placeB penOf; simp; omega
  · unfold penOf; dsimp only; cases p.cl <;> simp
  · unfold penOf; dsimp only; split
    · rw [List.length_map]; omega
    · exact Nat.zero_le _
  · intro r hr
    unfold penOf at hr
    dsimp only at hr
    split at hr
    · obtain ⟨s, hs, rfl⟩ := List.mem_map.1 hr
      have := small_bd (h5 s hs)
      unfold placeB sdB
      simp; omega
    · cases hr
theorem pencil_p (p : PcS) (h : p.Ok) (hn : p.c.length ≤ 1048576) : CallP Tryz.prog 39 [.agg (pcC p)] (penT (penOf p)) := by
  obtain ⟨h1, h2, h3, h4, h5⟩ := h
  refine CallP.intro2 au_pu au_pu ?_
  refine CallT.intro tab_ok Tryz.func39 rfl (by kernel_rfl) (Nat.le_of_ble_eq_true rfl) ?_
  refine VC.reg tab_ok [1] rfl ?_
  refine VX.newI rfl rfl ?_
  refine VX.new rfl rfl ?_
  refine VX.nil ?_
  refine VC.reg tab_ok [] rfl ?_
  refine VX.callP0 rfl rfl rfl (newPen_p) ?_
  refine VX.new rfl rfl ?_
  refine VX.store rfl rfl rfl rfl rfl au_sS rfl ?_
  refine VX.nil ?_
  refine VC.view ([(2, .ptr 0 0), (3, .ptr 1 0)]) ([.c [I64 0, U8 0, U8 0, U8 0, .v (.int .u32 0), I64 0, I64 0, BL false, NIL], .c [I64 3, U8 255, U8 0, U8 1, .v (.int .u32 0), I64 0, I64 0, BL false, .islc [] 0 none]]) [1] rfl (by refine ⟨[some 0, some 1], rfl, by first | trivial | decide, rfl, ?_, ?_⟩ <;> (repeat' first | exact trivial | exact CvB_n | exact CvB_d | refine CvE_app ?_ ?_ | refine CvE_cons rfl ?_ ?_ | refine CvH_cons ?_ ?_ | refine CvB_c rfl ?_ | fail) <;> first | exact au_v | (exact CvL.eq rfl rfl)) ?_
  refine VC.drwS tab_ok [] [_, _, _, _, _, _, _, _, _, _, _, _, _, _, _, _, _, _, _, _, _, _] (_) rfl (by kernel_rfl) (by kernel_rfl) (by kernel_rfl) (seen_kill (b := 1) (seen_refl _) (by simp)) ?_
  refine VS.seg (l1 := [_, _, _, _, _, _, _, _, _, _, _, _, _, _, _]) rfl ?_
  refine VX.meek rfl ?_
  first | refine VX.meek rfl ?_ | refine VX.loadI rfl rfl au_l ?_ | refine VX.loadP rfl rfl rfl au_l ?_
  refine VX.remU rfl rfl (by omega) (by omega) ?_
  refine VX.meek (t := I64 (p.f % 16)) (by show some (T.v (.int .i64 (IntKind.i64.wrap (p.f % 16))), (none : Option (Nat × List T))) = _; rw [wrap_in (by omega)]) ?_
  refine VX.meek rfl ?_
  first | refine VX.meek rfl ?_ | refine VX.loadI rfl rfl au_l ?_ | refine VX.loadP rfl rfl rfl au_l ?_
  refine VX.meek rfl ?_
  first | refine VX.meek rfl ?_ | refine VX.loadI rfl rfl au_l ?_ | refine VX.loadP rfl rfl rfl au_l ?_
  refine VX.meek (t := I64 p.x) (by show some (T.v (.int .i64 (IntKind.i64.wrap p.x)), (none : Option (Nat × List T))) = _; rw [wrap_in (by omega)]) ?_
  refine VX.meek rfl ?_
  first | refine VX.meek rfl ?_ | refine VX.loadI rfl rfl au_l ?_ | refine VX.loadP rfl rfl rfl au_l ?_
  refine VX.meek (t := I64 p.y) (by show some (T.v (.int .i64 (IntKind.i64.wrap p.y)), (none : Option (Nat × List T))) = _; rw [wrap_in (by omega)]) ?_
  refine VX.meek rfl ?_
  first | refine VX.meek rfl ?_ | refine VX.loadI rfl rfl au_l ?_ | refine VX.loadP rfl rfl rfl au_l ?_
  refine VX.meek rfl ?_
  refine VX.nil ?_
  refine VS.sto rfl rfl rfl rfl ?_
  refine VS.seg (l1 := [_]) rfl ?_
  refine VX.meek rfl ?_
  refine VX.nil ?_
  refine VS.sto rfl rfl rfl rfl ?_
  refine VS.seg (l1 := [_]) rfl ?_
  refine VX.meek rfl ?_
  refine VX.nil ?_
  refine VS.sto rfl rfl rfl rfl ?_
  refine VS.seg (l1 := [_]) rfl ?_
  refine VX.meek rfl ?_
  refine VX.nil ?_
  refine VS.sto rfl rfl rfl rfl ?_
  refine VS.nil (⟨rfl, Nat.le_of_ble_eq_true rfl, rfl, ⟨rfl, Nat.le_of_ble_eq_true rfl, rfl, ⟨rfl, Nat.le_of_ble_eq_true rfl, rfl, ⟨rfl, Nat.le_of_ble_eq_true rfl, rfl, trivial⟩⟩⟩⟩) ?_
  refine VX.meek rfl ?_
  refine VX.store rfl rfl rfl rfl rfl au_sS rfl ?_
  refine VX.nil ?_
  refine VC.seq ?_
  refine VC.reg tab_ok [] rfl ?_
  refine VX.meek rfl ?_
  first | refine VX.meek rfl ?_ | refine VX.loadI rfl rfl au_l ?_ | refine VX.loadP rfl rfl rfl au_l ?_
  refine VX.nil ?_
  refine VC.cond rfl (fun hc0 => ?_) (fun hc0 => ?_)
  · (try simp only [au_std] at hc0); have hp : penT (penOf p) = .agg [I64 (p.f % 16), U8 p.pl, U8 0, U8 1, .v (.int .u32 0), I64 p.x, I64 p.y, BL p.cl, .islc (encL cR (p.c.map smR)) (p.c.map smR).length none] := (by unfold penOf; rw [if_pos hc0]); rw [hp]
    refine VC.regN tab_ok [] rfl ?_
    refine VX.meek rfl ?_
    first | refine VX.meek rfl ?_ | refine VX.loadI rfl rfl au_l ?_ | refine VX.loadP rfl rfl rfl au_l ?_
    refine VX.callP0 rfl rfl rfl (rects17_p p.c hn h5) ?_
    refine VX.meek rfl ?_
    refine VX.store rfl rfl rfl rfl rfl au_sS rfl ?_
    refine VX.nil ?_
    refine VC.reg tab_ok [] rfl ?_
    first | refine VX.meek rfl ?_ | refine VX.loadI rfl rfl au_l ?_ | refine VX.loadP rfl rfl rfl au_l ?_
    refine VX.store rfl rfl rfl rfl rfl au_sS rfl ?_
    refine VX.nil ?_
    refine VC.ret ?_
    exact ⟨trivial, _, rfl, Cv.eq rfl (by first | rfl | (simp only [T.pure, T.pureL, encL_pure]; rfl))⟩
  · (try simp only [au_std] at hc0); have hp : penT (penOf p) = .agg [I64 (p.f % 16), U8 p.pl, U8 0, U8 1, .v (.int .u32 0), I64 p.x, I64 p.y, BL p.cl, .islc [] 0 none] := (by unfold penOf; rw [if_neg (by rw [hc0]; decide)]; rfl); rw [hp]
    refine VC.skip ?_
    refine VC.reg tab_ok [] rfl ?_
    first | refine VX.meek rfl ?_ | refine VX.loadI rfl rfl au_l ?_ | refine VX.loadP rfl rfl rfl au_l ?_
    refine VX.store rfl rfl rfl rfl rfl au_sS rfl ?_
    refine VX.nil ?_
    refine VC.ret ?_
    exact ⟨trivial, _, rfl, Cv.eq rfl (by first | rfl | (simp only [T.pure, T.pureL, encL_pure]; rfl))⟩
structure AllS where
  sw : Nat
  sh : Nat
  sP : List Int
  dw : Nat
  dh : Nat
  dP : List Int
  fr : List Rect
  clip : List Rect
  s : Rect
  x : Int
  y : Int
  p : PcS
abbrev allC (a : AllS) : List T := [U8 a.sw, U8 a.sh, .islc (encL cU a.sP) a.sP.length none, U8 a.dw, U8 a.dh, .islc (encL cU a.dP) a.dP.length none, .islc (encL cS a.fr) a.fr.length none, .islc (encL cS a.clip) a.clip.length none,
  I8 a.s.X, I8 a.s.Y, U8 a.s.W, U8 a.s.H, I8 a.x, I8 a.y, U8 a.p.f, U8 a.p.pl, I8 a.p.x, I8 a.p.y, BL a.p.cl, .islc (encL cS a.p.c) a.p.c.length none]
def AllS.Ok (a : AllS) : Prop := (a.sw < 256 ∧ a.sh < 256 ∧ ∀ v ∈ a.sP, 0 ≤ v ∧ v < 256) ∧ (a.dw < 256 ∧ a.dh < 256 ∧ ∀ v ∈ a.dP, 0 ≤ v ∧ v < 256) ∧ (∀ s ∈ a.fr, smOk s) ∧ (∀ s ∈ a.clip, smOk s) ∧ smOk a.s ∧ (-128 ≤ a.x ∧ a.x ≤ 127) ∧ (-128 ≤ a.y ∧ a.y ≤ 127) ∧ a.p.Ok
def fewB (a : AllS) : Bool := decide (a.sP.length ≤ 300) && decide (a.dP.length ≤ 300) && decide (a.fr.length ≤ 10) && decide (a.clip.length ≤ 10) && decide (a.p.c.length ≤ 10)
theorem allC_pure (a : AllS) : T.pureL (allC a) = true := by simp only [T.pureL, T.pure, encL_pure]; rfl
theorem few24_p (a : AllS) : CallP Tryz.prog 33 [.agg (allC a)] (BL (fewB a)) := by
  refine CallP.intro2 au_pu au_pu ?_
  refine CallT.intro tab_ok Tryz.func33 rfl (by kernel_rfl) (Nat.le_of_ble_eq_true rfl) ?_
  refine VC.reg tab_ok [1] rfl ?_
  refine VX.newI rfl rfl ?_
  refine VX.meek rfl ?_
  refine VX.nil ?_
  refine VC.reg tab_ok [] rfl ?_
  iterate 2 refine VX.meek rfl ?_
  first | refine VX.meek rfl ?_ | refine VX.loadI rfl rfl au_l ?_ | refine VX.loadP rfl rfl rfl au_l ?_
  iterate 3 refine VX.meek rfl ?_
  refine' VX.merge (d := 14) [_, _, _, _, _, _] rfl ?_ rfl ?_
  rotate_left
  · refine VX.guard rfl rfl (fun hb1_5 => ?_) (fun hb1_5 => ?_)
    · have ghb1_5 := hb1_5
      try simp only [au_std, Bool.not_true, Bool.not_false] at ghb1_5
      refine VX.meek rfl ?_
      refine VX.guardT rfl rfl hb1_5 ?_
      refine VX.meek rfl ?_
      refine VX.guardT rfl rfl hb1_5 ?_
      first | refine VX.meek rfl ?_ | refine VX.loadI rfl rfl au_l ?_ | refine VX.loadP rfl rfl rfl au_l ?_
      refine VX.guardT rfl rfl hb1_5 ?_
      refine VX.meek rfl ?_
      refine VX.guardT rfl rfl hb1_5 ?_
      refine VX.meek rfl ?_
      refine VX.pickA rfl (fun _ => rfl) ?_
      exact VX.nil ⟨rfl, rfl⟩
    · refine VX.guardF rfl rfl hb1_5 ?_
      refine VX.guardF rfl rfl hb1_5 ?_
      refine VX.guardF rfl rfl hb1_5 ?_
      refine VX.guardF rfl rfl hb1_5 ?_
      exact VX.pickA rfl (fun h => absurd (h.symm.trans hb1_5) (by decide)) (VX.nil ⟨rfl, rfl⟩)
  refine VX.meek rfl ?_
  refine' VX.merge (d := 20) [_, _, _, _, _] rfl ?_ rfl ?_
  rotate_left
  · refine VX.guard rfl rfl (fun hb1_12 => ?_) (fun hb1_12 => ?_)
    · have ghb1_12 := hb1_12
      try simp only [au_std, Bool.not_true, Bool.not_false] at ghb1_12
      refine VX.meek rfl ?_
      refine VX.guardT rfl rfl hb1_12 ?_
      first | refine VX.meek rfl ?_ | refine VX.loadI rfl rfl au_l ?_ | refine VX.loadP rfl rfl rfl au_l ?_
      refine VX.guardT rfl rfl hb1_12 ?_
      refine VX.meek rfl ?_
      refine VX.guardT rfl rfl hb1_12 ?_
      refine VX.meek rfl ?_
      refine VX.pickA rfl (fun _ => rfl) ?_
      exact VX.nil ⟨rfl, rfl⟩
    · refine VX.guardF rfl rfl hb1_12 ?_
      refine VX.guardF rfl rfl hb1_12 ?_
      refine VX.guardF rfl rfl hb1_12 ?_
      exact VX.pickA rfl (fun h => absurd (h.symm.trans hb1_12) (by decide)) (VX.nil ⟨rfl, rfl⟩)
  refine VX.meek rfl ?_
  refine' VX.merge (d := 26) [_, _, _, _, _] rfl ?_ rfl ?_
  rotate_left
  · refine VX.guard rfl rfl (fun hb1_18 => ?_) (fun hb1_18 => ?_)
    · have ghb1_18 := hb1_18
      try simp only [au_std, Bool.not_true, Bool.not_false] at ghb1_18
      refine VX.meek rfl ?_
      refine VX.guardT rfl rfl hb1_18 ?_
      first | refine VX.meek rfl ?_ | refine VX.loadI rfl rfl au_l ?_ | refine VX.loadP rfl rfl rfl au_l ?_
      refine VX.guardT rfl rfl hb1_18 ?_
      refine VX.meek rfl ?_
      refine VX.guardT rfl rfl hb1_18 ?_
      refine VX.meek rfl ?_
      refine VX.pickA rfl (fun _ => rfl) ?_
      exact VX.nil ⟨rfl, rfl⟩
    · refine VX.guardF rfl rfl hb1_18 ?_
      refine VX.guardF rfl rfl hb1_18 ?_
      refine VX.guardF rfl rfl hb1_18 ?_
      exact VX.pickA rfl (fun h => absurd (h.symm.trans hb1_18) (by decide)) (VX.nil ⟨rfl, rfl⟩)
  refine VX.meek rfl ?_
  refine' VX.merge (d := 33) [_, _, _, _, _, _] rfl ?_ rfl ?_
  rotate_left
  · refine VX.guard rfl rfl (fun hb1_24 => ?_) (fun hb1_24 => ?_)
    · have ghb1_24 := hb1_24
      try simp only [au_std, Bool.not_true, Bool.not_false] at ghb1_24
      refine VX.meek rfl ?_
      refine VX.guardT rfl rfl hb1_24 ?_
      refine VX.meek rfl ?_
      refine VX.guardT rfl rfl hb1_24 ?_
      first | refine VX.meek rfl ?_ | refine VX.loadI rfl rfl au_l ?_ | refine VX.loadP rfl rfl rfl au_l ?_
      refine VX.guardT rfl rfl hb1_24 ?_
      refine VX.meek rfl ?_
      refine VX.guardT rfl rfl hb1_24 ?_
      refine VX.meek rfl ?_
      refine VX.pickA rfl (fun _ => rfl) ?_
      exact VX.nil ⟨rfl, rfl⟩
    · refine VX.guardF rfl rfl hb1_24 ?_
      refine VX.guardF rfl rfl hb1_24 ?_
      refine VX.guardF rfl rfl hb1_24 ?_
      refine VX.guardF rfl rfl hb1_24 ?_
      exact VX.pickA rfl (fun h => absurd (h.symm.trans hb1_24) (by decide)) (VX.nil ⟨rfl, rfl⟩)
  refine VX.meek rfl ?_
  refine VX.nil ?_
  refine VC.ret ?_
  exact ⟨trivial, _, rfl, Cv.eq (congrArg BL (by rw [Bool.eq_iff_iff]; unfold fewB; simp only [Bool.and_eq_true, decide_eq_true_eq]; omega)) rfl⟩
theorem smR_in {l : List Rect} (hl : ∀ s ∈ l, smOk s) (x y : Int) : inL ((l.map smR).filter countsB) x y ↔ inL (l.map smR) x y := by
  constructor
  · rintro ⟨r, h1, h2⟩; exact ⟨r, (List.mem_filter.1 h1).1, h2⟩
  · rintro ⟨r, h1, h2⟩
    refine ⟨r, List.mem_filter.2 ⟨h1, ?_⟩, h2⟩
    obtain ⟨s, hs, rfl⟩ := List.mem_map.1 h1
    have := small_bd (hl s hs)
    unfold Rect.has at h2
    unfold countsB fitsB
    simp only [Bool.and_eq_true, decide_eq_true_eq]; omega
theorem smR_rI {s : Rect} (h : smOk s) : rI (smR s) := by
  have := small_bd h
  unfold rI i64; omega
theorem smRs_rI {l : List Rect} (hl : ∀ s ∈ l, smOk s) : ∀ r ∈ l.map smR, rI r := fun r hr => by
  obtain ⟨s, hs, rfl⟩ := List.mem_map.1 hr
  exact smR_rI (hl s hs)
def cpB (a : AllS) (i j : Int) : Bool := !noneB (smR a.s) a.x a.y && decide (inL ([toR (smR a.s) a.x a.y].filter countsB) i j) && decide (inL (a.clip.map smR) i j)
def hasSB (a : AllS) (sw sh : Nat) (i j : Int) : Bool := inB' sw sh ((smR a.s).X + i - a.x) ((smR a.s).Y + j - a.y) && decide (inL ((a.fr.map smR).filter countsB) ((smR a.s).X + i - a.x) ((smR a.s).Y + j - a.y))
def wantPx (a : AllS) (sw sh dw dh : Nat) (spx dpx : List Int) (i j : Int) : Int := if cpB a i j = true ∧ hasSB a sw sh i j = true then mixI (a.p.f % 16) (atG sw sh spx ((smR a.s).X + i - a.x) ((smR a.s).Y + j - a.y)) (atG dw dh dpx i j) a.p.pl else atG dw dh dpx i j
def lackB (a : AllS) (sw sh : Nat) (i j : Int) : Bool := cpB a i j && !hasSB a sw sh i j
theorem atG_bd {w h : Nat} {px : List Int} (hb : ∀ v ∈ px, 0 ≤ v ∧ v < 256) (x y : Int) : 0 ≤ atG w h px x y ∧ atG w h px x y < 256 := by
  unfold atG; split
  · exact bang_bd hb _
  · exact ⟨by decide, by decide⟩
theorem is24_p {n : Nat} (a : AllS) (ha : a.Ok) (hfr : a.fr.length ≤ 10) (hcl : a.clip.length ≤ 10) (sw sh dw dh : Nat) (spx dpx gpx : List Int) (M : List Rect) (hsw : sw ≤ 16) (hsh : sh ≤ 16) (hdw : dw ≤ 16) (hdh : dh ≤ 16) (hsl : spx.length = sw * sh) (hdl : dpx.length = dw * dh) (hgl : gpx.length = dw * dh)
    (hsb : ∀ v ∈ spx, 0 ≤ v ∧ v < 256) (hdb : ∀ v ∈ dpx, 0 ≤ v ∧ v < 256) (hgb : ∀ v ∈ gpx, 0 ≤ v ∧ v < 256) (hM : Reg n M) (hn : n ≤ 300) (hMin : ∀ x y, inL M x y → 0 ≤ x ∧ x < dw ∧ 0 ≤ y ∧ y < dh)
    (hpix : ∀ i j : Nat, i < dw → j < dh → atG dw dh gpx i j = wantPx a sw sh dw dh spx dpx i j) (hlk : ∀ i j : Nat, i < dw → j < dh → decide (inL M i j) = lackB a sw sh i j) :
    CallP Tryz.prog 40 [.agg (allC a), gT dw dh gpx, regT M, gT sw sh spx, gT dw dh dpx] (BL true) := by
  obtain ⟨-, -, ha1, ha2, ha3, ha4, ha5, ha6, ha7, -, -, -⟩ := ha
  have hsm := small_bd ha3
  have hsi := smR_rI ha3
  have hMl : M.length ≤ 1048576 := Nat.le_trans hM.len (Nat.le_trans (Nat.mul_le_mul hn hn) (by decide))
  have hdd : dh * dw ≤ 16 * 16 := Nat.mul_le_mul hdh hdw
  have har := area_any (w := dw) (h := dh) hM hn (by have := Nat.mul_comm dh dw; omega) hMin
  have hac : cntG (fun x y => decide (inL M x y)) dw dh = cntG (fun x y => lackB a sw sh x y) dw dh := cntG_congr fun i j hi hj => hlk i j hi hj
  rw [hac] at har
  have sp := small_p a.s ha3
  have fp := rects17_p a.fr (by omega) ha1
  have hfI := smRs_rI ha1
  generalize hS : smR a.s = S at *
  have hfl : (a.fr.map smR).length ≤ 1048576 := by rw [List.length_map]; omega
  have hi64x : i64 a.x := by unfold i64; omega
  have hi64y : i64 a.y := by unfold i64; omega
  refine CallP.intro2 au_pu au_pu ?_
  refine CallT.intro tab_ok Tryz.func40 rfl (by kernel_rfl) (Nat.le_of_ble_eq_true rfl) ?_
  refine VC.reg tab_ok [5, 6, 7, 8, 9] rfl ?_
  refine VX.newI rfl rfl ?_
  refine VX.newI rfl rfl ?_
  refine VX.newI rfl rfl ?_
  refine VX.newI rfl rfl ?_
  refine VX.newI rfl rfl ?_
  refine VX.meek rfl ?_
  refine VX.nil ?_
  refine VC.view ([(5, .iptr (allC a) 0)]) ([]) [6, 7, 8, 9] rfl (by refine ⟨[], rfl, by first | trivial | decide, rfl, ?_, ?_⟩ <;> (repeat' first | exact trivial | exact CvB_n | exact CvB_d | refine CvE_app ?_ ?_ | refine CvE_cons rfl ?_ ?_ | refine CvH_cons ?_ ?_ | refine CvB_c rfl ?_ | fail) <;> first | exact au_v | (exact Cv.iptr (CvL.eq rfl (allC_pure a)))) ?_
  refine VC.drwS tab_ok [] [_, _, _, _, _, _, _, _, _, _, _, _] (_) rfl (by kernel_rfl) (by kernel_rfl) (by kernel_rfl) (seen_refl _) ?_
  refine VS.seg (l1 := [_, _, _, _, _, _, _, _, _]) rfl ?_
  refine VX.meek rfl ?_
  first | refine VX.meek rfl ?_ | refine VX.loadI rfl rfl au_l ?_ | refine VX.loadP rfl rfl rfl au_l ?_
  refine VX.callP0 rfl rfl rfl (sp) ?_
  refine VX.meek rfl ?_
  first | refine VX.meek rfl ?_ | refine VX.loadI rfl rfl au_l ?_ | refine VX.loadP rfl rfl rfl au_l ?_
  refine VX.meek (t := I64 a.x) (by show some (T.v (.int .i64 (IntKind.i64.wrap a.x)), (none : Option (Nat × List T))) = _; rw [wrap_in (by omega)]) ?_
  refine VX.meek rfl ?_
  first | refine VX.meek rfl ?_ | refine VX.loadI rfl rfl au_l ?_ | refine VX.loadP rfl rfl rfl au_l ?_
  refine VX.meek (t := I64 a.y) (by show some (T.v (.int .i64 (IntKind.i64.wrap a.y)), (none : Option (Nat × List T))) = _; rw [wrap_in (by omega)]) ?_
  refine VX.nil ?_
  refine VS.hid rfl ?_
  refine VS.sto rfl rfl rfl rfl ?_
  refine VS.seg (l1 := [_]) rfl ?_
  refine VX.meek rfl ?_
  refine VX.nil ?_
  refine VS.nil (⟨rfl, Nat.le_of_ble_eq_true rfl, rfl, trivial⟩) ?_
  iterate 2 refine VX.meek rfl ?_
  refine VX.nil ?_
  refine VC.seq ?_
  refine VC.reg tab_ok [] rfl ?_
  first | refine VX.meek rfl ?_ | refine VX.loadI rfl rfl au_l ?_ | refine VX.loadP rfl rfl rfl au_l ?_
  refine VX.callP0 rfl rfl rfl ((show CallP Tryz.prog 54 [gT dw dh gpx] (.tup [I64 dw, I64 dh]) from size_p ⟨dw, dh, gpx⟩)) ?_
  iterate 5 refine VX.meek rfl ?_
  refine VX.nil ?_
  refine VC.reg tab_ok [] rfl ?_
  iterate 2 refine VX.meek rfl ?_
  first | refine VX.meek rfl ?_ | refine VX.loadI rfl rfl au_l ?_ | refine VX.loadP rfl rfl rfl au_l ?_
  iterate 2 refine VX.meek rfl ?_
  refine' VX.merge (d := 46) [_, _, _, _, _] rfl ?_ rfl ?_
  rotate_left
  · refine VX.guard rfl rfl (fun hb3_4 => ?_) (fun hb3_4 => ?_)
    · have ghb3_4 := hb3_4
      try simp only [au_std, Bool.not_true, Bool.not_false] at ghb3_4
      refine VX.meek rfl ?_
      refine VX.guardT rfl rfl hb3_4 ?_
      refine VX.meek rfl ?_
      refine VX.guardT rfl rfl hb3_4 ?_
      first | refine VX.meek rfl ?_ | refine VX.loadI rfl rfl au_l ?_ | refine VX.loadP rfl rfl rfl au_l ?_
      refine VX.guardT rfl rfl hb3_4 ?_
      refine VX.meek rfl ?_
      refine VX.pickO rfl (fun _ => rfl) ?_
      exact VX.nil ⟨rfl, rfl⟩
    · refine VX.guardF rfl rfl hb3_4 ?_
      refine VX.guardF rfl rfl hb3_4 ?_
      refine VX.guardF rfl rfl hb3_4 ?_
      exact VX.pickO rfl (fun h => absurd (h.symm.trans hb3_4) (by decide)) (VX.nil ⟨rfl, rfl⟩)
  refine VX.nil ?_
  refine VC.cond rfl (fun hc0 => ?_) (fun hc0 => ?_)
  · exact absurd hc0 (by simp)
  · (try simp only [au_std] at hc0)
    refine VC.skip ?_
    refine VC.seq ?_
    refine VC.reg tab_ok [] rfl ?_
    refine VX.meek rfl ?_
    first | refine VX.meek rfl ?_ | refine VX.loadI rfl rfl au_l ?_ | refine VX.loadP rfl rfl rfl au_l ?_
    refine VX.meek rfl ?_
    refine VX.nil ?_
    refine VC.block ?_
    refine VC.loopS (σ := Nat) (fun j => dh - j) (fun j => j ≤ dh) (fun j => [(49, I64 j), (14, I64 (cntG (fun x y => lackB a sw sh x y) dw j)), (11, .ptr 0 0)]) (fun j => [.c (rC S)]) [5, 6, 7, 8, 9, 12, 13, 48] rfl (0) ?_ ?_ ?_
    · refine ⟨[some 0], rfl, by first | trivial | decide, rfl, ?_, ?_⟩ <;> (repeat' first | exact trivial | exact CvB_n | exact CvB_d | refine CvE_app ?_ ?_ | refine CvE_cons rfl ?_ ?_ | refine CvH_cons ?_ ?_ | refine CvB_c rfl ?_ | fail) <;> first | exact au_v | (skip)
    · (try dsimp only); omega
    rintro j hj
    refine VC.reg tab_ok [] rfl ?_
    refine VX.meek rfl ?_
    refine VX.nil ?_
    refine VC.seq ?_
    refine VC.cond rfl (fun hc1 => ?_) (fun hc1 => ?_)
    · (try simp only [au_std] at hc1); have hjl : j < dh := (by omega); have hcj := cntG_le (fun x y => lackB a sw sh x y) dw j; have hjw : j * dw ≤ 16 * 16 := Nat.mul_le_mul (by omega) hdw
      refine VC.skip ?_
      refine VC.seq ?_
      refine VC.block ?_
      refine VC.reg tab_ok [] rfl ?_
      iterate 2 refine VX.meek rfl ?_
      refine VX.nil ?_
      refine VC.reg tab_ok [] rfl ?_
      refine VX.meek rfl ?_
      first | refine VX.meek rfl ?_ | refine VX.loadI rfl rfl au_l ?_ | refine VX.loadP rfl rfl rfl au_l ?_
      refine VX.meek rfl ?_
      refine VX.nil ?_
      refine VC.block ?_
      refine VC.loopS (σ := Nat) (fun i => dw - i) (fun i => i ≤ dw) (fun i => [(54, I64 i), (14, I64 ((cntG (fun x y => lackB a sw sh x y) dw j + cntR (fun x => lackB a sw sh x j) i : Nat))), (11, .ptr 0 0)]) (fun i => [.c (rC S)]) [5, 6, 7, 8, 9, 12, 13, 17, 48, 49, 53] rfl (0) ?_ ?_ ?_
      · refine ⟨[some 0], rfl, by first | trivial | decide, rfl, ?_, ?_⟩ <;> (repeat' first | exact trivial | exact CvB_n | exact CvB_d | refine CvE_app ?_ ?_ | refine CvE_cons rfl ?_ ?_ | refine CvH_cons ?_ ?_ | refine CvB_c rfl ?_ | fail) <;> first | exact au_v | (skip)
      · (try dsimp only); omega
      rintro i hi
      refine VC.reg tab_ok [] rfl ?_
      refine VX.meek rfl ?_
      refine VX.nil ?_
      refine VC.seq ?_
      refine VC.cond rfl (fun hc2 => ?_) (fun hc2 => ?_)
      · (try simp only [au_std] at hc2); have hil : i < dw := (by omega); have hci := cntR_le (fun x => lackB a sw sh x j) i; have hpx := hpix i j hil hjl; have hlx := hlk i j hil hjl
        have hcs : cntR (fun x => lackB a sw sh x j) (i + 1) = cntR (fun x => lackB a sw sh x j) i + (if lackB a sw sh i j = true then 1 else 0) := rfl
        have hcp : cpB a i j = (!noneB S a.x a.y && decide (inL ([toR S a.x a.y].filter countsB) i j) && decide (inL (a.clip.map smR) i j)) := (by unfold cpB; rw [hS])
        have hhs : hasSB a sw sh i j = (inB' sw sh (S.X + i - a.x) (S.Y + j - a.y) && decide (inL ((a.fr.map smR).filter countsB) (S.X + i - a.x) (S.Y + j - a.y))) := (by unfold hasSB; rw [hS])
        have hwp : wantPx a sw sh dw dh spx dpx i j = if cpB a i j = true ∧ hasSB a sw sh i j = true then mixI (a.p.f % 16) (atG sw sh spx (S.X + i - a.x) (S.Y + j - a.y)) (atG dw dh dpx i j) a.p.pl else atG dw dh dpx i j := (by unfold wantPx; rw [hS])
        refine VC.skip ?_
        refine VC.seq ?_
        refine VC.block ?_
        refine VC.reg tab_ok [] rfl ?_
        iterate 2 refine VX.meek rfl ?_
        refine VX.nil ?_
        refine VC.reg tab_ok [] rfl ?_
        first | refine VX.meek rfl ?_ | refine VX.loadI rfl rfl au_l ?_ | refine VX.loadP rfl rfl rfl au_l ?_
        iterate 2 refine VX.meek rfl ?_
        refine VX.callP0 rfl rfl rfl (at17_p dw dh dpx i j (by omega) (by omega) hdl) ?_
        iterate 2 refine VX.meek rfl ?_
        refine VX.nil ?_
        refine VC.seq ?_
        refine VC.reg tab_ok [] rfl ?_
        first | refine VX.meek rfl ?_ | refine VX.loadI rfl rfl au_l ?_ | refine VX.loadP rfl rfl rfl au_l ?_
        iterate 2 refine VX.meek rfl ?_
        refine VX.callP0 rfl rfl rfl (none_p S a.x a.y hsi hi64x hi64y) ?_
        iterate 2 refine VX.meek rfl ?_
        refine' VX.merge (d := 73) [_, _, _, _, _, _, _] rfl ?_ rfl ?_
        rotate_left
        · refine VX.guard rfl rfl (fun hb12_5 => ?_) (fun hb12_5 => ?_)
          · have ghb12_5 := hb12_5
            try simp only [au_std, Bool.not_true, Bool.not_false] at ghb12_5
            first | refine VX.meek rfl ?_ | refine VX.loadI rfl rfl au_l ?_ | refine VX.loadP rfl rfl rfl au_l ?_
            refine VX.guardT rfl rfl hb12_5 ?_
            refine VX.meek rfl ?_
            refine VX.guardT rfl rfl hb12_5 ?_
            refine VX.meek rfl ?_
            refine VX.guardT rfl rfl hb12_5 ?_
            refine VX.meek rfl ?_
            refine VX.guardT rfl rfl hb12_5 ?_
            refine VX.meek rfl ?_
            refine VX.guardT rfl rfl hb12_5 ?_
            refine VX.callP0 rfl rfl rfl (in24_p S a.x a.y i j hsi hi64x hi64y) ?_
            refine VX.pickA rfl (fun _ => rfl) ?_
            exact VX.nil ⟨rfl, rfl⟩
          · refine VX.guardF rfl rfl hb12_5 ?_
            refine VX.guardF rfl rfl hb12_5 ?_
            refine VX.guardF rfl rfl hb12_5 ?_
            refine VX.guardF rfl rfl hb12_5 ?_
            refine VX.guardF rfl rfl hb12_5 ?_
            exact VX.pickA rfl (fun h => absurd (h.symm.trans hb12_5) (by decide)) (VX.nil ⟨rfl, rfl⟩)
        refine VX.meek rfl ?_
        refine' VX.merge (d := 80) [_, _, _, _, _, _] rfl ?_ rfl ?_
        rotate_left
        · refine VX.guard rfl rfl (fun hb12_13 => ?_) (fun hb12_13 => ?_)
          · have ghb12_13 := hb12_13
            try simp only [au_std, Bool.not_true, Bool.not_false] at ghb12_13
            refine VX.meek rfl ?_
            refine VX.guardT rfl rfl hb12_13 ?_
            first | refine VX.meek rfl ?_ | refine VX.loadI rfl rfl au_l ?_ | refine VX.loadP rfl rfl rfl au_l ?_
            refine VX.guardT rfl rfl hb12_13 ?_
            refine VX.meek rfl ?_
            refine VX.guardT rfl rfl hb12_13 ?_
            refine VX.meek rfl ?_
            refine VX.guardT rfl rfl hb12_13 ?_
            refine VX.callP0 rfl rfl rfl (in17_p a.clip i j (by omega) ha2) ?_
            refine VX.pickA rfl (fun _ => rfl) ?_
            exact VX.nil ⟨rfl, rfl⟩
          · refine VX.guardF rfl rfl hb12_13 ?_
            refine VX.guardF rfl rfl hb12_13 ?_
            refine VX.guardF rfl rfl hb12_13 ?_
            refine VX.guardF rfl rfl hb12_13 ?_
            exact VX.pickA rfl (fun h => absurd (h.symm.trans hb12_13) (by decide)) (VX.nil ⟨rfl, rfl⟩)
        refine VX.nil ?_
        refine VC.cond rfl (fun hc3 => ?_) (fun hc3 => ?_)
        · have hk1 : cpB a i j = true := hcp.trans hc3
          refine VC.reg tab_ok [] rfl ?_
          first | refine VX.meek rfl ?_ | refine VX.loadI rfl rfl au_l ?_ | refine VX.loadP rfl rfl rfl au_l ?_
          iterate 4 refine VX.meek rfl ?_
          refine VX.callP0 rfl rfl rfl (source_p S a.x a.y i j (by omega) (by omega) (by omega) (by omega) (by omega) (by omega)) ?_
          iterate 5 refine VX.meek rfl ?_
          refine VX.nil ?_
          refine VC.drw tab_ok [] [_, _, _, _, _, _, _, _, _, _] rfl (by kernel_rfl) (by kernel_rfl) ?_
          first | refine VX.meek rfl ?_ | refine VX.loadI rfl rfl au_l ?_ | refine VX.loadP rfl rfl rfl au_l ?_
          first | refine VX.meek rfl ?_ | refine VX.loadI rfl rfl au_l ?_ | refine VX.loadP rfl rfl rfl au_l ?_
          iterate 5 refine VX.meek rfl ?_
          first | refine VX.meek rfl ?_ | refine VX.loadI rfl rfl au_l ?_ | refine VX.loadP rfl rfl rfl au_l ?_
          refine VX.callP0 rfl rfl rfl (fp) ?_
          refine VX.callP0 rfl rfl rfl (copied24_p sw sh spx S a.x a.y i j (a.fr.map smR) hfl hfI (by omega) (by omega) (by omega) (by omega) (by omega) (by omega)) ?_
          refine VX.nil ?_
          refine VX.nil ?_
          refine VC.cond rfl (fun hc4 => ?_) (fun hc4 => ?_)
          · have hk2 : hasSB a sw sh i j = true := hhs.trans hc4; have hcx : cntR (fun x => lackB a sw sh x j) (i + 1) = cntR (fun x => lackB a sw sh x j) i := (by rw [hcs, if_neg (by unfold lackB; simp [hk1, hk2])]; rfl)
            refine VC.drwN tab_ok [] [_, _, _, _, _, _, _, _, _, _, _, _, _, _, _] rfl (by kernel_rfl) (by kernel_rfl) ?_
            iterate 2 refine VX.meek rfl ?_
            first | refine VX.meek rfl ?_ | refine VX.loadI rfl rfl au_l ?_ | refine VX.loadP rfl rfl rfl au_l ?_
            refine VX.remU rfl rfl (by omega) (by omega) ?_
            refine VX.meek (t := I64 (a.p.f % 16)) (by show some (T.v (.int .i64 (IntKind.i64.wrap (a.p.f % 16))), (none : Option (Nat × List T))) = _; rw [wrap_in (by omega)]) ?_
            first | refine VX.meek rfl ?_ | refine VX.loadI rfl rfl au_l ?_ | refine VX.loadP rfl rfl rfl au_l ?_
            iterate 2 refine VX.meek rfl ?_
            refine VX.callP0 rfl rfl rfl (at17_p sw sh spx (S.X + i - a.x) (S.Y + j - a.y) (by omega) (by omega) hsl) ?_
            iterate 3 refine VX.meek rfl ?_
            first | refine VX.meek rfl ?_ | refine VX.loadI rfl rfl au_l ?_ | refine VX.loadP rfl rfl rfl au_l ?_
            refine VX.callP0 rfl rfl rfl (mix_p (a.p.f % 16) (atG sw sh spx (S.X + i - a.x) (S.Y + j - a.y)) (atG dw dh dpx i j) a.p.pl (atG_bd hsb _ _) (atG_bd hdb _ _) (by omega)) ?_
            refine VX.meek rfl ?_
            refine VX.nil ?_
            refine VX.nil ?_
            refine VC.reg tab_ok [] rfl ?_
            first | refine VX.meek rfl ?_ | refine VX.loadI rfl rfl au_l ?_ | refine VX.loadP rfl rfl rfl au_l ?_
            iterate 2 refine VX.meek rfl ?_
            refine VX.callP0 rfl rfl rfl (gat_p dw dh gpx i j (by omega) (by omega) hgl hgb) ?_
            iterate 3 refine VX.meek rfl ?_
            refine' VX.merge (d := 129) [_, _, _, _, _, _, _] rfl ?_ rfl ?_
            rotate_left
            · refine VX.guard rfl rfl (fun hb18_6 => ?_) (fun hb18_6 => ?_)
              · have ghb18_6 := hb18_6
                try simp only [au_std, Bool.not_true, Bool.not_false] at ghb18_6
                first | refine VX.meek rfl ?_ | refine VX.loadI rfl rfl au_l ?_ | refine VX.loadP rfl rfl rfl au_l ?_
                refine VX.guardT rfl rfl hb18_6 ?_
                refine VX.meek rfl ?_
                refine VX.guardT rfl rfl hb18_6 ?_
                refine VX.meek rfl ?_
                refine VX.guardT rfl rfl hb18_6 ?_
                refine VX.callP0 rfl rfl rfl (has_p M hM.canon hM.ok hMl i j) ?_
                refine VX.guardT rfl rfl hb18_6 ?_
                refine VX.meek rfl ?_
                refine VX.guardT rfl rfl hb18_6 ?_
                refine VX.meek rfl ?_
                refine VX.pickO rfl (fun _ => rfl) ?_
                exact VX.nil ⟨rfl, rfl⟩
              · refine VX.guardF rfl rfl hb18_6 ?_
                refine VX.guardF rfl rfl hb18_6 ?_
                refine VX.guardF rfl rfl hb18_6 ?_
                refine VX.guardF rfl rfl hb18_6 ?_
                refine VX.guardF rfl rfl hb18_6 ?_
                exact VX.pickO rfl (fun h => absurd (h.symm.trans hb18_6) (by decide)) (VX.nil ⟨rfl, rfl⟩)
            refine VX.nil ?_
            refine VC.cond rfl (fun hc5 => ?_) (fun hc5 => ?_)
            · exact absurd hc5 (by rw [hpx, hwp, hlx]; unfold lackB; first | (simp [hk1, hk2]; done) | (simp [hk1]; done))
            · (try simp only [au_std] at hc5)
              refine VC.skip ?_
              refine VC.regN tab_ok [] rfl ?_
              first | refine VX.add rfl rfl (by omega) ?_ | refine VX.meek rfl ?_
              refine VX.meek rfl ?_
              refine VX.nil ?_
              refine ⟨i + 1, by (try dsimp only); omega, ?_, (by refine ⟨[some 0], rfl, by first | trivial | decide, rfl, ?_, ?_⟩ <;> (repeat' first | exact trivial | exact CvB_n | exact CvB_d | refine CvE_app ?_ ?_ | refine CvE_cons rfl ?_ ?_ | refine CvH_cons ?_ ?_ | refine CvB_c rfl ?_ | fail) <;> first | exact au_v | (first | exact CvL.pure rfl | exact Cv.eq (congrArg I64 (by omega)) rfl))⟩
              (try dsimp only); omega
          · have hk2 : hasSB a sw sh i j = false := hhs.trans hc4; have hcx : cntR (fun x => lackB a sw sh x j) (i + 1) = cntR (fun x => lackB a sw sh x j) i + 1 := (by rw [hcs, if_pos (by unfold lackB; simp [hk1, hk2])])
            refine VC.reg tab_ok [] rfl ?_
            refine VX.meek rfl ?_
            refine VX.nil ?_
            refine VC.regN tab_ok [] rfl ?_
            refine VX.meek rfl ?_
            first | refine VX.add rfl rfl (by omega) ?_ | refine VX.meek rfl ?_
            refine VX.meek rfl ?_
            refine VX.nil ?_
            refine VC.reg tab_ok [] rfl ?_
            first | refine VX.meek rfl ?_ | refine VX.loadI rfl rfl au_l ?_ | refine VX.loadP rfl rfl rfl au_l ?_
            iterate 2 refine VX.meek rfl ?_
            refine VX.callP0 rfl rfl rfl (gat_p dw dh gpx i j (by omega) (by omega) hgl hgb) ?_
            iterate 3 refine VX.meek rfl ?_
            refine' VX.merge (d := 129) [_, _, _, _, _, _, _] rfl ?_ rfl ?_
            rotate_left
            · refine VX.guard rfl rfl (fun hb18_6 => ?_) (fun hb18_6 => ?_)
              · have ghb18_6 := hb18_6
                try simp only [au_std, Bool.not_true, Bool.not_false] at ghb18_6
                first | refine VX.meek rfl ?_ | refine VX.loadI rfl rfl au_l ?_ | refine VX.loadP rfl rfl rfl au_l ?_
                refine VX.guardT rfl rfl hb18_6 ?_
                refine VX.meek rfl ?_
                refine VX.guardT rfl rfl hb18_6 ?_
                refine VX.meek rfl ?_
                refine VX.guardT rfl rfl hb18_6 ?_
                refine VX.callP0 rfl rfl rfl (has_p M hM.canon hM.ok hMl i j) ?_
                refine VX.guardT rfl rfl hb18_6 ?_
                refine VX.meek rfl ?_
                refine VX.guardT rfl rfl hb18_6 ?_
                refine VX.meek rfl ?_
                refine VX.pickO rfl (fun _ => rfl) ?_
                exact VX.nil ⟨rfl, rfl⟩
              · refine VX.guardF rfl rfl hb18_6 ?_
                refine VX.guardF rfl rfl hb18_6 ?_
                refine VX.guardF rfl rfl hb18_6 ?_
                refine VX.guardF rfl rfl hb18_6 ?_
                refine VX.guardF rfl rfl hb18_6 ?_
                exact VX.pickO rfl (fun h => absurd (h.symm.trans hb18_6) (by decide)) (VX.nil ⟨rfl, rfl⟩)
            refine VX.nil ?_
            refine VC.cond rfl (fun hc5 => ?_) (fun hc5 => ?_)
            · exact absurd hc5 (by rw [hpx, hwp, hlx]; unfold lackB; first | (simp [hk1, hk2]; done) | (simp [hk1]; done))
            · (try simp only [au_std] at hc5)
              refine VC.skip ?_
              refine VC.regN tab_ok [] rfl ?_
              first | refine VX.add rfl rfl (by omega) ?_ | refine VX.meek rfl ?_
              refine VX.meek rfl ?_
              refine VX.nil ?_
              refine ⟨i + 1, by (try dsimp only); omega, ?_, (by refine ⟨[some 0], rfl, by first | trivial | decide, rfl, ?_, ?_⟩ <;> (repeat' first | exact trivial | exact CvB_n | exact CvB_d | refine CvE_app ?_ ?_ | refine CvE_cons rfl ?_ ?_ | refine CvH_cons ?_ ?_ | refine CvB_c rfl ?_ | fail) <;> first | exact au_v | (first | exact CvL.pure rfl | exact Cv.eq (congrArg I64 (by omega)) rfl))⟩
              (try dsimp only); omega
        · have hk1 : cpB a i j = false := hcp.trans hc3; have hk2 := hk1; have hcx : cntR (fun x => lackB a sw sh x j) (i + 1) = cntR (fun x => lackB a sw sh x j) i := (by rw [hcs, if_neg (by unfold lackB; simp [hk1])]; rfl)
          refine VC.skip ?_
          refine VC.reg tab_ok [] rfl ?_
          first | refine VX.meek rfl ?_ | refine VX.loadI rfl rfl au_l ?_ | refine VX.loadP rfl rfl rfl au_l ?_
          iterate 2 refine VX.meek rfl ?_
          refine VX.callP0 rfl rfl rfl (gat_p dw dh gpx i j (by omega) (by omega) hgl hgb) ?_
          iterate 3 refine VX.meek rfl ?_
          refine' VX.merge (d := 129) [_, _, _, _, _, _, _] rfl ?_ rfl ?_
          rotate_left
          · refine VX.guard rfl rfl (fun hb18_6 => ?_) (fun hb18_6 => ?_)
            · have ghb18_6 := hb18_6
              try simp only [au_std, Bool.not_true, Bool.not_false] at ghb18_6
              first | refine VX.meek rfl ?_ | refine VX.loadI rfl rfl au_l ?_ | refine VX.loadP rfl rfl rfl au_l ?_
              refine VX.guardT rfl rfl hb18_6 ?_
              refine VX.meek rfl ?_
              refine VX.guardT rfl rfl hb18_6 ?_
              refine VX.meek rfl ?_
              refine VX.guardT rfl rfl hb18_6 ?_
              refine VX.callP0 rfl rfl rfl (has_p M hM.canon hM.ok hMl i j) ?_
              refine VX.guardT rfl rfl hb18_6 ?_
              refine VX.meek rfl ?_
              refine VX.guardT rfl rfl hb18_6 ?_
              refine VX.meek rfl ?_
              refine VX.pickO rfl (fun _ => rfl) ?_
              exact VX.nil ⟨rfl, rfl⟩
            · refine VX.guardF rfl rfl hb18_6 ?_
              refine VX.guardF rfl rfl hb18_6 ?_
              refine VX.guardF rfl rfl hb18_6 ?_
              refine VX.guardF rfl rfl hb18_6 ?_
              refine VX.guardF rfl rfl hb18_6 ?_
              exact VX.pickO rfl (fun h => absurd (h.symm.trans hb18_6) (by decide)) (VX.nil ⟨rfl, rfl⟩)
          refine VX.nil ?_
          refine VC.cond rfl (fun hc5 => ?_) (fun hc5 => ?_)
          · exact absurd hc5 (by rw [hpx, hwp, hlx]; unfold lackB; first | (simp [hk1, hk2]; done) | (simp [hk1]; done))
          · (try simp only [au_std] at hc5)
            refine VC.skip ?_
            refine VC.regN tab_ok [] rfl ?_
            first | refine VX.add rfl rfl (by omega) ?_ | refine VX.meek rfl ?_
            refine VX.meek rfl ?_
            refine VX.nil ?_
            refine ⟨i + 1, by (try dsimp only); omega, ?_, (by refine ⟨[some 0], rfl, by first | trivial | decide, rfl, ?_, ?_⟩ <;> (repeat' first | exact trivial | exact CvB_n | exact CvB_d | refine CvE_app ?_ ?_ | refine CvE_cons rfl ?_ ?_ | refine CvH_cons ?_ ?_ | refine CvB_c rfl ?_ | fail) <;> first | exact au_v | (first | exact CvL.pure rfl | exact Cv.eq (congrArg I64 (by omega)) rfl))⟩
            (try dsimp only); omega
      · (try simp only [au_std] at hc2); have hid : i = dw := (by omega)
        refine VC.exit ?_
        refine VC.regN tab_ok [] rfl ?_
        first | refine VX.add rfl rfl (by omega) ?_ | refine VX.meek rfl ?_
        refine VX.meek rfl ?_
        refine VX.nil ?_
        refine ⟨j + 1, by (try dsimp only); omega, ?_, (by refine ⟨[some 0], rfl, by first | trivial | decide, rfl, ?_, ?_⟩ <;> (repeat' first | exact trivial | exact CvB_n | exact CvB_d | refine CvE_app ?_ ?_ | refine CvE_cons rfl ?_ ?_ | refine CvH_cons ?_ ?_ | refine CvB_c rfl ?_ | fail) <;> first | exact au_v | (first | exact CvL.pure rfl | exact Cv.eq (congrArg I64 (by omega)) rfl | exact Cv.eq (by rw [hid]; rfl) rfl))⟩
        (try dsimp only); omega
    · (try simp only [au_std] at hc1); have hjd : j = dh := (by omega); rw [hjd]
      refine VC.exit ?_
      refine VC.reg tab_ok [] rfl ?_
      first | refine VX.meek rfl ?_ | refine VX.loadI rfl rfl au_l ?_ | refine VX.loadP rfl rfl rfl au_l ?_
      refine VX.callP0 rfl rfl rfl (har) ?_
      iterate 3 refine VX.meek rfl ?_
      refine VX.nil ?_
      refine VC.ret ?_
      exact ⟨trivial, _, rfl, Cv.eq (congrArg BL (by simp)) rfl⟩
end
section
open Go.RowKit Go.Sort
set_option maxRecDepth 10000
theorem inL_filter1 {l : List Rect} {x y : Int} : inL (l.filter countsB) x y ↔ ∃ r ∈ l, countsB r = true ∧ r.has x y := by
  unfold inL; simp only [List.mem_filter]
  constructor
  · rintro ⟨r, ⟨h1, h2⟩, h3⟩; exact ⟨r, h1, h2, h3⟩
  · rintro ⟨r, h1, h2, h3⟩; exact ⟨r, ⟨h1, h2⟩, h3⟩
theorem one_in {r : Rect} {x y : Int} : inL ([r].filter countsB) x y ↔ countsB r = true ∧ r.has x y := by
  rw [inL_filter1]
  constructor
  · rintro ⟨q, h1, h2⟩; rw [List.mem_singleton] at h1; subst h1; exact h2
  · intro h; exact ⟨r, List.mem_singleton.2 rfl, h⟩
theorem opL_sub {n m : Nat} {a b : List Rect} (ha : Reg n a) (hb : Reg m b) {x y : Int} : inL (opL subB a b) x y ↔ inL a x y ∧ ¬ inL b x y := by
  rw [opL_in (k := subB) rfl ha.1 hb.1 ha.2 hb.2 x y]
  unfold subB
  simp
theorem areaV_in {n m : Nat} {fr clip : List Rect} (hf : Reg n fr) (hc : Reg m clip) (s : Rect) (x y : Int) (sw sh w h : Nat) (a b : Int) : inL (areaV fr clip s x y sw sh w h) a b ↔ inL (wantR clip (toR s x y) w h) a b ∧ inL (thereR fr s sw sh x y) a b :=
  opL_and (want_reg hc _ w h) (there_reg hf s sw sh x y)
theorem areaM_in {n m : Nat} {fr clip : List Rect} (hf : Reg n fr) (hc : Reg m clip) (s : Rect) (x y : Int) (sw sh w h : Nat) (a b : Int) : inL (areaM fr clip s x y sw sh w h) a b ↔ noneB s x y = false ∧ inL (wantR clip (toR s x y) w h) a b ∧ ¬ inL (thereR fr s sw sh x y) a b := by
  unfold areaM
  split
  · rename_i h0
    exact ⟨fun k => absurd k inL_nil, fun k => by rw [h0] at k; exact absurd k.1 (by decide)⟩
  · rename_i h0
    rw [opL_sub (want_reg hc _ w h) (there_reg hf s sw sh x y)]
    exact ⟨fun k => ⟨by simpa using h0, k⟩, fun k => k.2⟩
theorem areaM_reg {n m : Nat} {fr clip : List Rect} (hf : Reg n fr) (hc : Reg m clip) (s : Rect) (x y : Int) (sw sh w h : Nat) : Reg (n + m + 10) (areaM fr clip s x y sw sh w h) := by
  unfold areaM
  split
  · exact Reg.nil.mono (Nat.zero_le _)
  · exact (opL_reg (k := subB) rfl (want_reg hc _ w h) (there_reg hf s sw sh x y)).mono (by omega)
theorem there_of {n : Nat} {fr : List Rect} (hf : Reg n fr) {s : Rect} {sw sh : Nat} (hw : sw ≤ 128) (hh : sh ≤ 128) {x y i j : Int} (h0 : noneB s x y = false) (ht : inL ([toR s x y].filter countsB) i j) : inL (thereR fr s sw sh x y) i j ↔ inB' sw sh (s.X + i - x) (s.Y + j - y) = true ∧ inL fr (s.X + i - x) (s.Y + j - y) := by
  rw [there_in hf s hw hh, one_in, inB_iff, show i - (x - s.X) = s.X + i - x from by omega, show j - (y - s.Y) = s.Y + j - y from by omega]
  rw [one_in] at ht
  obtain ⟨h1, h2⟩ := ht
  have hc : countsB s = true := by unfold noneB at h0; cases h : countsB s <;> simp [h] at h0 ⊢
  have hr := countsB_rok h1
  unfold rok toR at hr
  unfold Rect.has toR at h2
  dsimp only at hr h2
  constructor
  · rintro ⟨⟨⟨a, -⟩, b⟩, -⟩; exact ⟨by omega, a⟩
  · rintro ⟨a, b⟩
    exact ⟨⟨⟨b, hc, by unfold Rect.has; omega⟩, by omega⟩, by unfold inQ; omega⟩
section
variable {a : AllS} {w h sw sh : Nat} {px spx : List Int}
theorem cp_want (ha : a.Ok) (hw : w ≤ 128) (hh : h ≤ 128) {i j : Int} (hi : 0 ≤ i ∧ i < w) (hj : 0 ≤ j ∧ j < h) : cpB a i j = true ↔ noneB (smR a.s) a.x a.y = false ∧ inL (wantR (bandOf (a.clip.map smR)) (toR (smR a.s) a.x a.y) w h) i j := by
  obtain ⟨-, -, -, hc, -⟩ := ha
  rw [want_in (Reg.of _) _ hw hh, bandOf_in, smR_in hc]
  unfold cpB
  simp only [Bool.and_eq_true, Bool.not_eq_true', decide_eq_true_eq]
  constructor
  · rintro ⟨⟨p, q⟩, r⟩; exact ⟨p, ⟨r, q⟩, hi.1, hi.2, hj.1, hj.2⟩
  · rintro ⟨p, ⟨r, q⟩, -⟩; exact ⟨⟨p, q⟩, r⟩
theorem cp_there (ha : a.Ok) (hsw : sw ≤ 128) (hsh : sh ≤ 128) {i j : Int} (hk : cpB a i j = true) : hasSB a sw sh i j = true ↔ inL (thereR (bandOf (a.fr.map smR)) (smR a.s) sw sh a.x a.y) i j := by
  unfold cpB at hk
  simp only [Bool.and_eq_true, Bool.not_eq_true', decide_eq_true_eq] at hk
  rw [there_of (Reg.of _) hsw hsh hk.1.1 hk.1.2, bandOf_in]
  unfold hasSB
  simp only [Bool.and_eq_true, decide_eq_true_eq]
theorem area_px (ha : a.Ok) (hw : w ≤ 128) (hh : h ≤ 128) (hsw : sw ≤ 128) (hsh : sh ≤ 128) (hl : px.length = w * h) (p : PenS) (hf : p.f = a.p.f % 16) (hp : p.pl = a.p.pl) (i j : Nat) (hi : i < w) (hj : j < h) :
    atG w h (areaPx (bandOf (a.fr.map smR)) (bandOf (a.clip.map smR)) (smR a.s) a.x a.y sw sh w h p spx px) i j = wantPx a sw sh w h spx px i j := by
  have hin : inB' w h (i : Int) (j : Int) = true := inB_iff.2 ⟨by omega, by omega, by omega, by omega⟩
  have hpi := (place_lt (x := (i : Int)) (y := (j : Int)) (w := w) (h := h) (by omega) (by omega) (by omega) (by omega)).1
  have e0 : atG w h px i j = px[((j : Int) * w + i).toNat]! := if_pos hin
  have e1 : ∀ q : List Int, atG w h q i j = q[((j : Int) * w + i).toNat]! := fun q => if_pos hin
  have hcw := cp_want (w := w) (h := h) (i := i) (j := j) ha hw hh ⟨by omega, by omega⟩ ⟨by omega, by omega⟩
  rw [e1]
  unfold areaPx wantPx
  split
  · rename_i h0
    rw [if_neg (fun k => by have := (hcw.1 k.1).1; rw [h0] at this; cases this), e1]
  · rename_i h0
    have h0' : noneB (smR a.s) a.x a.y = false := by simpa using h0
    rw [paintL_at ⟨by omega, by omega⟩ (by omega) (by rw [hl]; omega)]
    have hv : inL (areaV (bandOf (a.fr.map smR)) (bandOf (a.clip.map smR)) (smR a.s) a.x a.y sw sh w h) i j ↔ cpB a i j = true ∧ hasSB a sw sh i j = true := by
      rw [areaV_in (Reg.of _) (Reg.of _)]
      constructor
      · rintro ⟨p1, p2⟩
        have k := hcw.2 ⟨h0', p1⟩
        exact ⟨k, (cp_there ha hsw hsh k).2 p2⟩
      · rintro ⟨k, p2⟩
        exact ⟨(hcw.1 k).2, (cp_there ha hsw hsh k).1 p2⟩
    by_cases hk : cpB a i j = true ∧ hasSB a sw sh i j = true
    · rw [if_pos (hv.2 hk), if_pos hk]
      have hs : inB' sw sh ((smR a.s).X + i - a.x) ((smR a.s).Y + j - a.y) = true := by
        have := hk.2; unfold hasSB at this; simp only [Bool.and_eq_true] at this; exact this.1
      have e2 : atG sw sh spx ((smR a.s).X + i - a.x) ((smR a.s).Y + j - a.y) = spx[(((smR a.s).Y + j - a.y) * sw + ((smR a.s).X + i - a.x)).toNat]! := if_pos hs
      rw [e2, e0]
      unfold moveF srcA
      rw [hf, hp, show (j : Int) - a.y + (smR a.s).Y = (smR a.s).Y + j - a.y from by omega, show (i : Int) - a.x + (smR a.s).X = (smR a.s).X + i - a.x from by omega]
    · rw [if_neg (fun k => hk (hv.1 k)), if_neg hk, e0]
theorem area_lk (ha : a.Ok) (hw : w ≤ 128) (hh : h ≤ 128) (hsw : sw ≤ 128) (hsh : sh ≤ 128) (i j : Nat) (hi : i < w) (hj : j < h) :
    decide (inL (areaM (bandOf (a.fr.map smR)) (bandOf (a.clip.map smR)) (smR a.s) a.x a.y sw sh w h) i j) = lackB a sw sh i j := by
  have hcw := cp_want (w := w) (h := h) (i := i) (j := j) ha hw hh ⟨by omega, by omega⟩ ⟨by omega, by omega⟩
  rw [Bool.eq_iff_iff, decide_eq_true_eq, areaM_in (Reg.of _) (Reg.of _)]
  unfold lackB
  simp only [Bool.and_eq_true, Bool.not_eq_true']
  constructor
  · rintro ⟨p1, p2, p3⟩
    have k := hcw.2 ⟨p1, p2⟩
    refine ⟨k, ?_⟩
    cases h : hasSB a sw sh i j
    · rfl
    · exact absurd ((cp_there ha hsw hsh k).1 h) p3
  · rintro ⟨k, p⟩
    refine ⟨(hcw.1 k).1, (hcw.1 k).2, fun q => ?_⟩
    rw [(cp_there ha hsw hsh k).2 q] at p; cases p
end
theorem areaM_box {n m : Nat} {fr clip : List Rect} (hf : Reg n fr) (hc : Reg m clip) (s : Rect) (x y : Int) (sw sh : Nat) {w h : Nat} (hw : w ≤ 128) (hh : h ≤ 128) (a b : Int) (k : inL (areaM fr clip s x y sw sh w h) a b) : 0 ≤ a ∧ a < w ∧ 0 ≤ b ∧ b < h :=
  ((want_in hc _ hw hh a b).1 ((areaM_in hf hc s x y sw sh w h a b).1 k).2.1).2
theorem areaPx_len (fr clip : List Rect) (s : Rect) (x y : Int) (sw sh w h : Nat) (p : PenS) (spx px : List Int) : (areaPx fr clip s x y sw sh w h p spx px).length = px.length := by
  unfold areaPx; split
  · rfl
  · exact paintL_len _ _ _ _
theorem areaPx_bd {fr clip : List Rect} {s : Rect} {x y : Int} {sw sh w h : Nat} {p : PenS} {spx px : List Int} (hb : ∀ v ∈ px, 0 ≤ v ∧ v < 256) : ∀ v ∈ areaPx fr clip s x y sw sh w h p spx px, 0 ≤ v ∧ v < 256 := by
  unfold areaPx; split
  · exact hb
  · exact paintL_bd hb (moveF_bd _ _ _ _)
end
section
open Go.RowKit Go.Sort
set_option maxRecDepth 10000
set_option maxHeartbeats 1000000
def pen0 : PenS := ⟨3, 255, 0, 1, 0, 0, 0, false, []⟩
theorem pen0_ok : PenOk pen0 := ⟨by decide, by decide, by decide, .inr rfl, by simp [pen0], by simp [pen0]⟩
theorem row24_p : CallP Tryz.prog 96 [.islc (encL cU [1, 2, 3, 4]) 4 none] (gT 4 1 [1, 2, 3, 4]) := by
  have hmk : CallP Tryz.prog 36 [.agg [U8 3, U8 0, .islc (encL cU [1, 2, 3, 4]) 4 none]] (gT 4 1 [1, 2, 3, 4]) := by
    have := make17_p 3 0 [1, 2, 3, 4] (by omega) (by omega) (by simp) (by intro v hv; simp at hv; omega)
    rw [show padL [1, 2, 3, 4] ((3 % 16 + 1) * (0 % 16 + 1)) = [1, 2, 3, 4] from by decide] at this
    exact this
  refine CallP.intro2 au_pu au_pu ?_
  refine CallT.intro tab_ok Tryz.func96 rfl (by kernel_rfl) (Nat.le_of_ble_eq_true rfl) ?_
  refine VC.reg tab_ok [] rfl ?_
  refine VX.new rfl rfl ?_
  refine VX.nil ?_
  refine VC.reg tab_ok [] rfl ?_
  iterate 2 refine VX.meek rfl ?_
  first | refine VX.sub rfl rfl (by omega) ?_ | refine VX.meek rfl ?_
  refine VX.meek (t := U8 3) rfl ?_
  iterate 2 refine VX.meek rfl ?_
  refine VX.callP0 rfl rfl rfl (hmk) ?_
  refine VX.store rfl rfl rfl rfl rfl au_sS rfl ?_
  refine VX.nil ?_
  refine VC.ret ?_
  exact ⟨trivial, _, rfl, Cv.agg (cv_g (Cv.pure rfl))⟩
theorem plane41 (a b : Int) : inL (bandOf [⟨0, 0, 4, 1⟩]) a b ↔ 0 ≤ a ∧ a < 4 ∧ 0 ≤ b ∧ b < 1 := in_plane0 (w := 4) (h := 1) (by omega) (by omega) a b
theorem ex_px : areaPx (bandOf [⟨0, 0, 4, 1⟩]) (bandOf [⟨0, 0, 4, 1⟩]) ⟨0, 0, 3, 1⟩ 1 0 4 1 4 1 pen0 [1, 2, 3, 4] [1, 2, 3, 4] = [1, 1, 2, 3] := by
  unfold areaPx
  rw [if_neg (by decide), paintL_dec (D := fun x y => decide (1 ≤ x) && decide (x < 4) && decide (0 ≤ y) && decide (y < 1)) (fun x y => by
    rw [areaV_in (Reg.of _) (Reg.of _), want_in (Reg.of _) _ (by omega) (by omega), there_in (Reg.of _) _ (by omega) (by omega), plane41, plane41, one_in, one_in]
    simp only [show countsB (toR ⟨0, 0, 3, 1⟩ 1 0) = true from by decide, show countsB ⟨0, 0, 3, 1⟩ = true from by decide, Bool.and_eq_true, decide_eq_true_eq, true_and]
    unfold Rect.has toR inQ
    dsimp only
    omega)]
  decide +kernel
theorem nil_of {l : List Rect} (hc : Canon l) (h : ∀ x y, ¬ inL l x y) : l = [] := canon_uniq hc canon_nil fun x y => ⟨fun k => absurd k (h x y), fun k => absurd k inL_nil⟩
theorem ex_m : areaM (bandOf [⟨0, 0, 4, 1⟩]) (bandOf [⟨0, 0, 4, 1⟩]) ⟨0, 0, 3, 1⟩ 1 0 4 1 4 1 = [] := by
  refine nil_of (areaM_reg (Reg.of _) (Reg.of _) _ _ _ _ _ _ _).canon fun x y k => ?_
  rw [areaM_in (Reg.of _) (Reg.of _), want_in (Reg.of _) _ (by omega) (by omega), there_in (Reg.of _) _ (by omega) (by omega), plane41, plane41, one_in, one_in] at k
  simp only [show countsB (toR ⟨0, 0, 3, 1⟩ 1 0) = true from by decide, show countsB ⟨0, 0, 3, 1⟩ = true from by decide, true_and] at k
  unfold Rect.has toR inQ at k
  dsimp only at k
  omega
theorem scrA_reg {m : Nat} {clip : List Rect} (hc : Reg m clip) (w h : Nat) : Reg (m + 2) (scrA clip w h) := opL_reg (k := and) rfl hc (Reg.of [⟨0, 0, (w : Int), (h : Int)⟩])
theorem scrT_in {m : Nat} {clip : List Rect} (hc : Reg m clip) {w h : Nat} (hw : w ≤ 128) (hh : h ≤ 128) (dx dy x y : Int) : inL (scrT clip w h dx dy) x y ↔ (inL clip (x - dx) (y - dy) ∧ 0 ≤ x - dx ∧ x - dx < w ∧ 0 ≤ y - dy ∧ y - dy < h) ∧ inQ x y := by
  unfold scrT
  rw [shift_in (scrA_reg hc w h).ok, scrA_in hc hw hh]
theorem scrT_reg {m : Nat} {clip : List Rect} (hc : Reg m clip) (w h : Nat) (dx dy : Int) : Reg (m + 2 + 2) (scrT clip w h dx dy) := (scrA_reg hc w h).shift dx dy
theorem scrV_in {m : Nat} {clip : List Rect} (hc : Reg m clip) (w h : Nat) (dx dy x y : Int) : inL (scrV clip w h dx dy) x y ↔ inL (scrA clip w h) x y ∧ inL (scrT clip w h dx dy) x y := opL_and (scrA_reg hc w h) (scrT_reg hc w h dx dy)
open Classical in
theorem scrM_in {m : Nat} {clip : List Rect} (hc : Reg m clip) (w h : Nat) (dx dy x y : Int) : inL (scrM clip w h dx dy) x y ↔ inL (scrA clip w h) x y ∧ (scrFar w h dx dy ∨ ¬ inL (scrT clip w h dx dy) x y) := by
  unfold scrM
  split
  · rename_i hf; exact ⟨fun k => ⟨k, .inl hf⟩, fun k => k.1⟩
  · rename_i hf
    rw [opL_sub (scrA_reg hc w h) (scrT_reg hc w h dx dy)]
    exact ⟨fun k => ⟨k.1, .inr k.2⟩, fun k => ⟨k.1, k.2.resolve_left hf⟩⟩
open Classical in
theorem scrM_reg {m : Nat} {clip : List Rect} (hc : Reg m clip) (w h : Nat) (dx dy : Int) : Reg (m + m + 10) (scrM clip w h dx dy) := by
  unfold scrM
  split
  · exact (scrA_reg hc w h).mono (by omega)
  · exact (opL_reg (k := subB) rfl (scrA_reg hc w h) (scrT_reg hc w h dx dy)).mono (by omega)
theorem ex_far : ¬ scrFar 4 1 1 0 := by unfold scrFar; simp
theorem ex_spx : scrPx (bandOf [⟨0, 0, 4, 1⟩]) 4 1 1 0 pen0 [1, 2, 3, 4] = [1, 1, 2, 3] := by
  unfold scrPx
  rw [if_neg ex_far, paintL_dec (D := fun x y => decide (1 ≤ x) && decide (x < 4) && decide (0 ≤ y) && decide (y < 1)) (fun x y => by
    rw [scrV_in (Reg.of _), scrA_in (Reg.of _) (by omega) (by omega), scrT_in (Reg.of _) (by omega) (by omega), plane41, plane41]
    unfold inQ
    simp only [Bool.and_eq_true, decide_eq_true_eq]
    omega)]
  decide +kernel
theorem ex_sm (x y : Int) : inL (scrM (bandOf [⟨0, 0, 4, 1⟩]) 4 1 1 0) x y ↔ x = 0 ∧ y = 0 := by
  rw [scrM_in (Reg.of _), scrA_in (Reg.of _) (by omega) (by omega), scrT_in (Reg.of _) (by omega) (by omega), plane41, plane41]
  have := ex_far
  unfold inQ
  constructor
  · rintro ⟨a, b | b⟩
    · exact absurd b this
    · omega
  · intro k; exact ⟨by omega, .inr (by omega)⟩
theorem awake24_p : CallP Tryz.prog 34 [] (BL true) := by
  have hb4 : ∀ v ∈ [(1 : Int), 2, 3, 4], 0 ≤ v ∧ v < 256 := by intro v hv; simp at hv; omega
  have hr : rI ⟨0, 0, 3, 1⟩ := ⟨by unfold i64; dsimp only; omega, by unfold i64; dsimp only; omega, by unfold i64; dsimp only; omega, by unfold i64; dsimp only; omega⟩
  have hwi : CallP Tryz.prog 42 [gT 4 1 [1, 2, 3, 4], regT (bandOf [⟨0, 0, 4, 1⟩]), regT (bandOf [⟨0, 0, 4, 1⟩]), rectT ⟨0, 0, 3, 1⟩, I64 1, I64 0, penT pen0] (.tup [gT 4 1 [1, 1, 2, 3], regT []]) := by
    have k := blitArea_p 4 1 4 1 [1, 2, 3, 4] [1, 2, 3, 4] (bandOf [⟨0, 0, 4, 1⟩]) (bandOf [⟨0, 0, 4, 1⟩]) ⟨0, 0, 3, 1⟩ 1 0 pen0 (by omega) (by omega) rfl hb4 (by omega) (by omega) rfl hb4 (Reg.of _) (Reg.of _) (by simp) hr (by unfold i64; omega) (by unfold i64; omega) pen0_ok ⟨by decide, by decide⟩
    rw [ex_px, ex_m] at k
    exact blitWithin_w 4 1 _ _ _ _ _ _ _ _ _ k
  have hsc : CallP Tryz.prog 43 [gT 4 1 [1, 2, 3, 4], regT (bandOf [⟨0, 0, 4, 1⟩]), I64 1, I64 0, penT pen0] (.tup [gT 4 1 [1, 1, 2, 3], regT (scrM (bandOf [⟨0, 0, 4, 1⟩]) 4 1 1 0)]) := by
    have k := blitScroll_p 4 1 [1, 2, 3, 4] (bandOf [⟨0, 0, 4, 1⟩]) 1 0 pen0 ⟨by omega, by omega⟩ ⟨by omega, by omega⟩ rfl hb4 (Reg.of _) (by simp) pen0_ok ⟨by decide, by decide⟩
    rw [ex_spx] at k
    exact k
  have hM := scrM_reg (Reg.of [⟨0, 0, 4, 1⟩]) 4 1 1 0
  have hMin := ex_sm
  have har := area_any (w := 4) (h := 1) hM (by simp) (by omega) (fun x y k => by have := (hMin x y).1 k; omega)
  have hMl : (scrM (bandOf [⟨0, 0, 4, 1⟩]) 4 1 1 0).length ≤ 1048576 := Nat.le_trans hM.len (by decide)
  have hhas := has_p _ hM.canon hM.ok hMl 0 0
  rw [decide_eq_true ((hMin 0 0).2 ⟨rfl, rfl⟩)] at hhas
  rw [show cntG (fun x y => decide (inL (scrM (bandOf [⟨0, 0, 4, 1⟩]) 4 1 1 0) x y)) 4 1 = cntG (fun x y => decide (x = 0 ∧ y = 0)) 4 1 from cntG_congr fun i j _ _ => decide_eq_decide.2 (hMin i j), show cntG (fun x y => decide (x = 0 ∧ y = 0)) 4 1 = 1 from by decide] at har
  generalize scrM (bandOf [⟨0, 0, 4, 1⟩]) 4 1 1 0 = M at *
  refine CallP.intro2 au_pu au_pu ?_
  refine CallT.intro tab_ok Tryz.func34 rfl (by kernel_rfl) (Nat.le_of_ble_eq_true rfl) ?_
  refine VC.reg tab_ok [] rfl ?_
  refine VX.meek rfl ?_
  refine VX.nil ?_
  refine VC.reg tab_ok [7, 10] rfl ?_
  refine VX.newI rfl rfl ?_
  refine VX.callP rfl rfl row24_p au_wk rfl ?_
  refine VX.meek rfl ?_
  refine VX.newI rfl rfl ?_
  refine VX.callP rfl rfl (of_p [⟨0, 0, 4, 1⟩] (by simp) (fun q hq => by rw [List.mem_singleton] at hq; subst hq; unfold i64; dsimp only; omega)) au_wk rfl ?_
  refine VX.new rfl rfl ?_
  refine VX.new rfl rfl ?_
  refine VX.store rfl rfl rfl rfl rfl au_sS rfl ?_
  refine VX.store rfl rfl rfl rfl rfl au_sS rfl ?_
  refine VX.nil ?_
  refine VC.drwS tab_ok [] [_, _, _, _, _, _, _, _, _, _, _, _] (_) rfl (by kernel_rfl) (by kernel_rfl) (by kernel_rfl) (seen_refl _) ?_
  refine VS.seg (l1 := [_, _, _, _, _, _, _, _, _]) rfl ?_
  first | refine VX.meek rfl ?_ | refine VX.loadI rfl rfl au_l ?_ | refine VX.loadP rfl rfl rfl au_l ?_
  first | refine VX.meek rfl ?_ | refine VX.loadI rfl rfl au_l ?_ | refine VX.loadP rfl rfl rfl au_l ?_
  first | refine VX.meek rfl ?_ | refine VX.loadI rfl rfl au_l ?_ | refine VX.loadP rfl rfl rfl au_l ?_
  refine VX.meek rfl ?_
  refine VX.callP0 rfl rfl rfl (newPen_p) ?_
  refine VX.callP0 rfl rfl rfl (hwi) ?_
  iterate 3 refine VX.meek rfl ?_
  refine VX.nil ?_
  refine VS.hid rfl ?_
  refine VS.seg (l1 := [_]) rfl ?_
  refine VX.new rfl rfl ?_
  refine VX.nil ?_
  refine VS.sto rfl rfl rfl rfl ?_
  refine VS.nil (⟨rfl, Nat.le_of_ble_eq_true rfl, rfl, trivial⟩) ?_
  refine VX.store rfl rfl rfl rfl rfl au_sS rfl ?_
  refine VX.nil ?_
  refine VC.drwS tab_ok [] [_, _, _, _, _, _, _, _, _, _] (_) rfl (by kernel_rfl) (by kernel_rfl) (by kernel_rfl) (seen_refl _) ?_
  refine VS.seg (l1 := [_, _, _, _, _, _, _]) rfl ?_
  first | refine VX.meek rfl ?_ | refine VX.loadI rfl rfl au_l ?_ | refine VX.loadP rfl rfl rfl au_l ?_
  first | refine VX.meek rfl ?_ | refine VX.loadI rfl rfl au_l ?_ | refine VX.loadP rfl rfl rfl au_l ?_
  refine VX.callP0 rfl rfl rfl (newPen_p) ?_
  refine VX.callP0 rfl rfl rfl (hsc) ?_
  iterate 3 refine VX.meek rfl ?_
  refine VX.nil ?_
  refine VS.hid rfl ?_
  refine VS.seg (l1 := [_]) rfl ?_
  refine VX.new rfl rfl ?_
  refine VX.nil ?_
  refine VS.sto rfl rfl rfl rfl ?_
  refine VS.nil (⟨rfl, Nat.le_of_ble_eq_true rfl, rfl, trivial⟩) ?_
  refine VX.store rfl rfl rfl rfl rfl au_sS rfl ?_
  refine VX.nil ?_
  refine VC.reg tab_ok [] rfl ?_
  first | refine VX.meek rfl ?_ | refine VX.loadI rfl rfl au_l ?_ | refine VX.loadP rfl rfl rfl au_l ?_
  refine VX.callP0 rfl rfl rfl (row_p 4 1 [1, 1, 2, 3] 0 (by omega) (by omega) rfl (by omega)) ?_
  iterate 2 refine VX.meek rfl ?_
  refine' VX.merge (d := 34) [_, _, _] rfl ?_ rfl ?_
  rotate_left
  · refine VX.guard rfl rfl (fun hb4_3 => ?_) (fun hb4_3 => ?_)
    · have ghb4_3 := hb4_3
      try simp only [au_std, Bool.not_true, Bool.not_false] at ghb4_3
      first | refine VX.meek rfl ?_ | refine VX.loadI rfl rfl au_l ?_ | refine VX.loadP rfl rfl rfl au_l ?_
      refine VX.guardT rfl rfl hb4_3 ?_
      refine VX.callP0 rfl rfl rfl (empty_p []) ?_
      refine VX.pickA rfl (fun _ => rfl) ?_
      exact VX.nil ⟨rfl, rfl⟩
    · refine VX.guardF rfl rfl hb4_3 ?_
      exact VX.pickA rfl (fun h => absurd (h.symm.trans hb4_3) (by decide)) (VX.nil ⟨rfl, rfl⟩)
  refine VX.meek rfl ?_
  refine' VX.merge (d := 39) [_, _, _, _] rfl ?_ rfl ?_
  rotate_left
  · refine VX.guard rfl rfl (fun hb4_7 => ?_) (fun hb4_7 => ?_)
    · have ghb4_7 := hb4_7
      try simp only [au_std, Bool.not_true, Bool.not_false] at ghb4_7
      first | refine VX.meek rfl ?_ | refine VX.loadI rfl rfl au_l ?_ | refine VX.loadP rfl rfl rfl au_l ?_
      refine VX.guardT rfl rfl hb4_7 ?_
      refine VX.callP0 rfl rfl rfl (row_p 4 1 [1, 1, 2, 3] 0 (by omega) (by omega) rfl (by omega)) ?_
      refine VX.guardT rfl rfl hb4_7 ?_
      refine VX.meek rfl ?_
      refine VX.pickA rfl (fun _ => rfl) ?_
      exact VX.nil ⟨rfl, rfl⟩
    · refine VX.guardF rfl rfl hb4_7 ?_
      refine VX.guardF rfl rfl hb4_7 ?_
      exact VX.pickA rfl (fun h => absurd (h.symm.trans hb4_7) (by decide)) (VX.nil ⟨rfl, rfl⟩)
  refine VX.meek rfl ?_
  refine' VX.merge (d := 44) [_, _, _, _] rfl ?_ rfl ?_
  rotate_left
  · refine VX.guard rfl rfl (fun hb4_12 => ?_) (fun hb4_12 => ?_)
    · have ghb4_12 := hb4_12
      try simp only [au_std, Bool.not_true, Bool.not_false] at ghb4_12
      first | refine VX.meek rfl ?_ | refine VX.loadI rfl rfl au_l ?_ | refine VX.loadP rfl rfl rfl au_l ?_
      refine VX.guardT rfl rfl hb4_12 ?_
      refine VX.callP0 rfl rfl rfl (har) ?_
      refine VX.guardT rfl rfl hb4_12 ?_
      refine VX.meek rfl ?_
      refine VX.pickA rfl (fun _ => rfl) ?_
      exact VX.nil ⟨rfl, rfl⟩
    · refine VX.guardF rfl rfl hb4_12 ?_
      refine VX.guardF rfl rfl hb4_12 ?_
      exact VX.pickA rfl (fun h => absurd (h.symm.trans hb4_12) (by decide)) (VX.nil ⟨rfl, rfl⟩)
  refine VX.meek rfl ?_
  refine' VX.merge (d := 48) [_, _, _] rfl ?_ rfl ?_
  rotate_left
  · refine VX.guard rfl rfl (fun hb4_17 => ?_) (fun hb4_17 => ?_)
    · have ghb4_17 := hb4_17
      try simp only [au_std, Bool.not_true, Bool.not_false] at ghb4_17
      first | refine VX.meek rfl ?_ | refine VX.loadI rfl rfl au_l ?_ | refine VX.loadP rfl rfl rfl au_l ?_
      refine VX.guardT rfl rfl hb4_17 ?_
      refine VX.callP0 rfl rfl rfl (hhas) ?_
      refine VX.pickA rfl (fun _ => rfl) ?_
      exact VX.nil ⟨rfl, rfl⟩
    · refine VX.guardF rfl rfl hb4_17 ?_
      exact VX.pickA rfl (fun h => absurd (h.symm.trans hb4_17) (by decide)) (VX.nil ⟨rfl, rfl⟩)
  refine VX.meek rfl ?_
  refine VX.nil ?_
  refine VC.ret ?_
  exact ⟨trivial, _, rfl, Cv.eq (congrArg BL (by decide +kernel)) rfl⟩
end
section
open Go.RowKit Go.Sort
set_option maxRecDepth 10000
set_option maxHeartbeats 1000000
abbrev shS : Sh := .st [shB, shB, shU, shU]
abbrev shPl : Sh := .st [shU, shU, .sl shU]
abbrev shPc : Sh := .st [shU, shU, shB, shB, .bool, .sl shS]
abbrev shAll : Sh := .st [shPl, shPl, .sl shS, .sl shS, shS, shB, shB, shPc]
theorem wt_small {ts : List T} (h : shS.wt ts) : ∃ s : Rect, ts = cS.cells s ∧ smOk s := by
  obtain ⟨a, b, rfl, h1, c, d, rfl, h2, e, f, rfl, h3, g, k, rfl, h4, rfl⟩ := h
  obtain ⟨x, rfl, hx⟩ := wt_i8 h1
  obtain ⟨y, rfl, hy⟩ := wt_i8 h2
  obtain ⟨w, rfl, hw⟩ := wt_u8 h3
  obtain ⟨z, rfl, hz⟩ := wt_u8 h4
  exact ⟨⟨x, y, w, z⟩, rfl, hx.1, hx.2, hy.1, hy.2, hw.1, hw.2, hz.1, hz.2⟩
theorem wt_smalls {ts : List T} (h : (Sh.sl shS).wt ts) : ∃ l : List Rect, ts = [.islc (encL cS l) l.length none] ∧ l.length ≤ maxLen ∧ ∀ s ∈ l, smOk s := wt_sl cS (fun _ => wt_small) h
theorem wt_pl {ts : List T} (h : shPl.wt ts) : ∃ (cw ch : Nat) (P : List Int), ts = [U8 cw, U8 ch, .islc (encL cU P) P.length none] ∧ cw < 256 ∧ ch < 256 ∧ ∀ v ∈ P, 0 ≤ v ∧ v < 256 := wt_canvas h
theorem wt_pc {ts : List T} (h : shPc.wt ts) : ∃ p : PcS, ts = pcC p ∧ p.Ok := by
  obtain ⟨a1, b1, rfl, h1, a2, b2, rfl, h2, a3, b3, rfl, h3, a4, b4, rfl, h4, a5, b5, rfl, h5, a6, b6, rfl, h6, rfl⟩ := h
  obtain ⟨f, rfl, hf⟩ := wt_u8 h1
  obtain ⟨pl, rfl, hp⟩ := wt_u8 h2
  obtain ⟨x, rfl, hx⟩ := wt_i8 h3
  obtain ⟨y, rfl, hy⟩ := wt_i8 h4
  obtain ⟨c, rfl⟩ := h5
  obtain ⟨l, rfl, -, hl⟩ := wt_smalls h6
  exact ⟨⟨f, pl, x, y, c, l⟩, rfl, hf, hp, hx, hy, hl⟩
theorem wt_all {ts : List T} (h : shAll.wt ts) : ∃ a : AllS, ts = allC a ∧ a.Ok := by
  obtain ⟨a1, b1, rfl, h1, a2, b2, rfl, h2, a3, b3, rfl, h3, a4, b4, rfl, h4, a5, b5, rfl, h5, a6, b6, rfl, h6, a7, b7, rfl, h7, a8, b8, rfl, h8, rfl⟩ := h
  obtain ⟨sw, sh, sP, rfl, hs⟩ := wt_pl h1
  obtain ⟨dw, dh, dP, rfl, hd⟩ := wt_pl h2
  obtain ⟨fr, rfl, -, hf⟩ := wt_smalls h3
  obtain ⟨clip, rfl, -, hc⟩ := wt_smalls h4
  obtain ⟨s, rfl, hs2⟩ := wt_small h5
  obtain ⟨x, rfl, hx⟩ := wt_i8 h6
  obtain ⟨y, rfl, hy⟩ := wt_i8 h7
  obtain ⟨p, rfl, hp⟩ := wt_pc h8
  exact ⟨⟨sw, sh, sP, dw, dh, dP, fr, clip, s, x, y, p⟩, rfl, hs, hd, hf, hc, hs2, hx, hy, hp⟩
theorem few_of {a : AllS} (h : fewB a = true) : a.sP.length ≤ 300 ∧ a.dP.length ≤ 300 ∧ a.fr.length ≤ 10 ∧ a.clip.length ≤ 10 ∧ a.p.c.length ≤ 10 := by
  unfold fewB at h; simp only [Bool.and_eq_true, decide_eq_true_eq] at h; omega
theorem ofS_p (l : List Rect) (hl : ∀ s ∈ l, smOk s) (hn : l.length ≤ 10) : CallP Tryz.prog 20 [.islc (encL cR (l.map smR)) (l.map smR).length none] (regT (bandOf (l.map smR))) :=
  of_p (l.map smR) (by rw [List.length_map]; omega) (fun r hr => ⟨(smRs_rI hl r hr).1, (smRs_rI hl r hr).2.1⟩)
theorem ofS_reg (l : List Rect) (hn : l.length ≤ 10) : Reg 20 (bandOf (l.map smR)) := (Reg.of (l.map smR)).mono (by rw [List.length_map]; omega)
theorem i64_8 {x : Int} (h : -128 ≤ x ∧ x ≤ 127) : i64 x := by unfold i64; omega
end
section
open Go.RowKit Go.Sort
set_option maxRecDepth 10000
set_option maxHeartbeats 1000000
theorem blitWithin_all {t0 : List T} (h0 : shAll.wt t0) : CallP Tryz.prog 9 [shAll.tree t0] (BL true) := by
  obtain ⟨a, rfl, ha⟩ := wt_all h0
  clear h0
  have hok := ha
  obtain ⟨⟨hs1, hs2, hs3⟩, ⟨hd1, hd2, hd3⟩, hf, hc, hsm, hx, hy, hp⟩ := ha
  have hpp : (penOf a.p).f = a.p.f % 16 ∧ (penOf a.p).pl = a.p.pl ∧ (0 ≤ (penOf a.p).pl ∧ (penOf a.p).pl < 256) := ⟨rfl, rfl, hp.2.1⟩
  have sp := small_p a.s hsm
  have hsi := smR_rI hsm
  show CallP Tryz.prog 9 [.agg (allC a)] (BL true)
  have hap := allC_pure a
  by_cases hfw : fewB a = true
  case neg =>
    have fw := few24_p a
    rw [show fewB a = false by simpa using hfw] at fw
    refine CallP.intro2 au_pu au_pu ?_
    refine CallT.intro tab_ok Tryz.func9 rfl (by kernel_rfl) (Nat.le_of_ble_eq_true rfl) ?_
    refine VC.reg tab_ok [1] rfl ?_
    refine VX.newI rfl rfl ?_
    refine VX.meek rfl ?_
    refine VX.nil ?_
    refine VC.seq ?_
    refine VC.reg tab_ok [] rfl ?_
    first | refine VX.meek rfl ?_ | refine VX.loadI rfl rfl au_l ?_ | refine VX.loadP rfl rfl rfl au_l ?_
    refine VX.callP0 rfl rfl rfl (fw) ?_
    refine VX.meek rfl ?_
    refine VX.nil ?_
    refine VC.cond rfl (fun hc0 => ?_) (fun hc0 => ?_)
    · (try simp only [au_std] at hc0)
      refine VC.reg tab_ok [] rfl ?_
      refine VX.callP0 rfl rfl rfl (awake24_p) ?_
      refine VX.meek rfl ?_
      refine VX.nil ?_
      refine VC.ret ?_
      exact ⟨trivial, _, rfl, Cv.eq (by first | rfl | (simp [*]; done)) rfl⟩
    · exact absurd hc0 (by simp)
  case pos =>
    obtain ⟨n1, n2, n3, n4, n5⟩ := few_of hfw
    have fw := few24_p a
    rw [hfw] at fw
    have mD := make17_p a.dw a.dh a.dP hd1 hd2 (by omega) hd3
    have rD := ref17_p a.dw a.dh a.dP hd1 hd2 (by omega) hd3
    have dl := padL_len a.dP ((a.dw % 16 + 1) * (a.dh % 16 + 1))
    have db := padL_bd hd3 ((a.dw % 16 + 1) * (a.dh % 16 + 1))
    have w3 : a.dw % 16 + 1 ≤ 16 := by omega
    have w4 : a.dh % 16 + 1 ≤ 16 := by omega
    generalize padL a.dP ((a.dw % 16 + 1) * (a.dh % 16 + 1)) = dpx at *
    generalize a.dw % 16 + 1 = w at *
    generalize a.dh % 16 + 1 = h at *
    have rf := ofS_reg a.fr n3
    have rc := ofS_reg a.clip n4
    have hA0 := blitArea_p w h w h dpx dpx (bandOf (a.fr.map smR)) (bandOf (a.clip.map smR)) (smR a.s) a.x a.y (penOf a.p) (by omega) (by omega) dl db (by omega) (by omega) dl db rf rc (by omega) hsi (i64_8 hx) (i64_8 hy) (penOf_ok hp n5) hpp.2.2
    have hA := blitWithin_w w h dpx _ _ _ _ _ _ _ _ hA0
    clear hA0
    have hM := areaM_reg rf rc (smR a.s) a.x a.y w h w h
    have hI := is24_p a hok n3 n4 w h w h dpx dpx (areaPx (bandOf (a.fr.map smR)) (bandOf (a.clip.map smR)) (smR a.s) a.x a.y w h w h (penOf a.p) dpx dpx) (areaM (bandOf (a.fr.map smR)) (bandOf (a.clip.map smR)) (smR a.s) a.x a.y w h w h) w3 w4 w3 w4 dl dl ((areaPx_len _ _ _ _ _ _ _ _ _ _ _ _).trans dl) db db (areaPx_bd db) hM (by omega)
      (fun x y k => areaM_box rf rc _ _ _ _ _ (by omega) (by omega) x y k) (fun i j hi hj => area_px hok (by omega) (by omega) (by omega) (by omega) dl (penOf a.p) hpp.1 hpp.2.1 i j hi hj) (fun i j hi hj => area_lk hok (by omega) (by omega) (by omega) (by omega) i j hi hj)
    generalize areaPx (bandOf (a.fr.map smR)) (bandOf (a.clip.map smR)) (smR a.s) a.x a.y w h w h (penOf a.p) dpx dpx = G at *
    generalize areaM (bandOf (a.fr.map smR)) (bandOf (a.clip.map smR)) (smR a.s) a.x a.y w h w h = M at *
    refine CallP.intro2 au_pu au_pu ?_
    refine CallT.intro tab_ok Tryz.func9 rfl (by kernel_rfl) (Nat.le_of_ble_eq_true rfl) ?_
    refine VC.reg tab_ok [1] rfl ?_
    refine VX.newI rfl rfl ?_
    refine VX.meek rfl ?_
    refine VX.nil ?_
    refine VC.view ([(1, .iptr (allC a) 0)]) ([]) [] rfl (by refine ⟨[], rfl, by first | trivial | decide, rfl, ?_, ?_⟩ <;> (repeat' first | exact trivial | exact CvB_n | exact CvB_d | refine CvE_app ?_ ?_ | refine CvE_cons rfl ?_ ?_ | refine CvH_cons ?_ ?_ | refine CvB_c rfl ?_ | fail) <;> first | exact au_v | (exact Cv.iptr (CvL.eq rfl hap))) ?_
    refine VC.seq ?_
    refine VC.reg tab_ok [] rfl ?_
    first | refine VX.meek rfl ?_ | refine VX.loadI rfl rfl au_l ?_ | refine VX.loadP rfl rfl rfl au_l ?_
    refine VX.callP0 rfl rfl rfl (fw) ?_
    refine VX.meek rfl ?_
    refine VX.nil ?_
    refine VC.cond rfl (fun hc0 => ?_) (fun hc0 => ?_)
    · exact absurd hc0 (by simp)
    · (try simp only [au_std] at hc0)
      refine VC.skip ?_
      refine VC.drwS tab_ok [] [_, _, _, _, _, _, _, _, _, _, _, _, _, _, _, _, _, _, _, _, _, _, _, _, _, _, _, _, _, _] (_) rfl (by kernel_rfl) (by kernel_rfl) (by kernel_rfl) (seen_refl _) ?_
      refine VS.seg (l1 := [_, _, _, _, _, _, _, _, _, _, _, _, _, _, _, _, _, _, _, _, _, _, _, _, _, _, _]) rfl ?_
      refine VX.meek rfl ?_
      first | refine VX.meek rfl ?_ | refine VX.loadI rfl rfl au_l ?_ | refine VX.loadP rfl rfl rfl au_l ?_
      refine VX.callP0 rfl rfl rfl (mD) ?_
      refine VX.meek rfl ?_
      first | refine VX.meek rfl ?_ | refine VX.loadI rfl rfl au_l ?_ | refine VX.loadP rfl rfl rfl au_l ?_
      refine VX.callP0 rfl rfl rfl (rects17_p a.fr (by omega) hf) ?_
      refine VX.callP0 rfl rfl rfl (ofS_p a.fr hf n3) ?_
      refine VX.meek rfl ?_
      first | refine VX.meek rfl ?_ | refine VX.loadI rfl rfl au_l ?_ | refine VX.loadP rfl rfl rfl au_l ?_
      refine VX.callP0 rfl rfl rfl (rects17_p a.clip (by omega) hc) ?_
      refine VX.callP0 rfl rfl rfl (ofS_p a.clip hc n4) ?_
      refine VX.meek rfl ?_
      first | refine VX.meek rfl ?_ | refine VX.loadI rfl rfl au_l ?_ | refine VX.loadP rfl rfl rfl au_l ?_
      refine VX.callP0 rfl rfl rfl (sp) ?_
      refine VX.meek rfl ?_
      first | refine VX.meek rfl ?_ | refine VX.loadI rfl rfl au_l ?_ | refine VX.loadP rfl rfl rfl au_l ?_
      refine VX.meek (t := I64 a.x) (by show some (T.v (.int .i64 (IntKind.i64.wrap a.x)), (none : Option (Nat × List T))) = _; rw [wrap_in (by omega)]) ?_
      refine VX.meek rfl ?_
      first | refine VX.meek rfl ?_ | refine VX.loadI rfl rfl au_l ?_ | refine VX.loadP rfl rfl rfl au_l ?_
      refine VX.meek (t := I64 a.y) (by show some (T.v (.int .i64 (IntKind.i64.wrap a.y)), (none : Option (Nat × List T))) = _; rw [wrap_in (by omega)]) ?_
      refine VX.meek rfl ?_
      first | refine VX.meek rfl ?_ | refine VX.loadI rfl rfl au_l ?_ | refine VX.loadP rfl rfl rfl au_l ?_
      refine VX.callP0 rfl rfl rfl (pencil_p a.p hp (by omega)) ?_
      refine VX.callP0 rfl rfl rfl (hA) ?_
      iterate 3 refine VX.meek rfl ?_
      refine VX.nil ?_
      refine VS.hid rfl ?_
      refine VS.seg (l1 := [_]) rfl ?_
      refine VX.new rfl rfl ?_
      refine VX.nil ?_
      refine VS.sto rfl rfl rfl rfl ?_
      refine VS.nil (⟨rfl, Nat.le_of_ble_eq_true rfl, rfl, trivial⟩) ?_
      refine VX.store rfl rfl rfl rfl rfl au_sS rfl ?_
      refine VX.nil ?_
      refine VC.drw tab_ok [] [_, _, _, _, _, _, _, _, _, _, _, _, _, _] rfl (by kernel_rfl) (by kernel_rfl) ?_
      first | refine VX.meek rfl ?_ | refine VX.loadI rfl rfl au_l ?_ | refine VX.loadP rfl rfl rfl au_l ?_
      first | refine VX.meek rfl ?_ | refine VX.loadI rfl rfl au_l ?_ | refine VX.loadP rfl rfl rfl au_l ?_
      first | refine VX.meek rfl ?_ | refine VX.loadI rfl rfl au_l ?_ | refine VX.loadP rfl rfl rfl au_l ?_
      refine VX.meek rfl ?_
      first | refine VX.meek rfl ?_ | refine VX.loadI rfl rfl au_l ?_ | refine VX.loadP rfl rfl rfl au_l ?_
      refine VX.callP0 rfl rfl rfl (rD) ?_
      refine VX.meek rfl ?_
      first | refine VX.meek rfl ?_ | refine VX.loadI rfl rfl au_l ?_ | refine VX.loadP rfl rfl rfl au_l ?_
      refine VX.callP0 rfl rfl rfl (rD) ?_
      refine VX.callP0 rfl rfl rfl (hI) ?_
      refine VX.meek rfl ?_
      refine' VX.merge (d := 48) [_, _] rfl ?_ rfl ?_
      rotate_left
      · refine VX.guard rfl rfl (fun hb4_10 => ?_) (fun hb4_10 => ?_)
        · have ghb4_10 := hb4_10
          try simp only [au_std, Bool.not_true, Bool.not_false] at ghb4_10
          refine VX.callP0 rfl rfl rfl (awake24_p) ?_
          refine VX.pickA rfl (fun _ => rfl) ?_
          exact VX.nil ⟨rfl, rfl⟩
        · exact VX.pickA rfl (fun h => absurd (h.symm.trans hb4_10) (by decide)) (VX.nil ⟨rfl, rfl⟩)
      refine VX.meek rfl ?_
      refine VX.nil ?_
      refine VX.nil ?_
      refine VC.ret ?_
      exact ⟨trivial, _, rfl, Cv.eq (by first | rfl | (simp [*]; done)) rfl⟩
end
section
open Go.ChangeShapes Go.WideShapes Go.ChangeAt Go.RowKit Go.WideElems
def rowed (P : Program) (ts : List TypeId) : Bool := ts.all fun t => P.readableRec t && decide (t < P.types.size)
theorem trodAll_below {H : Type} {enc : TypeId × Value → H} {P : Program} (hl : laidOutB P = true) {W W' : World} (hb : Below W.heap.size W W') :
    ∀ {ts : List TypeId} {vs : List Value} {ds : List (DataW H)} {p : List MemPlace}, rowed P ts = true → (∀ x ∈ p, x.block < W.heap.size) →
      DataW.TrodAll enc P W 0 (fun _ => true) true ts vs ds p → DataW.TrodAll enc P W' 0 (fun b => decide (b < W.heap.size)) true ts vs ds p
  | [], _, _, _, _, _, h => by
    obtain ⟨rfl, rfl, rfl⟩ := trodAll_nil h
    exact trodAll_mk0
  | t :: ts, _, _, _, hr, hlt, h => by
    obtain ⟨v, vs1, d, ds1, a, b, rfl, rfl, rfl, h1, h2⟩ := trodAll_cons h
    simp only [rowed, List.all_cons, Bool.and_eq_true, decide_eq_true_eq] at hr
    refine trodAll_cons_mk (Below.trod hl hr.1.1 hr.1.2 h1 hb (fun x hx => hlt x (by simp [hx]))) ?_
    exact trodAll_below hl hb (by simpa [rowed] using hr.2) (fun x hx => hlt x (by simp [hx])) h2
theorem post_law {H : Type} {enc : TypeId × Value → H} {P : Program} {f : Func} {s : ChangeSpec} {W W' : World} {args : Array Value} {ds gs : List (DataW H)} {before : List MemPlace} {tb : TypeId}
    (hl : laidOutB P = true) (hps : rowed P f.params.toList = true) (hvs : varsRowed P s.vars = true) (hres : f.resultTypes = #[tb]) (htb : P.underlying tb = some .bool)
    (hW : DataW.Whole enc P f.params.toList s.vars false W args.toList ds gs before)
    (h1 : (s.fn H (ds ++ gs)).results = [.lit (.bool true)]) (h2 : (s.fn H (ds ++ gs)).args = ds) (h3 : (s.fn H (ds ++ gs)).vars = gs)
    (hb : Below W.heap.size W W') : s.post enc P f false true false false W args (.bool true) W' := by
  have hlt := hW.lt
  have hW' := hW
  obtain ⟨p, q, hA, hV, rfl, hfz, hnd⟩ := hW
  refine ⟨ds, gs, p ++ q, [], p, q, hW', ?_, ?_, ?_, hb.frame _, fun h => by cases h⟩
  · rw [h1, hres]
    exact trodAll_cons_mk (shut_bool htb true) trodAll_mk0
  · rw [h2]
    exact trodAll_below hl hb hps (fun x hx => hlt x (by simp [hx])) hA
  · rw [h3]
    exact Below.trodVars hl hb hvs hV
end
end Go.Proofs.YtelhkfdpkjkpjaaGreat
