/-
  WALK of layer 56's laws: same.
-/
import Derived.Test.YtiefpodmdpnppaaDoorZer
namespace Go.Proofs.YtiefpodmdpnppaaDoor
open Go.RowKit
attribute [local go_sem ↓] Go.wp_at_zero Go.wp_at_succ

/-- a screen is what the document says -/
structure Eqv (S : Scr) (M : Ref) : Prop where
  c : S.cols = M.w
  r : S.rows = M.h
  x : S.x = M.x
  y : S.y = M.y
  k : S.kept = M.kept
  g : ∀ i : Nat, i < M.h → S.row i = M.rows.getD i []
theorem Eqv.text {S : Scr} {M : Ref} (e : Eqv S M) : S.text = M.text := by
  unfold Scr.text Ref.text
  rw [e.r]
  have : ∀ n, n ≤ M.h → S.textUpto n = M.textUpto n := by
    intro n
    induction n with
    | zero => intro _; rfl
    | succ n ih => intro h; rw [textUpto_succ, rtext_succ, ih (by omega), e.g n (by omega)]
  exact this _ (Nat.le_refl _)

theorem load_int {w : World} {b o : Nat} {k : Int} (h : w.cell? ⟨b, o, none⟩ = some (.int .i64 k)) : (Instr.loadAt 3 (.pointer (some ⟨b, o, none⟩))).run Tryd.prog w = .ok (.int .i64 k) w := by
  go_simp
theorem load_str {w : World} {b o : Nat} {s : ByteArray} (h : w.cell? ⟨b, o, none⟩ = some (.string s)) : (Instr.loadAt 9 (.pointer (some ⟨b, o, none⟩))).run Tryd.prog w = .ok (.string s) w := by
  go_simp
theorem load_strs {w : World} {b o : Nat} {A : Option Addr} {n c : Nat} (h : w.cell? ⟨b, o, none⟩ = some (.slice A n c)) : (Instr.loadAt 26 (.pointer (some ⟨b, o, none⟩))).run Tryd.prog w = .ok (.slice A n c) w := by
  go_simp
theorem load_ref {w : World} {b : Nat} {M : Ref} {vr vk : Value} (h : w.heap[b]? = some (.cells (M.vals vr vk) 31 (0, 0))) : (Instr.loadAt 31 (.pointer (some ⟨b, 0, none⟩))).run Tryd.prog w = .ok (.agg (M.vals vr vk)) w := by
  have g0 : w.cell? ⟨b, 0, none⟩ = some (.int .i64 M.w) := cell_of_row _ _ _ _ _ _ h
  have g1 : w.cell? ⟨b, 1, none⟩ = some (.int .i64 M.h) := cell_of_row _ _ _ _ _ _ h
  have g2 : w.cell? ⟨b, 2, none⟩ = some (.int .i64 M.most) := cell_of_row _ _ _ _ _ _ h
  have g3 : w.cell? ⟨b, 3, none⟩ = some vr := cell_of_row _ _ _ _ _ _ h
  have g4 : w.cell? ⟨b, 4, none⟩ = some vk := cell_of_row _ _ _ _ _ _ h
  have g5 : w.cell? ⟨b, 5, none⟩ = some (.int .i64 M.x) := cell_of_row _ _ _ _ _ _ h
  have g6 : w.cell? ⟨b, 6, none⟩ = some (.int .i64 M.y) := cell_of_row _ _ _ _ _ _ h
  have g7 : w.cell? ⟨b, 7, none⟩ = some (.int .i64 M.begun) := cell_of_row _ _ _ _ _ _ h
  have g8 : w.cell? ⟨b, 8, none⟩ = some (.string (bs M.args)) := cell_of_row _ _ _ _ _ _ h
  clear h
  rw [Ref.vals_eq]
  go_simp
theorem idx_strs {o : Oper} {x y : Operand} {rb ro n c i : Nat} (ρ : Operand → Value) (w : World) (h1 : ρ x = .slice (some ⟨rb, ro, none⟩) n c) (h2 : ρ y = .int .i64 i) (hi : i < n) (ho : o.op = .indexAddr 26 x y := by rfl) :
    (execOp ρ o).run Tryd.prog w = .ok (.value (.pointer (some ⟨rb, ro + i, none⟩))) w := by
  have hi1 : (0 : Int) ≤ (i : Int) := by omega
  have hi2 : (i : Int) < (n : Int) := by omega
  unfold execOp
  simp only [ho, h1, h2]
  go_simp
theorem sub_wrap {K i : Nat} (h : i < K) (hK : K ≤ 1000) : IntKind.i64.wrap ((K : Int) - (i : Int)) = ((K - i : Nat) : Int) := by
  rw [IntWalk.i64_in _ (by omega)]; omega
theorem add_wrap {K : Nat} (hK : K ≤ 1000) : IntKind.i64.wrap ((K : Int) + 1) = ((K : Nat) : Int) + 1 := by
  rw [IntWalk.i64_in _ (by omega)]
theorem row_out1 (S : Scr) : strV (S.row (-1)) = .string ⟨#[]⟩ := by unfold Scr.row; rw [if_neg (by omega)]; rfl
theorem row_out2 (S : Scr) : strV (S.row (S.rows : Int)) = .string ⟨#[]⟩ := by unfold Scr.row; rw [if_neg (by omega)]; rfl
theorem back_out1 (S : Scr) : strV (S.back 0) = .string ⟨#[]⟩ := by unfold Scr.back; rw [if_neg (by omega)]; rfl
theorem back_out2 (S : Scr) (n : Int) (h : (S.kept.length : Int) < n) : strV (S.back n) = .string ⟨#[]⟩ := by unfold Scr.back; rw [if_neg (by omega)]; rfl

set_option maxRecDepth 100000 in
set_option maxHeartbeats 1600000 in
theorem same_all (v u : Value) (S : Scr) (M : Ref) (w : World) (h : CV w v S) (hu : RV w u M) (ok : S.Ok ∨ S = zeroScr) (okm : M.Ok ∨ M = zeroRef) (eq : Eqv S M) :
    Calls Tryd.prog 16 #[v, u] w (ValPost w (.bool true)) := by
  have HV0 := Lib.hid h; have HU0 := Lib.hid hu; have HO := Lib.hid ok; have HOM := Lib.hid okm; have HE := Lib.hid eq
  obtain ⟨vc, vk, rfl, -, -, -, -⟩ := h
  obtain ⟨vr, vk', rfl, h21, h22⟩ := hu
  have h25 := h21.1; have h26 := h22.1
  obtain ⟨-, A3, c3, rfl, -, -, -, hr3⟩ := h25
  obtain ⟨-, A4, c4, rfl, -, -, -, hr4⟩ := h26
  obtain ⟨L, hL⟩ : ∃ L : Nat, L = M.rows.length := ⟨_, rfl⟩
  obtain ⟨K, hK⟩ : ∃ K : Nat, K = M.kept.length := ⟨_, rfl⟩
  have hLh : L = M.h := by rw [hL]; rcases okm with okm | rfl; exact okm.r; rfl
  have hK64 : K ≤ 1000 := by rw [hK]; rcases okm with okm | rfl; exact Nat.le_trans okm.k okm.m; decide
  have hh64 : M.h ≤ 64 := by rcases okm with okm | rfl; exact okm.h2; decide
  have hw128 : M.w ≤ 128 := by rcases okm with okm | rfl; exact okm.w2; decide
  have HR3 := Lib.hid hr3; have HR4 := Lib.hid hr4
  have HKS : Hid (S.kept.length = K) := by rw [hK, eq.k]; exact Lib.hid rfl
  have HKM := Lib.hid hK; have HLM := Lib.hid hL; have HLH := Lib.hid hLh
  rw [← hL, ← hK] at HU0 ⊢
  clear ok okm eq h21 h22 hr3 hr4 hL hK hLh
  rw [Scr.vals_eq, Ref.vals_eq]
  go_enter Tryd.func16, Tryd.ntmps16
  go_upto_region 1 with fail
  obtain ⟨w1, hw1⟩ : ∃ w1, w1 = (w.alloc (.cells (S.vals vc vk) 29)).alloc (.cells (M.vals (.slice A3 L c3) (.slice A4 K c4)) 31) := ⟨_, rfl⟩
  have hb1 : Below w.heap.size w w1 := by rw [hw1]; exact below_alloc2 _ _ _
  have hx1 : w1.heap[w.heap.size]? = some (.cells (S.vals vc vk) 29 (0, 0)) := by rw [hw1]; exact alloc2_fst _ _ _
  have hy1 : w1.heap[w.heap.size + 1]? = some (.cells (M.vals (.slice A3 L c3) (.slice A4 K c4)) 31 (0, 0)) := by rw [hw1]; exact alloc2_snd _ _ _
  rw [Scr.vals_eq, Ref.vals_eq] at hw1
  rw [← hw1]
  have HX1 := Lib.hid hx1; have HY1 := Lib.hid hy1
  have HV1 := Lib.hid (HV0.out.next hb1); have HU1 := Lib.hid (HU0.out.next hb1)
  have HB1 := Lib.hid hb1
  have g0 : w1.cell? ⟨w.heap.size, 0, none⟩ = some (.int .i64 S.cols) := cell_of_row _ _ _ _ _ _ hx1
  have g1 : w1.cell? ⟨w.heap.size, 1, none⟩ = some (.int .i64 S.rows) := cell_of_row _ _ _ _ _ _ hx1
  have g2 : w1.cell? ⟨w.heap.size, 2, none⟩ = some (.int .i64 S.most) := cell_of_row _ _ _ _ _ _ hx1
  have g3 : w1.cell? ⟨w.heap.size, 3, none⟩ = some (.int .i64 S.x) := cell_of_row _ _ _ _ _ _ hx1
  have g4 : w1.cell? ⟨w.heap.size, 4, none⟩ = some (.int .i64 S.y) := cell_of_row _ _ _ _ _ _ hx1
  have g5 : w1.cell? ⟨w.heap.size, 5, none⟩ = some vc := cell_of_row _ _ _ _ _ _ hx1
  have g6 : w1.cell? ⟨w.heap.size, 6, none⟩ = some vk := cell_of_row _ _ _ _ _ _ hx1
  have g7 : w1.cell? ⟨w.heap.size, 7, none⟩ = some (.int .i64 S.st) := cell_of_row _ _ _ _ _ _ hx1
  have g8 : w1.cell? ⟨w.heap.size, 8, none⟩ = some (.int .i64 S.n0) := cell_of_row _ _ _ _ _ _ hx1
  have g9 : w1.cell? ⟨w.heap.size, 9, none⟩ = some (.int .i64 S.n1) := cell_of_row _ _ _ _ _ _ hx1
  have g10 : w1.cell? ⟨w.heap.size, 10, none⟩ = some (.int .i64 S.num) := cell_of_row _ _ _ _ _ _ hx1
  clear hw1 hb1 hx1 hy1 HV0 HU0
  go_wp2_with fail
  refine (size_any (.agg (S.vals vc vk)) S _ (by exact HV1.out)).mono ?_
  rintro e w2 ⟨rfl, hb2⟩
  rw [HE.out.c, HE.out.r]
  have hx2 := (hb2.block _ (block_lt HX1.out)).trans HX1.out
  have HX2 := Lib.hid hx2; have HY2 := Lib.hid ((hb2.block _ (block_lt HY1.out)).trans HY1.out)
  have HV2 := Lib.hid (HV1.out.next hb2); have HU2 := Lib.hid (HU1.out.next hb2)
  have HB2 : Hid (Below w.heap.size w w2) := below_next HB1.out hb2
  clear g0 g1 g2 g3 g4 g5 g6 g7 g8 g9 g10
  have g0 : w2.cell? ⟨w.heap.size, 0, none⟩ = some (.int .i64 S.cols) := cell_of_row _ _ _ _ _ _ hx2
  have g1 : w2.cell? ⟨w.heap.size, 1, none⟩ = some (.int .i64 S.rows) := cell_of_row _ _ _ _ _ _ hx2
  have g2 : w2.cell? ⟨w.heap.size, 2, none⟩ = some (.int .i64 S.most) := cell_of_row _ _ _ _ _ _ hx2
  have g3 : w2.cell? ⟨w.heap.size, 3, none⟩ = some (.int .i64 S.x) := cell_of_row _ _ _ _ _ _ hx2
  have g4 : w2.cell? ⟨w.heap.size, 4, none⟩ = some (.int .i64 S.y) := cell_of_row _ _ _ _ _ _ hx2
  have g5 : w2.cell? ⟨w.heap.size, 5, none⟩ = some vc := cell_of_row _ _ _ _ _ _ hx2
  have g6 : w2.cell? ⟨w.heap.size, 6, none⟩ = some vk := cell_of_row _ _ _ _ _ _ hx2
  have g7 : w2.cell? ⟨w.heap.size, 7, none⟩ = some (.int .i64 S.st) := cell_of_row _ _ _ _ _ _ hx2
  have g8 : w2.cell? ⟨w.heap.size, 8, none⟩ = some (.int .i64 S.n0) := cell_of_row _ _ _ _ _ _ hx2
  have g9 : w2.cell? ⟨w.heap.size, 9, none⟩ = some (.int .i64 S.n1) := cell_of_row _ _ _ _ _ _ hx2
  have g10 : w2.cell? ⟨w.heap.size, 10, none⟩ = some (.int .i64 S.num) := cell_of_row _ _ _ _ _ _ hx2
  clear hx2 hb2 HX1 HY1 HV1 HU1 HB1
  go_wp2_with fail
  refine (cursor_any (.agg (S.vals vc vk)) S _ (by exact HV2.out)).mono ?_
  rintro e w3 ⟨rfl, hb3⟩
  rw [HE.out.x, HE.out.y]
  have HLc : Hid (∀ w', Later w3 w' → w'.heap[w.heap.size]? = some (.cells (S.vals vc vk) 29 (0, 0))) := fun w' h => ((below_next hb3 h).block _ (block_lt HX2.out)).trans HX2.out
  have HLm : Hid (∀ w', Later w3 w' → w'.heap[w.heap.size + 1]? = some (.cells (M.vals (.slice A3 L c3) (.slice A4 K c4)) 31 (0, 0))) := fun w' h => ((below_next hb3 h).block _ (block_lt HY2.out)).trans HY2.out
  have HV := Lib.hid (HV2.out.next hb3); have HU := Lib.hid (HU2.out.next hb3)
  have HB3 : Hid (Below w.heap.size w w3) := below_next HB2.out hb3
  clear g0 g1 g2 g3 g4 g5 g6 g7 g8 g9 g10
  clear hb3 HX2 HY2 HV2 HU2 HB2
  go_upto_region 3 with fail
  have hLc := HLc.out; have hLm := HLm.out
  obtain ⟨R, hR⟩ : ∃ R : ByteArray, strV S.text = .string R := ⟨_, rfl⟩
  have HT := Lib.hid hR
  have HTM : Hid (strV M.text = .string R) := by rw [← HE.out.text]; exact HT
  have HK : Hid (Value.int .i64 (S.kept.length : Int) = .int .i64 K) := by rw [HKS.out]; exact Lib.hid rfl
  clear hR
  refine wp_region_meek [Stay.val (.int .i64 M.w), Stay.val (.pointer (some ⟨w.heap.size + 1, 0, none⟩)), Stay.val (.int .i64 M.w), Stay.val (.bool false), Stay.val (.bool false), Stay.val (.int .i64 M.h), Stay.val (.pointer (some ⟨w.heap.size + 1, 1, none⟩)), Stay.val (.int .i64 M.h), Stay.val (.bool false), Stay.val (.bool false), Stay.val (.bool false), Stay.val (.int .i64 M.x), Stay.val (.pointer (some ⟨w.heap.size + 1, 5, none⟩)), Stay.val (.int .i64 M.x), Stay.val (.bool false), Stay.val (.bool false), Stay.val (.bool false), Stay.val (.int .i64 M.y), Stay.val (.pointer (some ⟨w.heap.size + 1, 6, none⟩)), Stay.val (.int .i64 M.y), Stay.val (.bool false), Stay.val (.bool false), Stay.val (.bool false), Stay.val (.agg (S.vals vc vk)), Stay.val (.int .i64 K), Stay.val (.pointer (some ⟨w.heap.size + 1, 4, none⟩)), Stay.val (.slice A4 K c4), Stay.val (.int .i64 K), Stay.val (.bool false), Stay.val (.bool false), Stay.val (.bool false), Stay.val (.agg (S.vals vc vk)), Stay.val (.string R), Stay.val (.agg (M.vals (.slice A3 L c3) (.slice A4 K c4))), Stay.val (.string R), Stay.val (.bool false), Stay.val (.bool false)] 115 rfl (by kernel_rfl) (by kernel_rfl) ?_ ?_
  · refine ⟨meek_plain rfl (body_move _ rfl (opd_out 5 (by kernel_rfl) _ rfl)), ?_⟩
    refine ⟨meek_plain rfl (body_one _ _ (.pointer (some ⟨w.heap.size + 1, 0, none⟩)) (opd_out 3 (by kernel_rfl) _ rfl) (fun _ => rfl) fun ρ w h1 => (by simp [execOp, h1, go_sem])), ?_⟩
    refine ⟨meek_plain rfl (body_load _ _ _ _ rfl (opd_in 1 22 (by kernel_rfl)) fun w' h => ⟨load_int (cell_of_row _ _ _ _ _ _ (hLm w' h)), rfl⟩), ?_⟩
    refine ⟨meek_plain rfl (body_two _ _ _ _ (.bool false) (opd_in 0 21 (by kernel_rfl)) (opd_in 2 23 (by kernel_rfl)) (fun _ => rfl) fun ρ w h1 h2 => (by simp [execOp, h1, h2, go_sem])), ?_⟩
    refine ⟨meek_plain rfl (body_move _ rfl (opd_in 3 24 (by kernel_rfl))), ?_⟩
    refine ⟨meek_on 4 false 115 rfl (by kernel_rfl) (fun _ _ h => h) (body_move _ rfl (opd_out 6 (by kernel_rfl) _ rfl)), ?_⟩
    refine ⟨meek_on 4 false 115 rfl (by kernel_rfl) (fun _ _ h => h) (body_one _ _ (.pointer (some ⟨w.heap.size + 1, 1, none⟩)) (opd_out 3 (by kernel_rfl) _ rfl) (fun _ => rfl) fun ρ w h1 => (by simp [execOp, h1, go_sem])), ?_⟩
    refine ⟨meek_on 4 false 115 rfl (by kernel_rfl) (fun _ _ h => h) (body_load _ _ _ _ rfl (opd_in 6 27 (by kernel_rfl)) fun w' h => ⟨load_int (cell_of_row _ _ _ _ _ _ (hLm w' h)), rfl⟩), ?_⟩
    refine ⟨meek_on 4 false 115 rfl (by kernel_rfl) (fun _ _ h => h) (body_two _ _ _ _ (.bool false) (opd_in 5 26 (by kernel_rfl)) (opd_in 7 28 (by kernel_rfl)) (fun _ => rfl) fun ρ w h1 h2 => (by simp [execOp, h1, h2, go_sem])), ?_⟩
    refine ⟨meek_plain rfl (body_pick _ _ _ false rfl (opd_in 4 25 (by kernel_rfl)) (opd_in 8 29 (by kernel_rfl))), ?_⟩
    refine ⟨meek_plain rfl (body_move _ rfl (opd_in 9 30 (by kernel_rfl))), ?_⟩
    refine ⟨meek_on 10 false 115 rfl (by kernel_rfl) (fun _ _ h => h) (body_move _ rfl (opd_out 7 (by kernel_rfl) _ rfl)), ?_⟩
    refine ⟨meek_on 10 false 115 rfl (by kernel_rfl) (fun _ _ h => h) (body_one _ _ (.pointer (some ⟨w.heap.size + 1, 5, none⟩)) (opd_out 3 (by kernel_rfl) _ rfl) (fun _ => rfl) fun ρ w h1 => (by simp [execOp, h1, go_sem])), ?_⟩
    refine ⟨meek_on 10 false 115 rfl (by kernel_rfl) (fun _ _ h => h) (body_load _ _ _ _ rfl (opd_in 12 33 (by kernel_rfl)) fun w' h => ⟨load_int (cell_of_row _ _ _ _ _ _ (hLm w' h)), rfl⟩), ?_⟩
    refine ⟨meek_on 10 false 115 rfl (by kernel_rfl) (fun _ _ h => h) (body_two _ _ _ _ (.bool false) (opd_in 11 32 (by kernel_rfl)) (opd_in 13 34 (by kernel_rfl)) (fun _ => rfl) fun ρ w h1 h2 => (by simp [execOp, h1, h2, go_sem])), ?_⟩
    refine ⟨meek_plain rfl (body_pick _ _ _ false rfl (opd_in 10 31 (by kernel_rfl)) (opd_in 14 35 (by kernel_rfl))), ?_⟩
    refine ⟨meek_plain rfl (body_move _ rfl (opd_in 15 36 (by kernel_rfl))), ?_⟩
    refine ⟨meek_on 16 false 115 rfl (by kernel_rfl) (fun _ _ h => h) (body_move _ rfl (opd_out 8 (by kernel_rfl) _ rfl)), ?_⟩
    refine ⟨meek_on 16 false 115 rfl (by kernel_rfl) (fun _ _ h => h) (body_one _ _ (.pointer (some ⟨w.heap.size + 1, 6, none⟩)) (opd_out 3 (by kernel_rfl) _ rfl) (fun _ => rfl) fun ρ w h1 => (by simp [execOp, h1, go_sem])), ?_⟩
    refine ⟨meek_on 16 false 115 rfl (by kernel_rfl) (fun _ _ h => h) (body_load _ _ _ _ rfl (opd_in 18 39 (by kernel_rfl)) fun w' h => ⟨load_int (cell_of_row _ _ _ _ _ _ (hLm w' h)), rfl⟩), ?_⟩
    refine ⟨meek_on 16 false 115 rfl (by kernel_rfl) (fun _ _ h => h) (body_two _ _ _ _ (.bool false) (opd_in 17 38 (by kernel_rfl)) (opd_in 19 40 (by kernel_rfl)) (fun _ => rfl) fun ρ w h1 h2 => (by simp [execOp, h1, h2, go_sem])), ?_⟩
    refine ⟨meek_plain rfl (body_pick _ _ _ false rfl (opd_in 16 37 (by kernel_rfl)) (opd_in 20 41 (by kernel_rfl))), ?_⟩
    refine ⟨meek_plain rfl (body_move _ rfl (opd_in 21 42 (by kernel_rfl))), ?_⟩
    refine ⟨meek_on 22 false 115 rfl (by kernel_rfl) (fun _ _ h => h) (body_load _ _ _ _ rfl (opd_out 2 (by kernel_rfl) _ rfl) fun w' h => ⟨load_scr (hLc w' h), rfl⟩), ?_⟩
    refine ⟨meek_on 22 false 115 rfl (by kernel_rfl) (fun _ _ h => h) (body_call1 _ _ _ _ rfl (by kernel_rfl) (opd_in 23 44 (by kernel_rfl)) fun v w' h hv => ?_), ?_⟩
    · obtain rfl := hv
      refine (kept_any _ S _ (HV.out.next h)).mono ?_
      rintro e w9 ⟨rfl, hb9⟩
      exact ⟨_, rfl, hb9, HK.out⟩
    refine ⟨meek_on 22 false 115 rfl (by kernel_rfl) (fun _ _ h => h) (body_one _ _ (.pointer (some ⟨w.heap.size + 1, 4, none⟩)) (opd_out 3 (by kernel_rfl) _ rfl) (fun _ => rfl) fun ρ w h1 => (by simp [execOp, h1, go_sem])), ?_⟩
    refine ⟨meek_on 22 false 115 rfl (by kernel_rfl) (fun _ _ h => h) (body_load _ _ _ _ rfl (opd_in 25 46 (by kernel_rfl)) fun w' h => ⟨load_strs (cell_of_row _ _ _ _ _ _ (hLm w' h)), rfl⟩), ?_⟩
    refine ⟨meek_on 22 false 115 rfl (by kernel_rfl) (fun _ _ h => h) (body_one _ _ (.int .i64 K) (opd_in 26 47 (by kernel_rfl)) (fun _ => rfl) fun ρ w h1 => (by simp [h1, go_sem])), ?_⟩
    refine ⟨meek_on 22 false 115 rfl (by kernel_rfl) (fun _ _ h => h) (body_two _ _ _ _ (.bool false) (opd_in 24 45 (by kernel_rfl)) (opd_in 27 48 (by kernel_rfl)) (fun _ => rfl) fun ρ w h1 h2 => (by simp [execOp, h1, h2, go_sem])), ?_⟩
    refine ⟨meek_plain rfl (body_pick _ _ _ false rfl (opd_in 22 43 (by kernel_rfl)) (opd_in 28 49 (by kernel_rfl))), ?_⟩
    refine ⟨meek_plain rfl (body_move _ rfl (opd_in 29 50 (by kernel_rfl))), ?_⟩
    refine ⟨meek_on 30 false 115 rfl (by kernel_rfl) (fun _ _ h => h) (body_load _ _ _ _ rfl (opd_out 2 (by kernel_rfl) _ rfl) fun w' h => ⟨load_scr (hLc w' h), rfl⟩), ?_⟩
    refine ⟨meek_on 30 false 115 rfl (by kernel_rfl) (fun _ _ h => h) (body_call1 _ _ _ _ rfl (by kernel_rfl) (opd_in 31 52 (by kernel_rfl)) fun v w' h hv => ?_), ?_⟩
    · obtain rfl := hv
      refine (text_any _ S _ (HV.out.next h) HO.out).mono ?_
      rintro e w9 ⟨rfl, hb9⟩
      exact ⟨_, rfl, hb9, HT.out⟩
    refine ⟨meek_on 30 false 115 rfl (by kernel_rfl) (fun _ _ h => h) (body_load _ _ _ _ rfl (opd_out 3 (by kernel_rfl) _ rfl) fun w' h => ⟨load_ref (hLm w' h), rfl⟩), ?_⟩
    refine ⟨meek_on 30 false 115 rfl (by kernel_rfl) (fun _ _ h => h) (body_call1 _ _ _ _ rfl (by kernel_rfl) (opd_in 33 54 (by kernel_rfl)) fun v w' h hv => ?_), ?_⟩
    · obtain rfl := hv
      refine (rtext_any _ M _ (HU.out.next h) HOM.out).mono ?_
      rintro e w9 ⟨rfl, hb9⟩
      exact ⟨_, rfl, hb9, HTM.out⟩
    refine ⟨meek_on 30 false 115 rfl (by kernel_rfl) (fun _ _ h => h) (body_two _ _ _ _ (.bool false) (opd_in 32 53 (by kernel_rfl)) (opd_in 34 55 (by kernel_rfl)) (fun _ => rfl) fun ρ w h1 h2 => (by simp [execOp, h1, h2, go_sem])), ?_⟩
    refine ⟨meek_plain rfl (body_pick _ _ _ false rfl (opd_in 30 51 (by kernel_rfl)) (opd_in 35 56 (by kernel_rfl))), ?_⟩
    exact trivial
  · intro g w4 h4 hend
    have e57 : g 57 = .bool false := meek_val hend 36 57 (by kernel_rfl) _ rfl
    clear hend hLc hLm HT HTM HK
    simp only [putAll, Act.put, List.setIfInBounds_toArray, List.set_cons_succ, List.set_cons_zero, e57]
    clear e57 R
    have HL4 := Lib.hid h4
    clear h4
    go_wp2_with fail
    go_loopw [9] (fun iv wr => ∃ i : Nat, i ≤ M.h ∧ iv = .int .i64 i ∧ Hid (Later w3 wr)) (fun iv _ => M.h - (intOf iv).toNat)
    case atStart => exact ⟨0, Nat.zero_le _, rfl, HL4.out⟩
    case round =>
      clear HL4
      obtain ⟨i, hi, rfl, hlr⟩ := hrel
      by_cases hlt : i < M.h
      · have hd1 : decide ((i : Int) < (M.h : Int)) = true := by simp; omega
        go_upto_region 8 with fail
        have hiL : i < L := by have := HLH.out; omega
        obtain ⟨rb, ro, hA3, hrb, hrc⟩ := HR3.out (by rw [← HLM.out]; omega)
        subst hA3
        have HRC := Lib.hid hrc
        clear hrc
        have hLc : ∀ w', Later wr w' → w'.heap[w.heap.size]? = some (.cells (S.vals vc vk) 29 (0, 0)) := fun w' h => HLc.out w' (hlr.out.trans h)
        have hLm : ∀ w', Later wr w' → w'.heap[w.heap.size + 1]? = some (.cells (M.vals (.slice (some ⟨rb, ro, none⟩) L c3) (.slice A4 K c4)) 31 (0, 0)) := fun w' h => HLm.out w' (hlr.out.trans h)
        obtain ⟨R, hR⟩ : ∃ R : ByteArray, strV (M.rows.getD i []) = .string R := ⟨_, rfl⟩
        have hLr : ∀ w', Later wr w' → w'.cell? ⟨rb, ro + i, none⟩ = some (.string R) := fun w' h => by
          have hrow : w.cell? ⟨rb, ro + i, none⟩ = some (strV (M.rows.getD i [])) := by
            refine HRC.out i _ ?_
            have hl : i < M.rows.length := by rw [← HLM.out]; exact hiL
            rw [List.getElem?_map, List.getElem?_eq_getElem hl, List.getD_eq_getElem?_getD, List.getElem?_eq_getElem hl]; rfl
          rw [← hR, ← hrow]
          exact (below_next HB3.out (hlr.out.trans h)).cell (p := ⟨rb, ro + i, none⟩) hrb
        have HRi : Hid (strV (S.row (i : Int)) = .string R) := by rw [HE.out.g i hlt]; exact Lib.hid hR
        have HVr := Lib.hid (HV.out.next hlr.out)
        clear hR
        refine wp_region_meek [Stay.val (.agg (S.vals vc vk)), Stay.val (.int .i64 i), Stay.val (.string R), Stay.val (.pointer (some ⟨w.heap.size + 1, 3, none⟩)), Stay.val (.slice (some ⟨rb, ro, none⟩) L c3), Stay.val (.int .i64 i), Stay.val (.pointer (some ⟨rb, ro + i, none⟩)), Stay.val (.string R), Stay.val (.bool false)] 115 rfl (by kernel_rfl) (by kernel_rfl) ?_ ?_
        · refine ⟨meek_plain rfl (body_load _ _ _ _ rfl (opd_out 2 (by kernel_rfl) _ rfl) fun w' h => ⟨load_scr (hLc w' h), rfl⟩), ?_⟩
          refine ⟨meek_plain rfl (body_move _ rfl (opd_out 9 (by kernel_rfl) _ rfl)), ?_⟩
          refine ⟨meek_plain rfl (body_call2 _ _ _ _ _ _ rfl (by kernel_rfl) (opd_in 0 63 (by kernel_rfl)) (opd_in 1 64 (by kernel_rfl)) fun v u w' h hv hu => ?_), ?_⟩
          · obtain rfl := hv
            obtain rfl := hu
            refine (row_all _ S i _ (HVr.out.next h) HO.out).mono ?_
            rintro e w9 ⟨rfl, hb9⟩
            exact ⟨_, rfl, hb9, HRi.out⟩
          refine ⟨meek_plain rfl (body_one _ _ (.pointer (some ⟨w.heap.size + 1, 3, none⟩)) (opd_out 3 (by kernel_rfl) _ rfl) (fun _ => rfl) fun ρ w h1 => (by simp [execOp, h1, go_sem])), ?_⟩
          refine ⟨meek_plain rfl (body_load _ _ _ _ rfl (opd_in 3 66 (by kernel_rfl)) fun w' h => ⟨load_strs (cell_of_row _ _ _ _ _ _ (hLm w' h)), rfl⟩), ?_⟩
          refine ⟨meek_plain rfl (body_move _ rfl (opd_out 9 (by kernel_rfl) _ rfl)), ?_⟩
          refine ⟨meek_plain rfl (body_two _ _ _ _ (.pointer (some ⟨rb, ro + i, none⟩)) (opd_in 4 67 (by kernel_rfl)) (opd_in 5 68 (by kernel_rfl)) (fun _ => rfl) fun ρ w h1 h2 => (by exact idx_strs ρ w h1 h2 hiL)), ?_⟩
          refine ⟨meek_plain rfl (body_load _ _ _ _ rfl (opd_in 6 69 (by kernel_rfl)) fun w' h => ⟨load_str (hLr w' h), rfl⟩), ?_⟩
          refine ⟨meek_plain rfl (body_two _ _ _ _ (.bool false) (opd_in 2 65 (by kernel_rfl)) (opd_in 7 70 (by kernel_rfl)) (fun _ => rfl) fun ρ w h1 h2 => (by simp [execOp, h1, h2, go_sem])), ?_⟩
          exact trivial
        · intro g w5 h5 hend
          have e71 : g 71 = .bool false := meek_val hend 8 71 (by kernel_rfl) _ rfl
          clear hend hLc hLm hLr
          simp only [putAll, Act.put, List.setIfInBounds_toArray, List.set_cons_succ, List.set_cons_zero, e71]
          have HL5 : Hid (Later w3 w5) := hlr.out.trans h5
          clear e71 h5
          go_wp2_with fail
          go_roundw
          case rel => exact ⟨i + 1, by omega, by go_num, HL5.out⟩
          case measure => simp [intOf]; omega
      · obtain rfl : i = M.h := by omega
        have hd1 : decide ((M.h : Int) < (M.h : Int)) = false := by simp
        have HL6 := hlr
        go_wp2_with fail
        obtain ⟨wo, hwo⟩ : ∃ wo : World, wo = wr := ⟨_, rfl⟩
        rw [← hwo] at HL6 ⊢
        clear hwo hlr
        go_loopw [10] (fun iv wr => ∃ i : Nat, i ≤ K ∧ iv = .int .i64 i ∧ Hid (Later w3 wr)) (fun iv _ => K - (intOf iv).toNat)
        case atStart => exact ⟨0, Nat.zero_le _, rfl, HL6.out⟩
        case round =>
          clear HL6
          obtain ⟨i, hi2, rfl, hlr⟩ := hrel
          have hm4 : wr.cell? ⟨w.heap.size + 1, 4, none⟩ = some (.slice A4 K c4) := cell_of_row _ _ _ _ _ _ (HLm.out wr hlr.out)
          by_cases hiK : i < K
          · have hd2 : decide ((i : Int) < (K : Int)) = true := by simp; omega
            go_upto_region 13 with fail
            obtain ⟨kb, ko, hA4, hkb, hkc⟩ := HR4.out (by rw [← HKM.out]; omega)
            subst hA4
            have hiL : i < K := hiK
            have hLc : ∀ w', Later wr w' → w'.heap[w.heap.size]? = some (.cells (S.vals vc vk) 29 (0, 0)) := fun w' h => HLc.out w' (hlr.out.trans h)
            have hLm : ∀ w', Later wr w' → w'.heap[w.heap.size + 1]? = some (.cells (M.vals (.slice A3 L c3) (.slice (some ⟨kb, ko, none⟩) K c4)) 31 (0, 0)) := fun w' h => HLm.out w' (hlr.out.trans h)
            obtain ⟨R, hR⟩ : ∃ R : ByteArray, strV (M.kept.getD i []) = .string R := ⟨_, rfl⟩
            have hLr : ∀ w', Later wr w' → w'.cell? ⟨kb, ko + i, none⟩ = some (.string R) := fun w' h => by
              have hrow : w.cell? ⟨kb, ko + i, none⟩ = some (strV (M.kept.getD i [])) := by
                refine hkc i _ ?_
                have hl : i < M.kept.length := by rw [← HKM.out]; exact hiK
                rw [List.getElem?_map, List.getElem?_eq_getElem hl, List.getD_eq_getElem?_getD, List.getElem?_eq_getElem hl]; rfl
              rw [← hR, ← hrow]
              exact (below_next HB3.out (hlr.out.trans h)).cell (p := ⟨kb, ko + i, none⟩) hkb
            have HRi : Hid (strV (S.back ((K - i : Nat) : Int)) = .string R) := by
              unfold Scr.back
              rw [if_pos ⟨by omega, by rw [HKS.out]; omega⟩, HKS.out, HE.out.k, Int.toNat_natCast, show K - (K - i) = i from by omega]
              exact Lib.hid hR
            have HVr := Lib.hid (HV.out.next hlr.out)
            have HK5 : Hid (S.kept.length ≤ 100000) := by rw [HKS.out]; exact Lib.hid (by omega)
            clear hR hm4
            refine wp_region_meek [Stay.val (.agg (S.vals vc vk)), Stay.val (.pointer (some ⟨w.heap.size + 1, 4, none⟩)), Stay.val (.slice (some ⟨kb, ko, none⟩) K c4), Stay.val (.int .i64 K), Stay.val (.int .i64 i), Stay.val (.int .i64 (K - i : Nat)), Stay.val (.string R), Stay.val (.pointer (some ⟨w.heap.size + 1, 4, none⟩)), Stay.val (.slice (some ⟨kb, ko, none⟩) K c4), Stay.val (.int .i64 i), Stay.val (.pointer (some ⟨kb, ko + i, none⟩)), Stay.val (.string R), Stay.val (.bool false)] 115 rfl (by kernel_rfl) (by kernel_rfl) ?_ ?_
            · refine ⟨meek_plain rfl (body_load _ _ _ _ rfl (opd_out 2 (by kernel_rfl) _ rfl) fun w' h => ⟨load_scr (hLc w' h), rfl⟩), ?_⟩
              refine ⟨meek_plain rfl (body_one _ _ (.pointer (some ⟨w.heap.size + 1, 4, none⟩)) (opd_out 3 (by kernel_rfl) _ rfl) (fun _ => rfl) fun ρ w h1 => (by simp [execOp, h1, go_sem])), ?_⟩
              refine ⟨meek_plain rfl (body_load _ _ _ _ rfl (opd_in 1 80 (by kernel_rfl)) fun w' h => ⟨load_strs (cell_of_row _ _ _ _ _ _ (hLm w' h)), rfl⟩), ?_⟩
              refine ⟨meek_plain rfl (body_one _ _ (.int .i64 K) (opd_in 2 81 (by kernel_rfl)) (fun _ => rfl) fun ρ w h1 => (by simp [h1, go_sem])), ?_⟩
              refine ⟨meek_plain rfl (body_move _ rfl (opd_out 10 (by kernel_rfl) _ rfl)), ?_⟩
              refine ⟨meek_plain rfl (body_two _ _ _ _ (.int .i64 (K - i : Nat)) (opd_in 3 82 (by kernel_rfl)) (opd_in 4 83 (by kernel_rfl)) (fun _ => rfl) fun ρ w h1 h2 => (by simp [execOp, h1, h2, go_sem]; exact sub_wrap hiK hK64)), ?_⟩
              refine ⟨meek_plain rfl (body_call2 _ _ _ _ _ _ rfl (by kernel_rfl) (opd_in 0 79 (by kernel_rfl)) (opd_in 5 84 (by kernel_rfl)) fun v u w' h hv hu => ?_), ?_⟩
              · obtain rfl := hv
                obtain rfl := hu
                refine (back_any _ S _ _ (HVr.out.next h) HK5.out).mono ?_
                rintro e w9 ⟨rfl, hb9⟩
                exact ⟨_, rfl, hb9, HRi.out⟩
              refine ⟨meek_plain rfl (body_one _ _ (.pointer (some ⟨w.heap.size + 1, 4, none⟩)) (opd_out 3 (by kernel_rfl) _ rfl) (fun _ => rfl) fun ρ w h1 => (by simp [execOp, h1, go_sem])), ?_⟩
              refine ⟨meek_plain rfl (body_load _ _ _ _ rfl (opd_in 7 86 (by kernel_rfl)) fun w' h => ⟨load_strs (cell_of_row _ _ _ _ _ _ (hLm w' h)), rfl⟩), ?_⟩
              refine ⟨meek_plain rfl (body_move _ rfl (opd_out 10 (by kernel_rfl) _ rfl)), ?_⟩
              refine ⟨meek_plain rfl (body_two _ _ _ _ (.pointer (some ⟨kb, ko + i, none⟩)) (opd_in 8 87 (by kernel_rfl)) (opd_in 9 88 (by kernel_rfl)) (fun _ => rfl) fun ρ w h1 h2 => (by exact idx_strs ρ w h1 h2 hiL)), ?_⟩
              refine ⟨meek_plain rfl (body_load _ _ _ _ rfl (opd_in 10 89 (by kernel_rfl)) fun w' h => ⟨load_str (hLr w' h), rfl⟩), ?_⟩
              refine ⟨meek_plain rfl (body_two _ _ _ _ (.bool false) (opd_in 6 85 (by kernel_rfl)) (opd_in 11 90 (by kernel_rfl)) (fun _ => rfl) fun ρ w h1 h2 => (by simp [execOp, h1, h2, go_sem])), ?_⟩
              exact trivial
            · intro g w5 h5 hend
              have e91 : g 91 = .bool false := meek_val hend 12 91 (by kernel_rfl) _ rfl
              clear hend hLc hLm hLr
              simp only [putAll, Act.put, List.setIfInBounds_toArray, List.set_cons_succ, List.set_cons_zero, e91]
              have HL5 : Hid (Later w3 w5) := hlr.out.trans h5
              clear e91 h5
              go_wp2_with fail
              go_roundw
              case rel => exact ⟨i + 1, by omega, by go_num, HL5.out⟩
              case measure => simp [intOf]; omega
          · obtain rfl : i = K := by omega
            have hd2 : decide ((i : Int) < (i : Int)) = false := by simp
            go_upto_region 15 with fail
            have hLc : ∀ w', Later wr w' → w'.heap[w.heap.size]? = some (.cells (S.vals vc vk) 29 (0, 0)) := fun w' h => HLc.out w' (hlr.out.trans h)
            have hLm : ∀ w', Later wr w' → w'.heap[w.heap.size + 1]? = some (.cells (M.vals (.slice A3 L c3) (.slice A4 i c4)) 31 (0, 0)) := fun w' h => HLm.out w' (hlr.out.trans h)
            have HVr := Lib.hid (HV.out.next hlr.out)
            have HK5 : Hid (S.kept.length ≤ 100000) := by rw [HKS.out]; exact Lib.hid (by omega)
            have HRo : Hid (strV (S.row (M.h : Int)) = .string ⟨#[]⟩) := by rw [← HE.out.r]; exact Lib.hid (row_out2 S)
            have HBo : Hid (strV (S.back ((i + 1 : Nat) : Int)) = .string ⟨#[]⟩) := Lib.hid (back_out2 S _ (by rw [HKS.out]; omega))
            clear hm4
            refine wp_region_meek0 [Stay.val (.agg (S.vals vc vk)), Stay.val (.string ⟨#[]⟩), Stay.val (.bool true), Stay.val (.bool true), Stay.val (.agg (S.vals vc vk)), Stay.val (.int .i64 M.h), Stay.val (.string ⟨#[]⟩), Stay.val (.bool true), Stay.val (.bool true), Stay.val (.bool true), Stay.val (.agg (S.vals vc vk)), Stay.val (.string ⟨#[]⟩), Stay.val (.bool true), Stay.val (.bool true), Stay.val (.bool true), Stay.val (.agg (S.vals vc vk)), Stay.val (.pointer (some ⟨w.heap.size + 1, 4, none⟩)), Stay.val (.slice A4 i c4), Stay.val (.int .i64 i), Stay.val (.int .i64 (i + 1 : Nat)), Stay.val (.string ⟨#[]⟩), Stay.val (.bool true), Stay.val (.bool true), Stay.val (.bool true)] 115 rfl trivial (by kernel_rfl) ?_ ?_
            · refine ⟨meek_plain rfl (body_load _ _ _ _ rfl (opd_out 2 (by kernel_rfl) _ rfl) fun w' h => ⟨load_scr (hLc w' h), rfl⟩), ?_⟩
              refine ⟨meek_plain rfl (body_call2 _ _ _ _ _ _ rfl (by kernel_rfl) (opd_in 0 92 (by kernel_rfl)) (opd_const (.int IntKind.i64 (-1))) fun v u w' h hv hu => ?_), ?_⟩
              · obtain rfl := hv
                obtain rfl := hu
                refine (row_all _ S _ _ (HVr.out.next h) HO.out).mono ?_
                rintro e w9 ⟨rfl, hb9⟩
                exact ⟨_, rfl, hb9, row_out1 S⟩
              refine ⟨meek_plain rfl (body_two _ _ _ _ (.bool true) (opd_in 1 93 (by kernel_rfl)) (opd_const (.string { data := #[] })) (fun _ => rfl) fun ρ w h1 h2 => (by simp [execOp, h1, h2, go_sem])), ?_⟩
              refine ⟨meek_plain rfl (body_move _ rfl (opd_in 2 94 (by kernel_rfl))), ?_⟩
              refine ⟨meek_on 3 true 115 rfl (by kernel_rfl) (fun _ _ h => h) (body_load _ _ _ _ rfl (opd_out 2 (by kernel_rfl) _ rfl) fun w' h => ⟨load_scr (hLc w' h), rfl⟩), ?_⟩
              refine ⟨meek_on 3 true 115 rfl (by kernel_rfl) (fun _ _ h => h) (body_move _ rfl (opd_out 6 (by kernel_rfl) _ rfl)), ?_⟩
              refine ⟨meek_on 3 true 115 rfl (by kernel_rfl) (fun _ _ h => h) (body_call2 _ _ _ _ _ _ rfl (by kernel_rfl) (opd_in 4 96 (by kernel_rfl)) (opd_in 5 97 (by kernel_rfl)) fun v u w' h hv hu => ?_), ?_⟩
              · obtain rfl := hv
                obtain rfl := hu
                refine (row_all _ S _ _ (HVr.out.next h) HO.out).mono ?_
                rintro e w9 ⟨rfl, hb9⟩
                exact ⟨_, rfl, hb9, HRo.out⟩
              refine ⟨meek_on 3 true 115 rfl (by kernel_rfl) (fun _ _ h => h) (body_two _ _ _ _ (.bool true) (opd_in 6 98 (by kernel_rfl)) (opd_const (.string { data := #[] })) (fun _ => rfl) fun ρ w h1 h2 => (by simp [execOp, h1, h2, go_sem])), ?_⟩
              refine ⟨meek_plain rfl (body_pick _ _ _ true rfl (opd_in 3 95 (by kernel_rfl)) (opd_in 7 99 (by kernel_rfl))), ?_⟩
              refine ⟨meek_plain rfl (body_move _ rfl (opd_in 8 100 (by kernel_rfl))), ?_⟩
              refine ⟨meek_on 9 true 115 rfl (by kernel_rfl) (fun _ _ h => h) (body_load _ _ _ _ rfl (opd_out 2 (by kernel_rfl) _ rfl) fun w' h => ⟨load_scr (hLc w' h), rfl⟩), ?_⟩
              refine ⟨meek_on 9 true 115 rfl (by kernel_rfl) (fun _ _ h => h) (body_call2 _ _ _ _ _ _ rfl (by kernel_rfl) (opd_in 10 102 (by kernel_rfl)) (opd_const (.int .i64 0)) fun v u w' h hv hu => ?_), ?_⟩
              · obtain rfl := hv
                obtain rfl := hu
                refine (back_any _ S _ _ (HVr.out.next h) HK5.out).mono ?_
                rintro e w9 ⟨rfl, hb9⟩
                exact ⟨_, rfl, hb9, back_out1 S⟩
              refine ⟨meek_on 9 true 115 rfl (by kernel_rfl) (fun _ _ h => h) (body_two _ _ _ _ (.bool true) (opd_in 11 103 (by kernel_rfl)) (opd_const (.string { data := #[] })) (fun _ => rfl) fun ρ w h1 h2 => (by simp [execOp, h1, h2, go_sem])), ?_⟩
              refine ⟨meek_plain rfl (body_pick _ _ _ true rfl (opd_in 9 101 (by kernel_rfl)) (opd_in 12 104 (by kernel_rfl))), ?_⟩
              refine ⟨meek_plain rfl (body_move _ rfl (opd_in 13 105 (by kernel_rfl))), ?_⟩
              refine ⟨meek_on 14 true 115 rfl (by kernel_rfl) (fun _ _ h => h) (body_load _ _ _ _ rfl (opd_out 2 (by kernel_rfl) _ rfl) fun w' h => ⟨load_scr (hLc w' h), rfl⟩), ?_⟩
              refine ⟨meek_on 14 true 115 rfl (by kernel_rfl) (fun _ _ h => h) (body_one _ _ (.pointer (some ⟨w.heap.size + 1, 4, none⟩)) (opd_out 3 (by kernel_rfl) _ rfl) (fun _ => rfl) fun ρ w h1 => (by simp [execOp, h1, go_sem])), ?_⟩
              refine ⟨meek_on 14 true 115 rfl (by kernel_rfl) (fun _ _ h => h) (body_load _ _ _ _ rfl (opd_in 16 108 (by kernel_rfl)) fun w' h => ⟨load_strs (cell_of_row _ _ _ _ _ _ (hLm w' h)), rfl⟩), ?_⟩
              refine ⟨meek_on 14 true 115 rfl (by kernel_rfl) (fun _ _ h => h) (body_one _ _ (.int .i64 i) (opd_in 17 109 (by kernel_rfl)) (fun _ => rfl) fun ρ w h1 => (by simp [h1, go_sem])), ?_⟩
              refine ⟨meek_on 14 true 115 rfl (by kernel_rfl) (fun _ _ h => h) (body_two _ _ _ _ (.int .i64 (i + 1 : Nat)) (opd_in 18 110 (by kernel_rfl)) (opd_const (.int .i64 1)) (fun _ => rfl) fun ρ w h1 h2 => (by simp [execOp, h1, h2, go_sem]; exact add_wrap hK64)), ?_⟩
              refine ⟨meek_on 14 true 115 rfl (by kernel_rfl) (fun _ _ h => h) (body_call2 _ _ _ _ _ _ rfl (by kernel_rfl) (opd_in 15 107 (by kernel_rfl)) (opd_in 19 111 (by kernel_rfl)) fun v u w' h hv hu => ?_), ?_⟩
              · obtain rfl := hv
                obtain rfl := hu
                refine (back_any _ S _ _ (HVr.out.next h) HK5.out).mono ?_
                rintro e w9 ⟨rfl, hb9⟩
                exact ⟨_, rfl, hb9, HBo.out⟩
              refine ⟨meek_on 14 true 115 rfl (by kernel_rfl) (fun _ _ h => h) (body_two _ _ _ _ (.bool true) (opd_in 20 112 (by kernel_rfl)) (opd_const (.string { data := #[] })) (fun _ => rfl) fun ρ w h1 h2 => (by simp [execOp, h1, h2, go_sem])), ?_⟩
              refine ⟨meek_plain rfl (body_pick _ _ _ true rfl (opd_in 14 106 (by kernel_rfl)) (opd_in 21 113 (by kernel_rfl))), ?_⟩
              refine ⟨meek_plain rfl (body_assign _ rfl (opd_in 22 114 (by kernel_rfl))), ?_⟩
              exact trivial
            · intro g w5 h5 hend
              have e4 : g 4 = .bool true := meek_val hend 23 4 (by kernel_rfl) _ rfl
              clear hend hLc hLm
              simp only [putAll, Act.put, List.setIfInBounds_toArray, List.set_cons_succ, List.set_cons_zero, e4]
              clear e4
              go_wp2_with fail
              go_ret
              exact ⟨rfl, below_next (below_next HB3.out hlr.out) h5⟩
theorem same_yes (v u : Value) (S : Scr) (M : Ref) (w : World) (h : CV w v S) (hu : RV w u M) (ok : S.Ok) (okm : M.Ok) (eq : Eqv S M) :
    Calls Tryd.prog 16 #[v, u] w (ValPost w (.bool true)) := same_all v u S M w h hu (.inl ok) (.inl okm) eq
theorem same_zero (v u : Value) (w : World) (h : CV w v zeroScr) (hu : RV w u zeroRef) :
    Calls Tryd.prog 16 #[v, u] w (ValPost w (.bool true)) :=
  same_all v u zeroScr zeroRef w h hu (.inr rfl) (.inr rfl) ⟨rfl, rfl, rfl, rfl, rfl, fun i hi => absurd hi (Nat.not_lt_zero i)⟩
end Go.Proofs.YtiefpodmdpnppaaDoor
