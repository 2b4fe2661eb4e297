/-
  WALKS of layer 56's document: Write.
-/
import Derived.Test.YtiefpodmdpnppaaDoorDocC
namespace Go.Proofs.YtiefpodmdpnppaaDoor
open Go.RowKit

theorem command_args (M : Ref) (e : Nat) : (M.command e).args = M.args := by
  have h1 : ∀ (N : Ref) (y a x : Nat), (N.erase y a x).args = N.args := fun N y a x => by unfold Ref.erase Ref.lay; split; rfl; split <;> rfl
  have h2 : ∀ (n k : Nat), (M.wipeTo n k).args = M.args := by
    intro n k
    induction k with
    | zero => rfl
    | succ k ih => unfold Ref.wipeTo; split; (rw [h1, ih]); exact ih
  unfold Ref.command
  repeat' split
  all_goals first | rfl | rw [h1, h2] | rw [h1]
theorem byte_args (M : Ref) (c : UInt8) : (M.byte c).args.length ≤ M.args.length + 1 := by
  have hd : M.down.args = M.args := by unfold Ref.down Ref.leave; split <;> rfl
  have hwa : ∀ k, (M.wipeAll k).args = M.args := by
    intro k
    induction k with
    | zero => rfl
    | succ k ih => unfold Ref.wipeAll Ref.erase Ref.lay; simp; exact ih
  unfold Ref.byte
  repeat' split
  all_goals first
    | (simp; done)
    | (unfold Ref.letter; split <;> (show (Ref.args _).length ≤ _; unfold Ref.lay; simp [hd]))
    | (rw [hd]; omega)
    | (show (M.wipeAll M.h).args.length ≤ _; rw [hwa]; omega)
    | (show M.args.length ≤ _; omega)
theorem bytes_args (M : Ref) (l : List UInt8) : (M.bytes l).args.length ≤ M.args.length + l.length := by
  unfold Ref.bytes
  induction l generalizing M with
  | nil => simp
  | cons c l ih =>
    have h1 := ih (M.byte c)
    have h2 := byte_args M c
    simp only [List.foldl_cons, List.length_cons]
    omega
theorem rbytes_snoc (M : Ref) (s : ByteArray) (i : Nat) (h : i < s.size) : M.bytes (s.data.toList.take (i + 1)) = (M.bytes (s.data.toList.take i)).byte (s.data.toList.getD i 0) := by
  unfold Ref.bytes
  have hl : i < s.data.toList.length := by simpa using h
  rw [List.take_succ_eq_append_getElem hl, List.foldl_append, List.getD_eq_getElem?_getD, List.getElem?_eq_getElem hl]
  rfl

set_option maxRecDepth 100000 in
set_option maxHeartbeats 1600000 in
theorem rwrite_walk (v : Value) (M : Ref) (s : ByteArray) (w : World) (h : RV w v M) (ok : M.Ok) (ha : M.args.length + s.size ≤ 100000) :
    Calls Tryd.prog 17 #[v, .string s] w (RVPost w (M.bytes s.data.toList)) := by
  obtain ⟨vr, vk, rfl, h1, h2⟩ := h
  have H1 := Lib.hid h1; have H2 := Lib.hid h2
  have HO := Lib.hid ok
  clear h1 h2 ok
  obtain ⟨W, hW⟩ : ∃ W, W = (w.alloc (.cells (M.vals vr vk) 31)).alloc (.cells #[.int .i64 0, .int .i64 0, .int .i64 0, .slice none 0 0, .slice none 0 0, .int .i64 0, .int .i64 0, .int .i64 0, .string ⟨#[]⟩] 31) := ⟨_, rfl⟩
  have hWx : W.heap[w.heap.size]? = some (.cells (M.vals vr vk) 31 (0, 0)) := by rw [hW]; exact alloc2_fst _ _ _
  have hWy : W.heap[w.heap.size + 1]? = some (.cells (zeroRef.vals nilS nilS) 31 (0, 0)) := by rw [hW]; exact alloc2_snd _ _ _
  have hWb : Below w.heap.size w W := by rw [hW]; exact below_alloc2 _ _ _
  have HW := Lib.hid hW; have HX := Lib.hid hWx; have HY := Lib.hid hWy; have HB := Lib.hid hWb
  clear hW hWx hWy hWb
  go_enter Tryd.func17, Tryd.ntmps17
  go_upto_region 1 with fail
  rw [← HW.out]
  clear HW
  go_wp2_with fail
  go_loopw [5] (fun iv wr => ∃ k : Nat, k ≤ s.size ∧ iv = .int .i64 k ∧ Hid (RB wr w.heap.size (M.bytes (s.data.toList.take k))) ∧ Hid (wr.heap[w.heap.size + 1]? = some (.cells (zeroRef.vals nilS nilS) 31 (0, 0))) ∧ Hid (Below w.heap.size w wr)) (fun iv _ => s.size - (intOf iv).toNat)
  case atStart => exact ⟨0, Nat.zero_le _, rfl, ⟨_, _, HX.out, H1.out.next HB.out, H2.out.next HB.out⟩, HY.out, HB.out⟩
  case round =>
    obtain ⟨k, hk, rfl, hRB, HYr, HBr⟩ := hrel
    obtain ⟨vr', vk', hxr, hr1, hr2⟩ := hRB.out
    obtain ⟨N, hN⟩ : ∃ N : Ref, N = M.bytes (s.data.toList.take k) := ⟨_, rfl⟩
    have HNN := Lib.hid hN
    rw [← hN] at hxr hr1 hr2
    clear hN hRB
    have hOk : N.Ok := by rw [HNN.out]; exact HO.out.bytes _
    have hargs : N.args.length ≤ 100000 := by
      rw [HNN.out]
      refine Nat.le_trans (bytes_args _ _) ?_
      have : (s.data.toList.take k).length ≤ k := List.length_take_le _ _
      omega
    obtain ⟨n5, hn5⟩ : ∃ n : Nat, n = N.rows.length := ⟨_, rfl⟩
    obtain ⟨n6, hn6⟩ : ∃ n : Nat, n = N.kept.length := ⟨_, rfl⟩
    rw [← hn5] at hr1
    rw [← hn6] at hr2
    have h31 := hr1.1; have h41 := hr2.1
    obtain ⟨-, A5, c5, rfl, -, -, -, -⟩ := h31
    obtain ⟨-, A6, c6, rfl, -, -, -, -⟩ := h41
    have HL5 := Lib.hid hn5; have HL6 := Lib.hid hn6
    have o0 : wr.cell? ⟨w.heap.size, 0, none⟩ = some (.int .i64 N.w) := cell_of_row _ _ _ _ _ _ hxr
    have o1 : wr.cell? ⟨w.heap.size, 1, none⟩ = some (.int .i64 N.h) := cell_of_row _ _ _ _ _ _ hxr
    have o2 : wr.cell? ⟨w.heap.size, 2, none⟩ = some (.int .i64 N.most) := cell_of_row _ _ _ _ _ _ hxr
    have o3 : wr.cell? ⟨w.heap.size, 3, none⟩ = some (.slice A5 n5 c5) := cell_of_row _ _ _ _ _ _ hxr
    have o4 : wr.cell? ⟨w.heap.size, 4, none⟩ = some (.slice A6 n6 c6) := cell_of_row _ _ _ _ _ _ hxr
    have o5 : wr.cell? ⟨w.heap.size, 5, none⟩ = some (.int .i64 N.x) := cell_of_row _ _ _ _ _ _ hxr
    have o6 : wr.cell? ⟨w.heap.size, 6, none⟩ = some (.int .i64 N.y) := cell_of_row _ _ _ _ _ _ hxr
    have o7 : wr.cell? ⟨w.heap.size, 7, none⟩ = some (.int .i64 N.begun) := cell_of_row _ _ _ _ _ _ hxr
    have o8 : wr.cell? ⟨w.heap.size, 8, none⟩ = some (.string (bs N.args)) := cell_of_row _ _ _ _ _ _ hxr
    have HXr := Lib.hid hxr; have HR1 := Lib.hid hr1; have HR2 := Lib.hid hr2; have HOk := Lib.hid hOk; have HArg := Lib.hid hargs
    clear hn5 hn6 hxr hr1 hr2 hOk hargs
    by_cases hlt : k < s.size
    · have hx := idx_str Tryd.underlying9 s k (k : Int) rfl hlt
      have HSn := Lib.hid (rbytes_snoc M s k hlt)
      obtain ⟨c, hc⟩ : ∃ c : UInt8, c = s.data.toList.getD k 0 := ⟨_, rfl⟩
      rw [← hc] at hx HSn
      clear hc
      go_wp2_with fail
      go_still_tail 4, (by kernel_rfl)
      change wpList _ _ _ _ _ wr.drew
      go_wp2_with fail
      refine (byte_walk (.agg (N.vals (.slice A5 n5 c5) (.slice A6 n6 c6))) N c _ (by exact ⟨_, _, rfl, by rw [← HL5.out]; exact HR1.out.next (below_self_drew _ _), by rw [← HL6.out]; exact HR2.out.next (below_self_drew _ _)⟩) HOk.out HArg.out).mono ?_
      rintro e w5 ⟨v5, rfl, ⟨vr5, vk5, rfl, h15, h25⟩, hb5⟩
      have h35 := h15.1; have h45 := h25.1
      obtain ⟨-, A7, c7, rfl, -, -, -, -⟩ := h35
      obtain ⟨-, A8, c8, rfl, -, -, -, -⟩ := h45
      obtain ⟨K, hK⟩ : ∃ K : Ref, K = N.byte c := ⟨_, rfl⟩
      rw [← hK] at h15 h25
      have hv : Ref.vals (N.byte c) (.slice A7 (N.byte c).rows.length c7) (.slice A8 (N.byte c).kept.length c8) = #[.int .i64 K.w, .int .i64 K.h, .int .i64 K.most, .slice A7 K.rows.length c7, .slice A8 K.kept.length c8, .int .i64 K.x, .int .i64 K.y, .int .i64 K.begun, .string (bs K.args)] := by rw [← hK]; rfl
      rw [hv]
      clear hv
      have HM2 : Hid (M.bytes (s.data.toList.take (k + 1)) = K) := by rw [hK, HSn.out, HNN.out]; exact Lib.hid rfl
      have hx5 : w5.heap[w.heap.size]? = some (.cells (N.vals (.slice A5 n5 c5) (.slice A6 n6 c6)) 31 (0, 0)) := (hb5.block _ (block_lt (w := wr) HXr.out)).trans HXr.out
      have hy5 : w5.heap[w.heap.size + 1]? = some (.cells (zeroRef.vals nilS nilS) 31 (0, 0)) := (hb5.block _ (block_lt (w := wr) HYr.out)).trans HYr.out
      have hbw5 : Below w.heap.size w w5 := below_next (below_drew HBr.out) hb5
      have hs5 : w.heap.size + 2 ≤ w5.heap.size := by have := block_lt hy5; omega
      have p0 : w5.cell? ⟨w.heap.size, 0, none⟩ = some (.int .i64 N.w) := cell_of_row _ _ _ _ _ _ hx5
      have p1 : w5.cell? ⟨w.heap.size, 1, none⟩ = some (.int .i64 N.h) := cell_of_row _ _ _ _ _ _ hx5
      have p2 : w5.cell? ⟨w.heap.size, 2, none⟩ = some (.int .i64 N.most) := cell_of_row _ _ _ _ _ _ hx5
      have p3 : w5.cell? ⟨w.heap.size, 3, none⟩ = some (.slice A5 n5 c5) := cell_of_row _ _ _ _ _ _ hx5
      have p4 : w5.cell? ⟨w.heap.size, 4, none⟩ = some (.slice A6 n6 c6) := cell_of_row _ _ _ _ _ _ hx5
      have p5 : w5.cell? ⟨w.heap.size, 5, none⟩ = some (.int .i64 N.x) := cell_of_row _ _ _ _ _ _ hx5
      have p6 : w5.cell? ⟨w.heap.size, 6, none⟩ = some (.int .i64 N.y) := cell_of_row _ _ _ _ _ _ hx5
      have p7 : w5.cell? ⟨w.heap.size, 7, none⟩ = some (.int .i64 N.begun) := cell_of_row _ _ _ _ _ _ hx5
      have p8 : w5.cell? ⟨w.heap.size, 8, none⟩ = some (.string (bs N.args)) := cell_of_row _ _ _ _ _ _ hx5
      have u0 : w5.frozen? ⟨w.heap.size, 0, none⟩ = false := frozen_of_row _ _ _ _ _ hx5
      have u1 : w5.frozen? ⟨w.heap.size, 1, none⟩ = false := frozen_of_row _ _ _ _ _ hx5
      have u2 : w5.frozen? ⟨w.heap.size, 2, none⟩ = false := frozen_of_row _ _ _ _ _ hx5
      have u3 : w5.frozen? ⟨w.heap.size, 3, none⟩ = false := frozen_of_row _ _ _ _ _ hx5
      have u4 : w5.frozen? ⟨w.heap.size, 4, none⟩ = false := frozen_of_row _ _ _ _ _ hx5
      have u5 : w5.frozen? ⟨w.heap.size, 5, none⟩ = false := frozen_of_row _ _ _ _ _ hx5
      have u6 : w5.frozen? ⟨w.heap.size, 6, none⟩ = false := frozen_of_row _ _ _ _ _ hx5
      have u7 : w5.frozen? ⟨w.heap.size, 7, none⟩ = false := frozen_of_row _ _ _ _ _ hx5
      have u8 : w5.frozen? ⟨w.heap.size, 8, none⟩ = false := frozen_of_row _ _ _ _ _ hx5
      have g1 := grown_setCells w5 w.heap.size 0 (K.vals (.slice A7 K.rows.length c7) (.slice A8 K.kept.length c8)).toList
      have Q1 := Lib.hid (ref_over hx5 K (.slice A7 K.rows.length c7) (.slice A8 K.kept.length c8))
      have Q2 := Lib.hid (h15.ne hx5 (by decide) g1)
      have Q3 := Lib.hid (h25.ne hx5 (by decide) g1)
      have Q4 := Lib.hid ((g1.block (w.heap.size + 1) (by omega) (fun he => by injection he with he; omega)).trans hy5)
      have Q5 := Lib.hid (hbw5.grown g1 (by omega) (fun q hq => by injection hq with hq; omega))
      clear hx5 hy5 hbw5 h15 h25 hb5 hK g1
      go_wp2_with fail
      go_roundw
      case rel =>
        refine ⟨k + 1, by omega, by go_num, ?_, Q4.out, Q5.out⟩
        rw [HM2.out]
        exact ⟨_, _, Q1.out, Q2.out, Q3.out⟩
      case measure => simp [intOf]; omega
    · obtain rfl : k = s.size := by omega
      have hs5 : w.heap.size + 2 ≤ wr.heap.size := by have := block_lt HYr.out; omega
      have HF : Hid (M.bytes s.data.toList = N) := by rw [HNN.out, List.take_of_length_le (by simp)]; exact Lib.hid rfl
      have dd0 : wr.cell? ⟨w.heap.size + 1, 0, none⟩ = some (.int .i64 0) := cell_of_row _ _ _ _ _ _ HYr.out
      have dd1 : wr.cell? ⟨w.heap.size + 1, 1, none⟩ = some (.int .i64 0) := cell_of_row _ _ _ _ _ _ HYr.out
      have dd2 : wr.cell? ⟨w.heap.size + 1, 2, none⟩ = some (.int .i64 0) := cell_of_row _ _ _ _ _ _ HYr.out
      have dd3 : wr.cell? ⟨w.heap.size + 1, 3, none⟩ = some (.slice none 0 0) := cell_of_row _ _ _ _ _ _ HYr.out
      have dd4 : wr.cell? ⟨w.heap.size + 1, 4, none⟩ = some (.slice none 0 0) := cell_of_row _ _ _ _ _ _ HYr.out
      have dd5 : wr.cell? ⟨w.heap.size + 1, 5, none⟩ = some (.int .i64 0) := cell_of_row _ _ _ _ _ _ HYr.out
      have dd6 : wr.cell? ⟨w.heap.size + 1, 6, none⟩ = some (.int .i64 0) := cell_of_row _ _ _ _ _ _ HYr.out
      have dd7 : wr.cell? ⟨w.heap.size + 1, 7, none⟩ = some (.int .i64 0) := cell_of_row _ _ _ _ _ _ HYr.out
      have dd8 : wr.cell? ⟨w.heap.size + 1, 8, none⟩ = some (.string ⟨#[]⟩) := cell_of_row _ _ _ _ _ _ HYr.out
      have zz0 : wr.frozen? ⟨w.heap.size + 1, 0, none⟩ = false := frozen_of_row _ _ _ _ _ HYr.out
      have zz1 : wr.frozen? ⟨w.heap.size + 1, 1, none⟩ = false := frozen_of_row _ _ _ _ _ HYr.out
      have zz2 : wr.frozen? ⟨w.heap.size + 1, 2, none⟩ = false := frozen_of_row _ _ _ _ _ HYr.out
      have zz3 : wr.frozen? ⟨w.heap.size + 1, 3, none⟩ = false := frozen_of_row _ _ _ _ _ HYr.out
      have zz4 : wr.frozen? ⟨w.heap.size + 1, 4, none⟩ = false := frozen_of_row _ _ _ _ _ HYr.out
      have zz5 : wr.frozen? ⟨w.heap.size + 1, 5, none⟩ = false := frozen_of_row _ _ _ _ _ HYr.out
      have zz6 : wr.frozen? ⟨w.heap.size + 1, 6, none⟩ = false := frozen_of_row _ _ _ _ _ HYr.out
      have zz7 : wr.frozen? ⟨w.heap.size + 1, 7, none⟩ = false := frozen_of_row _ _ _ _ _ HYr.out
      have zz8 : wr.frozen? ⟨w.heap.size + 1, 8, none⟩ = false := frozen_of_row _ _ _ _ _ HYr.out
      go_wp2_with fail
      rw [HF.out]
      refine bodyPost_ret (v := .agg (N.vals (.slice A5 n5 c5) (.slice A6 n6 c6))) (by simp [results, Tryd.results17, go_sem, Ref.vals, dd0, dd1, dd2, dd3, dd4, dd5, dd6, dd7, dd8]) rfl ⟨_, rfl, ⟨_, _, rfl, ?_, ?_⟩, ?_⟩
      · rw [← HL5.out]
        exact HR1.out.two HXr.out HYr.out (by decide) (by repeat (first | with_reducible exact Two.refl _ _ | with_reducible refine Two.setA ?_ _ _ | with_reducible refine Two.setC ?_ _ _))
      · rw [← HL6.out]
        exact HR2.out.two HXr.out HYr.out (by decide) (by repeat (first | with_reducible exact Two.refl _ _ | with_reducible refine Two.setA ?_ _ _ | with_reducible refine Two.setC ?_ _ _))
      · exact (by repeat (first | with_reducible exact HBr.out | with_reducible refine below_setG ?_ _ (by omega) _ _))
end Go.Proofs.YtiefpodmdpnppaaDoor
