/-
  WALKS: bytes.Repeat of one byte; cells.blanks.
-/
import Derived.Test.YtiefpodmdpnppaaDoorCelA
import Derived.Deep.RegionLaw
namespace Go.Proofs.YtiefpodmdpnppaaDoor
open Go.RowKit

def SrcIs (w : World) (b o : Nat) (xs : List Value) : Prop := ∀ j v, xs[j]? = some v → w.cell? ((⟨b, o, none⟩ : Addr).add j) = some v
def blankV : Value := .int .u8 32
/-- block g: N cells, the first k of them blank -/
def Blk (w : World) (g N k : Nat) : Prop := ∃ cur : List Value, w.heap[g]? = some (.cells cur.toArray 5 (0, 0)) ∧ cur.length = N ∧ cur.take k = List.replicate k blankV

theorem Blk.own {w : World} {g N n B : Nat} (h : Blk w g N n) (hB : B ≤ g) (hn : n ≤ N) (hm : n ≤ maxLen) : Own w B 5 1 (.slice (some ⟨g, 0, none⟩) n n) n (List.replicate n blankV) := by
  obtain ⟨cur, hg, hl, ht⟩ := h
  refine ⟨by simp, Or.inr ⟨g, 0, n, rfl, hB, ⟨_, _, hg⟩, Nat.le_refl _, hm, fun j hj => ?_, fun j u hu => ?_⟩⟩
  · rw [Nat.zero_add]
    refine ⟨?_, frozen_of_row _ _ _ _ _ hg⟩
    rw [cell_of_row _ _ _ _ _ _ hg, List.getElem?_toArray, List.getElem?_eq_getElem (by omega)]
    rfl
  · rw [Nat.zero_add, cell_of_row _ _ _ _ _ _ hg, List.getElem?_toArray]
    rw [← ht, List.getElem?_take] at hu
    split at hu
    · exact hu
    · cases hu
theorem Blk.step {w' : World} {g N k m : Nat} (cur : List Value) (hl : cur.length = N) (ht : cur.take k = List.replicate k blankV) (hkm : k + m ≤ N)
    (h : w'.heap[g]? = some (.cells (splice cur k (List.replicate m blankV)).toArray 5 (0, 0))) : Blk w' g N (k + m) := by
  refine ⟨_, h, by rw [length_splice _ _ _ (by rw [List.length_replicate]; omega)]; exact hl, ?_⟩
  unfold splice
  rw [ht, ← List.append_assoc, List.replicate_append_replicate, List.take_append_of_le_length (by rw [List.length_replicate]; exact Nat.le_refl _), List.take_of_length_le (by rw [List.length_replicate]; exact Nat.le_refl _)]

theorem info8s : (Tryd.prog.info? 5).map (·.size) = some 1 := by kernel_rfl

set_option maxRecDepth 100000 in
set_option maxHeartbeats 1000000 in
theorem repeat_blank (bb n : Nat) (w : World) (hbb : bb < w.heap.size) (hc : w.cell? ⟨bb, 0, none⟩ = some (.int .u8 32)) (h1 : 1 ≤ n) (hn : n ≤ 8192) :
    Calls Tryd.prog 53 #[.slice (some ⟨bb, 0, none⟩) 1 1, .int .i64 n] w (OwnPost w 5 n (List.replicate n blankV)) := by
  have t0 : ((n : Int) == 0) = false := by simp; omega
  have t1 : decide ((n : Int) < 0) = false := by simp
  have t2 : decide ((9223372036854775807 : Int) < (n : Int)) = false := by simp; omega
  have t3 : decide ((8192 : Int) < (n : Int)) = false := by simp; omega
  go_enter Tryd.func53, Tryd.ntmps53
  obtain ⟨cs, hrun, hle, hmax⟩ := Lib.run_makeNoZero (P := Tryd.prog) w #[3] 24 5 Tryd.underlying24 n (by omega)
  have hcall : (callFunc 68 #[.int .i64 (n : Int)]).run Tryd.prog w = .ok (.value (.slice (some ⟨w.heap.size, 0, none⟩) n cs.size)) (w.drew.drew.alloc (.cells cs 5)) := by
    rw [run_callFunc_extern Tryd.func68 (by kernel_rfl) (by kernel_rfl) (by kernel_rfl) (e := Extern.BytealgMakeNoZero.makeNoZero #[3] #[24]) (by kernel_rfl), hrun]
    rfl
  clear hrun
  go_wp2_with fail
  refine (Tryd.bitsMul1 n (by omega) w).mono ?_
  rintro e w1 ⟨rfl, rfl⟩
  have hmc : Hid (∀ j v, [blankV][j]? = some v → ((w.alloc (.cells cs 5)).drew.drew).cell? ((⟨bb, 0, none⟩ : Addr).add j) = some v) := by
    intro j v hj
    match j, hj with
    | 0, hj => simp at hj; subst hj; rw [add_none, Nat.add_zero]; exact (World.cell?_alloc_lt w _ ⟨bb, 0, none⟩ hbb).trans hc
  go_wp2_with (refine wpList_copy_splice rfl (.tmp 58) (.tmp 59) 24 24 rfl 5 Tryd.underlying24 info8s (some ⟨w.heap.size, 0, none⟩) (some ⟨bb, 0, none⟩) n n 1 1 rfl rfl w.heap.size 0 cs.toList 5 ?d1 [blankV] ?d2 ?d3 ?d4 ?d5 w.heap.size w ?d6 (Nat.le_refl _) ?_)
  case d1 => rw [Array.toArray_toList]; exact heap_alloc_new w _
  case d2 => show 1 = min 1 n; omega
  case d3 => first | exact fun _ => ⟨rfl, ⟨bb, 0, none⟩, rfl, hmc.out⟩ | exact fun j v hj => (by have := hmc.out j v hj; rw [add_none, Nat.zero_add] at this; exact (World.cell?_alloc_lt w _ ⟨bb, j, none⟩ hbb).symm.trans this)
  case d4 => simp; omega
  case d5 => intro v hv; simp at hv; subst hv; rfl
  case d6 => exact (((Below.refl _ _).alloc (Nat.le_refl _) _).drew).drew
  intro w2 hg2 hb2
  have hB2 : Hid (Blk w2 w.heap.size cs.size 1) := by
    have := Blk.step (w' := w2) (g := w.heap.size) (N := cs.size) (k := 0) (m := 1) cs.toList (by simp) (by simp) (by omega) (by simpa using hg2.out)
    rw [Nat.zero_add] at this
    exact this
  clear hcall hmc hg2
  go_wp2_with fail
  go_loopw [10, 11] (fun kv _ wr => ∃ k : Nat, 1 ≤ k ∧ k ≤ n ∧ kv = .int .i64 k ∧ Hid (Blk wr w.heap.size cs.size k) ∧ Below w.heap.size w wr) (fun kv _ _ => n - (intOf kv).toNat)
  case atStart => exact ⟨1, by omega, by omega, rfl, hB2, hb2⟩
  case round =>
    clear hB2 hb2
    obtain ⟨k, hk1, hk2, rfl, hB, hb⟩ := hrel
    by_cases hlt : k < n
    · have hmin : min (k : Int) (n : Int) = k := by omega
      have hnk : ¬ n = k := by omega
      obtain ⟨cur, hg0, hl0, ht0⟩ := hB.out
      have HG : Hid (wr.drew.heap[w.heap.size]? = some (.cells cur.toArray 5 (0, 0))) := hg0
      have HL0 := Lib.hid hl0; have HT0 := Lib.hid ht0
      clear hg0 hl0 ht0
      obtain ⟨m, hm⟩ : ∃ m : Nat, m = Nat.min k (n - k) := ⟨_, rfl⟩
      have hm1 : 1 ≤ m ∧ k + m ≤ n ∧ m ≤ k := by
        have : m = min k (n - k) := hm
        omega
      obtain ⟨hm1, hm2, hm3⟩ := hm1
      have HM := Lib.hid hm; clear hm
      have hdb : Hid (Below w.heap.size w wr.drew) := hb.drew
      have hpos : SrcIs wr.drew w.heap.size 0 (List.replicate m blankV) := by
        intro j v hj
        rw [add_none, Nat.zero_add, cell_of_row _ _ _ _ _ _ HG.out, List.getElem?_toArray]
        rw [List.getElem?_replicate] at hj
        split at hj
        · rename_i hjm
          have := HT0.out
          have e := congrArg (fun l => l[j]?) this
          simp only [List.getElem?_take, List.getElem?_replicate] at e
          rw [if_pos (by omega), if_pos (by omega)] at e
          rw [e]; exact hj
        · cases hj
      have hone : Hid (∀ v ∈ List.replicate m blankV, v.oneCell' = true) := by
        intro v hv
        rw [List.mem_replicate] at hv
        rw [hv.2]; rfl
      go_wp2_with fail
      go_region_law ((refine step_copy_splice rfl (.tmp 70) (.tmp 73) 24 24 rfl 5 Tryd.underlying24 info8s (some ⟨w.heap.size, k, none⟩) (some ⟨w.heap.size, 0, none⟩) (n - k) (n - k) k n (by simp [Act.eval, Act.put]) (by simp [Act.eval, Act.put]) w.heap.size k cur 5 HG.out (List.replicate m blankV) (by rw [List.length_replicate]; exact HM.out) (fun _ => ⟨rfl, _, rfl, hpos⟩) (by rw [List.length_replicate, HL0.out]; omega) hone.out w.heap.size w hdb.out (Nat.le_refl _) ?_; intro w4 hg4 hb4))
      have hB4 : Hid (Blk w4 w.heap.size cs.size (k + m)) := Blk.step cur HL0.out HT0.out (by omega) hg4.out
      clear hg4 HG
      have hwr : IntKind.i64.wrap ((k : Int) + (m : Int)) = (k : Int) + (m : Int) := IntWalk.i64_in _ (by omega)
      go_simp
      clear hwr
      go_wp2_with fail
      go_roundw
      case rel => exact ⟨k + m, by omega, by omega, by go_num, hB4, hb4⟩
      case measure => simp [intOf]; omega
    · obtain rfl : k = n := by omega
      have hown := hB.out.own (B := w.heap.size) (Nat.le_refl _) hle (by unfold maxLen; omega)
      go_wp2_with fail
      go_ret
      exact ⟨_, rfl, hown, hb⟩
end Go.Proofs.YtiefpodmdpnppaaDoor
