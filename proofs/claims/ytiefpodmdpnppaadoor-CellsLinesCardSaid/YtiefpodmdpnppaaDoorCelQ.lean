/-
  WALK of layer 56: Resize.
-/
import Derived.Test.YtiefpodmdpnppaaDoorCelP
namespace Go.Proofs.YtiefpodmdpnppaaDoor
open Go.RowKit

def cellY (w : World) (b : Nat) : Nat := (intOf ((w.cell? ⟨b, 4, none⟩).getD undef)).toNat
theorem CBat.cellY {w : World} {B b : Nat} {S : Scr} {vc vk : Value} (h : CBat w B b S vc vk) : cellY w b = S.y := by
  unfold Proofs.YtiefpodmdpnppaaDoor.cellY
  rw [show w.cell? ⟨b, 4, none⟩ = some (.int .i64 S.y) from h.cell 4]
  simp [intOf]

theorem byteCells_splice (a y : List UInt8) (i j : Nat) : Lib.byteCells (a.take i ++ (y ++ a.drop j)) = (Lib.byteCells a).take i ++ (Lib.byteCells y ++ (Lib.byteCells a).drop j) := by
  unfold Lib.byteCells
  rw [List.map_append, List.map_append, List.map_take, List.map_drop]
/-- but for two blocks all is as it was -/
def Two (b : Nat) (w w' : World) : Prop := ∀ k, k ≠ b → k ≠ b + 1 → w'.heap[k]? = w.heap[k]?
theorem Two.setA {b : Nat} {a w : World} (h : Two b a w) (j : Nat) (u : Value) : Two b a (w.setCell ⟨b, j, none⟩ u) :=
  fun k h1 h2 => (Below.heap_setCell _ _ _ _ h1).trans (h k h1 h2)
theorem Two.cells {b : Nat} {a w : World} (h : Two b a w) (o : Nat) (vs : List Value) : Two b a (w.setCells (b + 1) o vs) := by
  intro k h1 h2
  refine Eq.trans ?_ (h k h1 h2)
  rcases Nat.lt_or_ge k w.heap.size with hlt | hge
  · exact (grown_setCells w (b + 1) o vs).block k hlt (fun e => h2 (by injection e))
  · rw [Array.getElem?_eq_none hge, Array.getElem?_eq_none (by rw [size_setCells]; exact hge)]
theorem Own.two {w w' : World} {B b : Nat} {e : TypeId} {k n : Nat} {v : Value} {xs : List Value} (h : Own w B e k v n xs) (hB : b + 2 ≤ B) (ht : Two b w w') : Own w' B e k v n xs := by
  refine ⟨h.1, ?_⟩
  rcases h.2 with h0 | ⟨g, o, c, hv, ho⟩
  · exact Or.inl h0
  · have := ho.base
    exact Or.inr ⟨g, o, c, hv, ho.keep (ht g (by omega) (by omega))⟩
theorem below_set4 (w : World) (b : Nat) (j1 j2 j3 j4 : Nat) (u1 u2 u3 u4 : Value) (o : Nat) (vs : List Value) (hb : b + 2 ≤ w.heap.size) : Below b w (((((w.setCell ⟨b, j1, none⟩ u1).setCell ⟨b, j2, none⟩ u2).setCell ⟨b, j3, none⟩ u3).setCell ⟨b, j4, none⟩ u4).setCells (b + 1) o vs) :=
  (((((Below.refl b w).setCell (p := ⟨b, j1, none⟩) (Nat.le_refl _) u1).setCell (p := ⟨b, j2, none⟩) (Nat.le_refl _) u2).setCell (p := ⟨b, j3, none⟩) (Nat.le_refl _) u3).setCell (p := ⟨b, j4, none⟩) (Nat.le_refl _) u4).grown (grown_setCells _ (b + 1) o vs) (by simp; omega) (fun q hq => by injection hq with hq; omega)
theorem two_set4 (w : World) (b : Nat) (j1 j2 j3 j4 : Nat) (u1 u2 u3 u4 : Value) (o : Nat) (vs : List Value) : Two b w (((((w.setCell ⟨b, j1, none⟩ u1).setCell ⟨b, j2, none⟩ u2).setCell ⟨b, j3, none⟩ u3).setCell ⟨b, j4, none⟩ u4).setCells (b + 1) o vs) :=
  ((((Two.setA (fun _ _ _ => rfl) j1 u1).setA j2 u2).setA j3 u3).setA j4 u4).cells o vs

set_option maxRecDepth 100000 in
set_option maxHeartbeats 1600000 in
theorem resize_yes (v : Value) (S : Scr) (c r : Nat) (w : World) (h : CV w v S) (ok : S.Ok) (q1 : 1 ≤ c) (q2 : c ≤ 128) (q3 : 1 ≤ r) (q4 : r ≤ 64) :
    Calls Tryd.prog 20 #[v, .int .i64 c, .int .i64 r] w (NewPost w (S.resize c r) 0) := by
  obtain ⟨vc, vk, rfl, h1, h2, h3, h4⟩ := h
  have hc0 : ((S.cols : Int) == 0) = false := by have := ok.c1; simp; omega
  have hg2 := ok.g2
  have hfit : fitsB (c : Int) (r : Int) = true := by unfold fitsB; simp; omega
  have H1 := Lib.hid h1; have H2 := Lib.hid h2; have H3 := Lib.hid h3; have H4 := Lib.hid h4; have HO := Lib.hid ok; have HF := Lib.hid hfit
  clear h1 h2 h3 h4 ok hfit
  unfold Scr.vals
  go_enter Tryd.func20, Tryd.ntmps20
  go_wp2_with fail
  refine (fits_any _ _ _).mono ?_
  rintro e w' ⟨rfl, rfl⟩
  rw [HF.out]
  go_wp2_with fail
  refine (clone8_any vc S.grid.length (Lib.byteCells S.grid) _ (by exact H1.out.next (below_alloc2 _ _ _)) (byte_one _) (by omega) H3.out).mono ?_
  rintro e w1 ⟨v1, rfl, hown1, hb1⟩
  have hx1 : w1.heap[w.heap.size]? = some (.cells (S.vals vc vk) 29 (0, 0)) := (hb1.block w.heap.size (by simp <;> omega)).trans (alloc2_fst _ _ _)
  have hy1 : w1.heap[w.heap.size + 1]? = some (.cells (zeroScr.vals nilS nilS) 29 (0, 0)) := (hb1.block (w.heap.size + 1) (by simp <;> omega)).trans (alloc2_snd _ _ _)
  have hbw1 : Below w.heap.size w w1 := below_next (below_alloc2 _ _ _) hb1
  have hc5 : w1.cell? ⟨w.heap.size, 5, none⟩ = some vc := cell_of_row _ _ _ _ _ _ hx1
  have hf5 : w1.frozen? ⟨w.heap.size, 5, none⟩ = false := frozen_of_row _ _ _ _ _ hx1
  have hc6 : w1.cell? ⟨w.heap.size, 6, none⟩ = some vk := cell_of_row _ _ _ _ _ _ hx1
  rw [show ((w.alloc _).alloc _).heap.size = w.heap.size + 2 from by simp] at hown1
  obtain ⟨_, A1, c1, rfl, _, _, _, _⟩ := hown1.rd
  have HX1 := Lib.hid hx1; have HY1 := Lib.hid hy1; have HB1 := Lib.hid hbw1; have HW1 := Lib.hid hown1
  clear hx1 hy1 hbw1 hown1 hb1
  go_wp2_with fail
  have hbs : Below w.heap.size w (w1.setCell ⟨w.heap.size, 5, none⟩ (.slice A1 S.grid.length c1)) := HB1.out.setCell (p := ⟨w.heap.size, 5, none⟩) (Nat.le_refl _) _
  have hkl : S.kept.length ≤ 65536 := by have := HO.out.k; have := HO.out.m; omega
  refine (cloneS_any vk S.kept.length (S.kept.map strV) _ (by exact H2.out.next hbs) (strV_one _) hkl H4.out).mono ?_
  rintro e w2 ⟨v2, rfl, hown2, hb2⟩
  obtain ⟨_, A2, c2, rfl, _, _, _, _⟩ := hown2.rd
  have hsz : (w1.setCell ⟨w.heap.size, 5, none⟩ (.slice A1 S.grid.length c1)).heap.size = w1.heap.size := by simp
  have hsz1 : w.heap.size + 2 ≤ w1.heap.size := by
    rcases Nat.lt_or_ge (w.heap.size + 1) w1.heap.size with hlt | hge
    · omega
    · have := HY1.out; rw [Array.getElem?_eq_none hge] at this; cases this
  rw [hsz] at hb2 hown2
  have hx2 : w2.heap[w.heap.size]? = some (.cells (S.vals (.slice A1 S.grid.length c1) vk) 29 (0, 0)) := by
    rw [hb2.block w.heap.size (by omega), heap_setCell_same w1 _ 5 _ _ _ HX1.out]; rfl
  have hy2 : w2.heap[w.heap.size + 1]? = some (.cells (zeroScr.vals nilS nilS) 29 (0, 0)) := by
    rw [hb2.block (w.heap.size + 1) (by omega), Below.heap_setCell _ _ _ _ (by show w.heap.size + 1 ≠ w.heap.size; omega)]; exact HY1.out
  have ho2 : Own w2 (w.heap.size + 2) 5 1 (.slice A1 S.grid.length c1) S.grid.length (Lib.byteCells S.grid) := (own_ne HW1.out HX1.out (by decide) (grown_setCell w1 w.heap.size 5 (.slice A1 S.grid.length c1))).next (by rw [hsz]; exact hb2)
  have hC : CBat (w2.setCell ⟨w.heap.size, 6, none⟩ (.slice A2 S.kept.length c2)) (w.heap.size + 2) w.heap.size S (.slice A1 S.grid.length c1) (.slice A2 S.kept.length c2) := by
    refine ⟨by rw [heap_setCell_same w2 _ 6 _ _ _ hx2]; rfl, own_ne ho2 hx2 (by decide) (grown_setCell w2 _ 6 (.slice A2 S.kept.length c2)), own_ne (hown2.base hsz1) hx2 (by decide) (grown_setCell w2 _ 6 (.slice A2 S.kept.length c2))⟩
  have hy3 : (w2.setCell ⟨w.heap.size, 6, none⟩ (.slice A2 S.kept.length c2)).heap[w.heap.size + 1]? = some (.cells (zeroScr.vals nilS nilS) 29 (0, 0)) := by
    rw [Below.heap_setCell _ _ _ _ (by show w.heap.size + 1 ≠ w.heap.size; omega)]; exact hy2
  have hb3 : Below w.heap.size w (w2.setCell ⟨w.heap.size, 6, none⟩ (.slice A2 S.kept.length c2)) := (hbs.trans (hb2.mono (by omega))).setCell (p := ⟨w.heap.size, 6, none⟩) (Nat.le_refl _) _
  have hs3 : w.heap.size + 2 ≤ (w2.setCell ⟨w.heap.size, 6, none⟩ (.slice A2 S.kept.length c2)).heap.size := by have := hb2.size; simp at this ⊢; omega
  have hc6 : w2.cell? ⟨w.heap.size, 6, none⟩ = some vk := cell_of_row _ _ _ _ _ _ hx2
  have hf6 : w2.frozen? ⟨w.heap.size, 6, none⟩ = false := frozen_of_row _ _ _ _ _ hx2
  obtain ⟨w3, hw3⟩ : ∃ w3, w3 = w2.setCell ⟨w.heap.size, 6, none⟩ (.slice A2 S.kept.length c2) := ⟨_, rfl⟩
  rw [← hw3] at hC hy3 hb3 hs3
  have HC := Lib.hid hC; have HY3 := Lib.hid hy3; have HB3 := Lib.hid hb3; have HW3 := Lib.hid hw3
  clear hC hy3 hb3 hw3 hbs hkl hown2 hb2 hsz hsz1 hx2 hy2 ho2 HX1 HY1 HB1 HW1 H1 H2 H3 H4
  go_wp2_with fail
  rw [← HW3.out]
  clear HW3 hc6 hf6
  go_loopw [28] (fun _ wr => ∃ i : Nat, i ≤ S.y + 1 - r ∧ Hid (CB wr (w.heap.size + 2) w.heap.size (Scr.leaves i S)) ∧ Hid (Bx (w.heap.size + 2) w.heap.size w3 wr)) (fun _ wr => cellY wr w.heap.size)
  case atStart => exact ⟨0, Nat.zero_le _, ⟨_, _, HC.out⟩, Bx.refl _ _ _⟩
  case round =>
    obtain ⟨i, hi, hC, hb⟩ := hrel
    obtain ⟨T, hT⟩ : ∃ T : Scr, T = Scr.leaves i S := ⟨_, rfl⟩
    have okT : T.Ok := by rw [hT]; exact HO.out.leaves _
    have hTy : T.y = S.y - i := by rw [hT]; exact leaves_y i S
    have HS : Hid (Scr.leaves (i + 1) S = T.leave) := by rw [hT]; exact leaves_succ i S
    rw [← hT] at hC
    obtain ⟨vc3, vk3, hC⟩ := hC.out
    have c4 : wr.cell? ⟨w.heap.size, 4, none⟩ = some (.int .i64 T.y) := hC.cell 4
    have hBr : w.heap.size + 2 ≤ wr.heap.size := Nat.le_trans hs3 hb.out.size
    have HM := Lib.hid hC.cellY
    by_cases hge : r ≤ T.y
    · have hy64 : T.y ≤ 64 := by have := okT.y; have := okT.r2; omega
      have hii : i + 1 ≤ S.y + 1 - r := by omega
      have hd : decide ((T.y : Int) ≥ (r : Int)) = true := by simp; omega
      have HC3 := Lib.hid hC; have HT := Lib.hid okT
      clear hC okT hT hTy
      go_wp2_with fail
      refine (scroll_walk (w.heap.size + 2) w.heap.size T _ ⟨_, _, HC3.out⟩ hBr HT.out).mono ?_
      rintro e w4 ⟨rfl, ⟨vc4, vk4, h4⟩, hb4⟩
      have c44 : w4.cell? ⟨w.heap.size, 4, none⟩ = some (.int .i64 T.y) := by rw [← Scr.scroll_y T]; exact h4.cell 4
      have f44 := h4.frozen 4
      have h5 := h4.set 4 (.int .i64 ((T.y - 1 : Nat) : Int)) (S' := T.leave) rfl rfl rfl
      have HM5 := Lib.hid h5.cellY
      have H5 := Lib.hid h5; have HB4 := Lib.hid hb4
      clear h4 hb4 h5
      go_wp2_with fail
      rw [show (T.y : Int) - 1 = ((T.y - 1 : Nat) : Int) from by omega]
      go_roundw
      case rel => exact ⟨i + 1, hii, by rw [HS.out]; exact ⟨_, _, H5.out⟩, (hb.out.trans HB4.out).setB _ _⟩
      case measure => rw [HM.out, HM5.out]; show T.y - 1 < T.y; omega
    · have hie : i = S.y + 1 - r := by omega
      have hd : decide ((T.y : Int) ≥ (r : Int)) = false := by simp; omega
      have hR : Hid (S.resize c r = { T with grid := gridK T.grid T.cols c r (min r T.rows), cols := c, rows := r, x := min T.x c }) := by rw [hT, hie]; exact Lib.hid rfl
      have hcr1 : 1 ≤ c * r := Nat.mul_le_mul q1 q3
      have hcr2 : c * r ≤ 8192 := Nat.mul_le_mul q2 q4
      obtain ⟨p, hp⟩ : ∃ p : Nat, p = c * r := ⟨_, rfl⟩
      have hwp : IntKind.i64.wrap ((c : Int) * (r : Int)) = (p : Int) := by rw [← Int.natCast_mul, IntWalk.i64_in _ (by omega), hp]
      rw [← hp] at hcr1 hcr2
      have HC3 := Lib.hid hC; have HT := Lib.hid okT; have HP := Lib.hid hp
      clear hC okT hT hTy hie HS hp
      go_wp2_with fail
      refine (blanks_any p _ hcr1 hcr2).mono ?_
      rintro e w5 ⟨v8, rfl, hown8, hb5⟩
      obtain ⟨g, o, c8, rfl, ho8⟩ : ∃ g o c, v8 = .slice (some ⟨g, o, none⟩) p c ∧ OwnAt w5 wr.heap.size 5 1 g o p c (List.replicate p blankV) := by
        rcases hown8.2 with ⟨A, hv, h0, _⟩ | ⟨g, o, c, hv, ho⟩
        · omega
        · exact ⟨g, o, c, hv, ho⟩
      have HO8 : Hid (OwnAt w5 wr.heap.size 5 1 g o p c8 (Lib.byteCells (gridK T.grid T.cols c r 0))) := by
        rw [gridK_zero, ← HP.out, show Lib.byteCells (List.replicate p 32) = List.replicate p blankV from by unfold Lib.byteCells; rw [List.map_replicate]; rfl]
        exact ho8
      obtain ⟨m, hm⟩ : ∃ m : Nat, m = min r T.rows := ⟨_, rfl⟩
      have hmin : min (r : Int) (T.rows : Int) = (m : Int) := by omega
      have hmr : m ≤ r := by omega
      have hmt : m ≤ T.rows := by omega
      have c1 : w5.cell? ⟨w.heap.size, 1, none⟩ = some (.int .i64 T.rows) := (HC3.out.next hb5).cell 1
      have HB5 := Lib.hid hb5; have HMM := Lib.hid hm
      clear hown8 ho8 hb5 hm hwp c4
      obtain ⟨wo, hwo⟩ : ∃ wo : World, wo = wr := ⟨_, rfl⟩
      rw [← hwo] at HO8 HB5 HC3 hb hBr
      clear hwo
      go_wp2_with fail
      go_loopw [45] (fun iv wr => ∃ k : Nat, k ≤ m ∧ iv = .int .i64 k ∧ Hid (OwnAt wr wo.heap.size 5 1 g o p c8 (Lib.byteCells (gridK T.grid T.cols c r k))) ∧ Hid (Below wo.heap.size wo wr)) (fun iv _ => m - (intOf iv).toNat)
      case atStart => exact ⟨0, Nat.zero_le _, rfl, HO8.out, HB5.out⟩
      case round =>
        clear c1
        obtain ⟨k, hk, rfl, hO, hbo⟩ := hrel
        by_cases hlt : k < m
        · have hgb := HO8.out.base
          have hTr := HT.out.r2
          have hTc := HT.out.c2
          have hTc1 := HT.out.c1
          have hTg := HT.out.g2
          obtain ⟨p1, hp1⟩ : ∃ p1 : Nat, p1 = k * c := ⟨_, rfl⟩
          obtain ⟨p2, hp2⟩ : ∃ p2 : Nat, p2 = (k + 1) * c := ⟨_, rfl⟩
          obtain ⟨s1, hs1⟩ : ∃ s1 : Nat, s1 = k * T.cols := ⟨_, rfl⟩
          obtain ⟨s2, hs2⟩ : ∃ s2 : Nat, s2 = (k + 1) * T.cols := ⟨_, rfl⟩
          have hp12 : p2 = p1 + c := by rw [hp1, hp2, Nat.succ_mul]
          have hs12 : s2 = s1 + T.cols := by rw [hs1, hs2, Nat.succ_mul]
          have hp2p : p2 ≤ p := by rw [hp2, HP.out, Nat.mul_comm]; exact Nat.mul_le_mul (Nat.le_refl _) (by omega)
          have hs2g : s2 ≤ T.grid.length := by rw [hs2, HT.out.g, Nat.mul_comm]; exact Nat.mul_le_mul (Nat.le_refl _) (by omega)
          have hw1 : IntKind.i64.wrap ((k : Int) * (c : Int)) = (p1 : Int) := by rw [← Int.natCast_mul, ← hp1, IntWalk.i64_in _ (by omega)]
          have hw0 : IntKind.i64.wrap ((k : Int) + 1) = (k : Int) + 1 := IntWalk.i64_in _ (by omega)
          have hw2 : IntKind.i64.wrap (((k : Int) + 1) * (c : Int)) = (p2 : Int) := by
            rw [show ((k : Int) + 1) * (c : Int) = (((k + 1) * c : Nat) : Int) from by rw [Int.natCast_mul, Int.natCast_add]; rfl, ← hp2, IntWalk.i64_in _ (by omega)]
          have hw3 : IntKind.i64.wrap ((k : Int) * (T.cols : Int)) = (s1 : Int) := by rw [← Int.natCast_mul, ← hs1, IntWalk.i64_in _ (by omega)]
          have hw4 : IntKind.i64.wrap (((k : Int) + 1) * (T.cols : Int)) = (s2 : Int) := by
            rw [show ((k : Int) + 1) * (T.cols : Int) = (((k + 1) * T.cols : Nat) : Int) from by rw [Int.natCast_mul, Int.natCast_add]; rfl, ← hs2, IntWalk.i64_in _ (by omega)]
          have hC5 := HC3.out.next hbo.out
          have hgl : (Lib.byteCells (gridK T.grid T.cols c r k)).length = p := by rw [Lib.byteCells_length, gridK_len, HP.out]
          obtain ⟨hsl1, hcut⟩ := hO.out.cut Tryd.underlying24 Tryd.sizeOf5 p1 p2 (by omega) hp2p
          obtain ⟨A6, c6, hsl2, hrd2⟩ := hC5.cells.rd.cut Tryd.underlying24 Tryd.sizeOf5 s1 s2 (by omega) hs2g
          have hcp := run_copy_min (P := Tryd.prog) wr.drew wo.heap.size 24 24 3 5 g (o + p1) (p2 - p1) (c8 - p1) _ (.slice A6 (s2 - s1) c6) (s2 - s1) _ Tryd.underlying24 info8s (hcut.keep rfl) (hrd2.next ⟨rfl, rfl, rfl, Nat.le_refl _, fun _ _ => rfl⟩) (by omega) (fun v hv => byte_one _ v (List.mem_of_mem_drop (List.mem_of_mem_take hv)))
          have hnext : Hid (OwnAt (wr.drew.setCells g (o + p1) ((((Lib.byteCells T.grid).drop s1).take (s2 - s1)).take (min (s2 - s1) (p2 - p1)))) wo.heap.size 5 1 g o p c8 (Lib.byteCells (gridK T.grid T.cols c r (k + 1)))) := by
            have hstep := gridK_step T.grid T.cols c r k q1 (by omega) (by rw [← hs1]; omega)
            have hys : (((Lib.byteCells T.grid).drop s1).take (s2 - s1)).take (min (s2 - s1) (p2 - p1)) = Lib.byteCells (((T.grid.drop (k * T.cols)).take T.cols).take (min T.cols c)) := by
              unfold Lib.byteCells
              rw [List.map_take, List.map_take, List.map_drop, ← hs1, show s2 - s1 = T.cols by omega, show p2 - p1 = c by omega]
            have hyl : (Lib.byteCells (((T.grid.drop (k * T.cols)).take T.cols).take (min T.cols c))).length = min T.cols c := by
              rw [Lib.byteCells_length, List.length_take, List.length_take, List.length_drop, ← hs1]; omega
            have := (hO.out.keep (w' := wr.drew) rfl).splice hgl p1 (Lib.byteCells (((T.grid.drop (k * T.cols)).take T.cols).take (min T.cols c))) (by rw [hyl]; omega)
            rw [hyl] at this
            rw [hys, ← hstep, ← hp1, byteCells_splice]
            exact this
          have hbn : Hid (Below wo.heap.size wo (wr.drew.setCells g (o + p1) ((((Lib.byteCells T.grid).drop s1).take (s2 - s1)).take (min (s2 - s1) (p2 - p1))))) := below_cells (below_drew hbo.out) _ _ _ hgb hbo.out.size
          obtain ⟨-, A3, c3, rfl, -, -, -, -⟩ := hC5.cells.rd
          have c0 : wr.cell? ⟨w.heap.size, 0, none⟩ = some (.int .i64 T.cols) := hC5.cell 0
          have c5 : wr.cell? ⟨w.heap.size, 5, none⟩ = some (.slice A3 T.grid.length c3) := hC5.cell 5
          obtain ⟨w6, hw6⟩ : ∃ w6, w6 = wr.drew.setCells g (o + p1) ((((Lib.byteCells T.grid).drop s1).take (s2 - s1)).take (min (s2 - s1) (p2 - p1))) := ⟨_, rfl⟩
          rw [← hw6] at hcp hnext hbn
          have HCP := Lib.hid hcp
          clear hC5 hcut hrd2 hgl hp1 hp2 hs1 hs2 hp12 hs12 hp2p hs2g hw6 hgb hcp
          generalize p2 - p1 = dn at *
          generalize s2 - s1 = sn at *
          go_wp2_with fail
          go_still_tail 21, (by kernel_rfl)
          change wpList _ _ _ _ _ wr.drew
          refine wpList_copyrun rfl (.tmp 56) (.tmp 68) 24 24 rfl _ _ _ _ rfl rfl HCP.out ?_
          clear HCP hsl1 hsl2 hw1 hw2 hw3 hw4
          go_simp
          go_wp2_with fail
          go_roundw
          case rel => exact ⟨k + 1, by omega, by go_num, hnext, hbn⟩
          case measure => simp [intOf]; omega
        · obtain rfl : k = m := by omega
          have hC5 := HC3.out.next hbo.out
          obtain ⟨-, A3, c3, rfl, -, -, -, -⟩ := hC5.cells.rd
          obtain ⟨-, A4, c4, rfl, -, -, -, -⟩ := hC5.kept.rd
          have hy : wr.heap[w.heap.size + 1]? = some (.cells (zeroScr.vals nilS nilS) 29 (0, 0)) := (hbo.out.block _ (by omega)).trans ((hb.out.block _ (by omega) (by omega)).trans HY3.out)
          have e0 : wr.cell? ⟨w.heap.size, 0, none⟩ = some (.int .i64 T.cols) := hC5.cell 0
          have e1 : wr.cell? ⟨w.heap.size, 1, none⟩ = some (.int .i64 T.rows) := hC5.cell 1
          have e2 : wr.cell? ⟨w.heap.size, 2, none⟩ = some (.int .i64 T.most) := hC5.cell 2
          have e3 : wr.cell? ⟨w.heap.size, 3, none⟩ = some (.int .i64 T.x) := hC5.cell 3
          have e4 : wr.cell? ⟨w.heap.size, 4, none⟩ = some (.int .i64 T.y) := hC5.cell 4
          have e5 : wr.cell? ⟨w.heap.size, 5, none⟩ = some (.slice A3 T.grid.length c3) := hC5.cell 5
          have e6 : wr.cell? ⟨w.heap.size, 6, none⟩ = some (.slice A4 T.kept.length c4) := hC5.cell 6
          have e7 : wr.cell? ⟨w.heap.size, 7, none⟩ = some (.int .i64 T.st) := hC5.cell 7
          have e8 : wr.cell? ⟨w.heap.size, 8, none⟩ = some (.int .i64 T.n0) := hC5.cell 8
          have e9 : wr.cell? ⟨w.heap.size, 9, none⟩ = some (.int .i64 T.n1) := hC5.cell 9
          have e10 : wr.cell? ⟨w.heap.size, 10, none⟩ = some (.int .i64 T.num) := hC5.cell 10
          have f0 := hC5.frozen 0
          have f1 := hC5.frozen 1
          have f3 := hC5.frozen 3
          have f5 := hC5.frozen 5
          have d0 : wr.cell? ⟨w.heap.size + 1, 0, none⟩ = some (.int .i64 0) := cell_of_row _ _ _ _ _ _ hy
          have z0 : wr.frozen? ⟨w.heap.size + 1, 0, none⟩ = false := frozen_of_row _ _ _ _ _ hy
          have d1 : wr.cell? ⟨w.heap.size + 1, 1, none⟩ = some (.int .i64 0) := cell_of_row _ _ _ _ _ _ hy
          have z1 : wr.frozen? ⟨w.heap.size + 1, 1, none⟩ = false := frozen_of_row _ _ _ _ _ hy
          have d2 : wr.cell? ⟨w.heap.size + 1, 2, none⟩ = some (.int .i64 0) := cell_of_row _ _ _ _ _ _ hy
          have z2 : wr.frozen? ⟨w.heap.size + 1, 2, none⟩ = false := frozen_of_row _ _ _ _ _ hy
          have d3 : wr.cell? ⟨w.heap.size + 1, 3, none⟩ = some (.int .i64 0) := cell_of_row _ _ _ _ _ _ hy
          have z3 : wr.frozen? ⟨w.heap.size + 1, 3, none⟩ = false := frozen_of_row _ _ _ _ _ hy
          have d4 : wr.cell? ⟨w.heap.size + 1, 4, none⟩ = some (.int .i64 0) := cell_of_row _ _ _ _ _ _ hy
          have z4 : wr.frozen? ⟨w.heap.size + 1, 4, none⟩ = false := frozen_of_row _ _ _ _ _ hy
          have d5 : wr.cell? ⟨w.heap.size + 1, 5, none⟩ = some (.slice none 0 0) := cell_of_row _ _ _ _ _ _ hy
          have z5 : wr.frozen? ⟨w.heap.size + 1, 5, none⟩ = false := frozen_of_row _ _ _ _ _ hy
          have d6 : wr.cell? ⟨w.heap.size + 1, 6, none⟩ = some (.slice none 0 0) := cell_of_row _ _ _ _ _ _ hy
          have z6 : wr.frozen? ⟨w.heap.size + 1, 6, none⟩ = false := frozen_of_row _ _ _ _ _ hy
          have d7 : wr.cell? ⟨w.heap.size + 1, 7, none⟩ = some (.int .i64 0) := cell_of_row _ _ _ _ _ _ hy
          have z7 : wr.frozen? ⟨w.heap.size + 1, 7, none⟩ = false := frozen_of_row _ _ _ _ _ hy
          have d8 : wr.cell? ⟨w.heap.size + 1, 8, none⟩ = some (.int .i64 0) := cell_of_row _ _ _ _ _ _ hy
          have z8 : wr.frozen? ⟨w.heap.size + 1, 8, none⟩ = false := frozen_of_row _ _ _ _ _ hy
          have d9 : wr.cell? ⟨w.heap.size + 1, 9, none⟩ = some (.int .i64 0) := cell_of_row _ _ _ _ _ _ hy
          have z9 : wr.frozen? ⟨w.heap.size + 1, 9, none⟩ = false := frozen_of_row _ _ _ _ _ hy
          have d10 : wr.cell? ⟨w.heap.size + 1, 10, none⟩ = some (.int .i64 0) := cell_of_row _ _ _ _ _ _ hy
          have z10 : wr.frozen? ⟨w.heap.size + 1, 10, none⟩ = false := frozen_of_row _ _ _ _ _ hy
          have hbw : Below w.heap.size w wr := (HB3.out.trans (hb.out.below (by omega) (Nat.le_refl _))).trans (hbo.out.mono (by omega))
          have hxT : T.x ≤ 128 := Nat.le_trans HT.out.x HT.out.c2
          have HC5 := Lib.hid hC5; have HBW := Lib.hid hbw
          have hsz := hbo.out.size
          clear hC5 hbw hy
          go_wp2_with fail
          rw [show min (T.x : Int) (c : Int) = ((min T.x c : Nat) : Int) from by omega]
          have h2 := two_set4 wr w.heap.size 5 0 1 3 (.slice (some ⟨g, o, none⟩) p c8) (.int .i64 c) (.int .i64 r) (.int .i64 (min T.x c : Nat)) 0 ((S.resize c r).vals (.slice (some ⟨g, o, none⟩) p c8) (.slice A4 T.kept.length c4)).toList
          have h3 := below_set4 wr w.heap.size 5 0 1 3 (.slice (some ⟨g, o, none⟩) p c8) (.int .i64 c) (.int .i64 r) (.int .i64 (min T.x c : Nat)) 0 ((S.resize c r).vals (.slice (some ⟨g, o, none⟩) p c8) (.slice A4 T.kept.length c4)).toList (by omega)
          rw [hR.out] at h2 h3 ⊢
          refine bodyPost_ret (v := .tuple #[.agg (Scr.vals { T with grid := gridK T.grid T.cols c r (min r T.rows), cols := c, rows := r, x := min T.x c } (.slice (some ⟨g, o, none⟩) p c8) (.slice A4 T.kept.length c4)), .int .i64 0]) (by simp [results, Tryd.results20, go_sem, Scr.vals, d0, d1, d2, d3, d4, d5, d6, d7, d8, d9, d10]) rfl ⟨_, rfl, ?_, ?_⟩
          · have ho : Own wr wo.heap.size 5 1 (.slice (some ⟨g, o, none⟩) p c8) p (Lib.byteCells (gridK T.grid T.cols c r k)) := ⟨by rw [Lib.byteCells_length, gridK_len, HP.out, Nat.mul_one], Or.inr ⟨g, o, c8, rfl, hO.out⟩⟩
            have ho2 := ho.two (b := w.heap.size) (by omega) h2
            have hk2 := HC5.out.kept.two (b := w.heap.size) (Nat.le_refl _) h2
            have hgl : (gridK T.grid T.cols c r (min r T.rows)).length = p := by rw [gridK_len, HP.out]
            rw [HMM.out] at ho2
            refine ⟨_, _, rfl, ?_, hk2.rdt, ?_, hk2.none⟩
            · show RdT _ _ _ (gridK T.grid T.cols c r (min r T.rows)).length (Lib.byteCells (gridK T.grid T.cols c r (min r T.rows)))
              rw [hgl]
              exact ho2.rdt
            · show ∀ c', _ = Value.slice none (gridK T.grid T.cols c r (min r T.rows)).length c' → c' = 0
              rw [hgl]
              exact ho2.none
          · exact HBW.out.trans h3
end Go.Proofs.YtiefpodmdpnppaaDoor
