/-
  WALK of the law CellsParts.
-/
import Derived.Test.YtiefpodmdpnppaaDoorLwM
import Derived.Test.YtiefpodmdpnppaaDoorOpn
namespace Go.Proofs.YtiefpodmdpnppaaDoor
open Go.RowKit
attribute [local go_sem ↓] Go.wp_at_zero Go.wp_at_succ

theorem Scr.bytes_append (S : Scr) (a b : List UInt8) : S.bytes (a ++ b) = (S.bytes a).bytes b := List.foldl_append
/-- a screen in block b -/
def SB (w : World) (b : Nat) (S : Scr) : Prop := ∃ vc vk, w.heap[b]? = some (.cells (S.vals vc vk) 29 (0, 0)) ∧ CK w (.agg (S.vals vc vk)) S
theorem SB.next {w w' : World} {b : Nat} {S : Scr} (h : SB w b S) (hb : Below w.heap.size w w') : SB w' b S := by
  obtain ⟨vc, vk, h1, h2⟩ := h
  exact ⟨vc, vk, (hb.block b (block_lt h1)).trans h1, h2.next hb⟩

theorem putL_scr (M N : Scr) (vr vk ur uk : Value) : putL (M.vals vr vk) 0 (N.vals ur uk).toList = N.vals ur uk := by
  simp [putL, Scr.vals]
theorem scr_over {w : World} {b : Nat} {M : Scr} {vr vk : Value} (h : w.heap[b]? = some (.cells (M.vals vr vk) 29 (0, 0))) (N : Scr) (ur uk : Value) :
    (w.setCells b 0 (N.vals ur uk).toList).heap[b]? = some (.cells (N.vals ur uk) 29 (0, 0)) := by
  rw [heap_setCells_same b _ (N.vals ur uk).toList 0 _ w h, putL_scr]
theorem SB.store {w : World} {b : Nat} {M N : Scr} {vr vk ur uk : Value} (h : w.heap[b]? = some (.cells (M.vals vr vk) 29 (0, 0))) (hn : CK w (.agg (N.vals ur uk)) N) : SB (w.setCells b 0 (N.vals ur uk).toList) b N :=
  ⟨ur, uk, scr_over h N ur uk, hn.ne h (by decide) (by decide) (grown_setCells w b 0 _)⟩
theorem SB.other {w : World} {b c : Nat} {S : Scr} {cs : Array Value} (h : SB w b S) (hc : w.heap[c]? = some (.cells cs 29 (0, 0))) (hne : b ≠ c) (o : Nat) (vs : List Value) : SB (w.setCells c o vs) b S := by
  obtain ⟨vc, vk, h1, h2⟩ := h
  exact ⟨vc, vk, ((grown_setCells w c o vs).block b (block_lt h1) (fun he => hne (by injection he))).trans h1, h2.ne hc (by decide) (by decide) (grown_setCells w c o vs)⟩
theorem take_more (s : ByteArray) (p n : Nat) : s.data.toList.take (p + n) = s.data.toList.take p ++ (s.extract p (p + n)).data.toList := by
  have e : (s.extract p (p + n)).data.toList = (s.data.toList.drop p).take n := by
    rw [show (s.extract p (p + n)).data = s.data.extract p (p + n) from ByteArray.data_extract]
    simp only [Array.toList_extract, List.extract_eq_take_drop]
    congr 1; omega
  rw [e, List.take_add]

set_option maxRecDepth 100000 in
set_option maxHeartbeats 1600000 in
theorem parts_big (a b k : Nat) (s : ByteArray) (v : Value) (w : World) (hs : 500 < s.size) (hs2 : s.size ≤ 9223372036854775807) :
    Calls Tryd.prog 3 #[.agg #[.int .u8 a, .int .u8 b, .int .u8 k], .string s, v] w (ValPost w (.bool true)) := by
  have hd : decide ((s.size : Int) > 500) = true := by simp; omega
  go_enter Tryd.func3, Tryd.ntmps3
  go_wp2_with fail
  refine (awake_walk _).mono ?_
  rintro e w1 ⟨rfl, hb1⟩
  have HB1 : Hid (Below w.heap.size w w1) := below_next ((Below.refl _ _).alloc (Nat.le_refl _) _) hb1
  clear hb1
  go_wp2_with fail
  go_ret
  exact ⟨rfl, HB1.out⟩

theorem keepP {w6 w' : World} {bd be : Nat} {T : Scr} {A5 A6 A7 A8 : Option Addr} {k5 k6 k7 k8 : Nat} (h1 : Hid (w6.heap[bd]? = some (.cells (T.vals (.slice A5 T.grid.length k5) (.slice A6 T.kept.length k6)) 29 (0, 0)))) (h2 : Hid (w6.heap[be]? = some (.cells (T.vals (.slice A7 T.grid.length k7) (.slice A8 T.kept.length k8)) 29 (0, 0)))) (h : Below w6.heap.size w6 w') :
    w'.cell? ⟨bd, 0, none⟩ = some (.int .i64 T.cols) ∧ w'.cell? ⟨bd, 1, none⟩ = some (.int .i64 T.rows) ∧ w'.cell? ⟨bd, 2, none⟩ = some (.int .i64 T.most) ∧ w'.cell? ⟨bd, 3, none⟩ = some (.int .i64 T.x) ∧ w'.cell? ⟨bd, 4, none⟩ = some (.int .i64 T.y) ∧ w'.cell? ⟨bd, 5, none⟩ = some (.slice A5 T.grid.length k5) ∧ w'.cell? ⟨bd, 6, none⟩ = some (.slice A6 T.kept.length k6) ∧ w'.cell? ⟨bd, 7, none⟩ = some (.int .i64 T.st) ∧ w'.cell? ⟨bd, 8, none⟩ = some (.int .i64 T.n0) ∧ w'.cell? ⟨bd, 9, none⟩ = some (.int .i64 T.n1) ∧ w'.cell? ⟨bd, 10, none⟩ = some (.int .i64 T.num) ∧ w'.cell? ⟨be, 0, none⟩ = some (.int .i64 T.cols) ∧ w'.cell? ⟨be, 1, none⟩ = some (.int .i64 T.rows) ∧ w'.cell? ⟨be, 2, none⟩ = some (.int .i64 T.most) ∧ w'.cell? ⟨be, 3, none⟩ = some (.int .i64 T.x) ∧ w'.cell? ⟨be, 4, none⟩ = some (.int .i64 T.y) ∧ w'.cell? ⟨be, 5, none⟩ = some (.slice A7 T.grid.length k7) ∧ w'.cell? ⟨be, 6, none⟩ = some (.slice A8 T.kept.length k8) ∧ w'.cell? ⟨be, 7, none⟩ = some (.int .i64 T.st) ∧ w'.cell? ⟨be, 8, none⟩ = some (.int .i64 T.n0) ∧ w'.cell? ⟨be, 9, none⟩ = some (.int .i64 T.n1) ∧ w'.cell? ⟨be, 10, none⟩ = some (.int .i64 T.num) ∧ Hid (Below w6.heap.size w6 w') := by
  have x1 := (h.block _ (block_lt h1.out)).trans h1.out
  have x2 := (h.block _ (block_lt h2.out)).trans h2.out
  exact ⟨cell_of_row _ _ _ _ _ _ x1, cell_of_row _ _ _ _ _ _ x1, cell_of_row _ _ _ _ _ _ x1, cell_of_row _ _ _ _ _ _ x1, cell_of_row _ _ _ _ _ _ x1, cell_of_row _ _ _ _ _ _ x1, cell_of_row _ _ _ _ _ _ x1, cell_of_row _ _ _ _ _ _ x1, cell_of_row _ _ _ _ _ _ x1, cell_of_row _ _ _ _ _ _ x1, cell_of_row _ _ _ _ _ _ x1, cell_of_row _ _ _ _ _ _ x2, cell_of_row _ _ _ _ _ _ x2, cell_of_row _ _ _ _ _ _ x2, cell_of_row _ _ _ _ _ _ x2, cell_of_row _ _ _ _ _ _ x2, cell_of_row _ _ _ _ _ _ x2, cell_of_row _ _ _ _ _ _ x2, cell_of_row _ _ _ _ _ _ x2, cell_of_row _ _ _ _ _ _ x2, cell_of_row _ _ _ _ _ _ x2, cell_of_row _ _ _ _ _ _ x2, h⟩
set_option maxRecDepth 100000 in
set_option maxHeartbeats 1600000 in
theorem parts_walk (a b k : Nat) (s : ByteArray) (v : Value) (cuts : List UInt8) (w : World) (ha : a < 256) (hb : b < 256) (hk : k < 256) (hs : s.size ≤ 500) (hv : Rdw w 1 v cuts.length (Lib.byteCells cuts)) (hcl : cuts.length ≤ 140737488351232) :
    Calls Tryd.prog 3 #[.agg #[.int .u8 a, .int .u8 b, .int .u8 k], .string s, v] w (ValPost w (.bool true)) := by
  have hd : decide ((s.size : Int) > 500) = false := by simp; omega
  have HR := Lib.hid hv
  obtain ⟨-, A0, c0, rfl, -, -, -⟩ := hv
  go_enter Tryd.func3, Tryd.ntmps3
  go_wp2_with fail
  refine (made_walk a b k _ ha hb hk).mono ?_
  rintro e w1 ⟨v1, u1, rfl, hck, hrv, hb1⟩
  have hok := newScr_ok (1 + a % 20) (1 + b % 8) (k % 12) (by omega) (by omega) (by omega) (by omega) (by omega)
  obtain ⟨S, hS⟩ : ∃ S : Scr, S = newScr (1 + a % 20) (1 + b % 8) (k % 12) := ⟨_, rfl⟩
  obtain ⟨M, hM⟩ : ∃ M : Ref, M = newRef (1 + a % 20) (1 + b % 8) (k % 12) := ⟨_, rfl⟩
  rw [← hS] at hck hok
  rw [← hM] at hrv
  have HV1 := Lib.hid hck; have HO := Lib.hid hok
  have HB1 : Hid (Below w.heap.size w w1) := below_next ((Below.refl _ _).alloc (Nat.le_refl _) _) hb1
  obtain ⟨vc, vk, rfl, h11, h12, h13, h14⟩ := hck
  have h15 := h11.1; have h16 := h12.1
  obtain ⟨-, A1, k1, rfl, -, -, -, -⟩ := h15
  obtain ⟨-, A2, k2, rfl, -, -, -, -⟩ := h16
  obtain ⟨vr, vk', rfl, h21, h22⟩ := hrv
  have h25 := h21.1; have h26 := h22.1
  obtain ⟨-, A3, k3, rfl, -, -, -, -⟩ := h25
  obtain ⟨-, A4, k4, rfl, -, -, -, -⟩ := h26
  clear h11 h12 h13 h14 h21 h22 hok hb1 hS hM
  rw [Scr.vals_eq S, Ref.vals_eq M]
  go_wp2_with fail
  obtain ⟨w2, hw2⟩ : ∃ w2, w2 = ((w1.alloc (.cells (S.vals (.slice A1 S.grid.length k1) (.slice A2 S.kept.length k2)) 29)).alloc (.cells (M.vals (.slice A3 M.rows.length k3) (.slice A4 M.kept.length k4)) 31)).alloc (.cells (S.vals (.slice A1 S.grid.length k1) (.slice A2 S.kept.length k2)) 29) := ⟨_, rfl⟩
  have hb12 : Below w1.heap.size w1 w2 := by rw [hw2]; exact ((below_alloc2 _ _ _).alloc (by simp; omega) _)
  have hx7 : w2.heap[w1.heap.size]? = some (.cells (S.vals (.slice A1 S.grid.length k1) (.slice A2 S.kept.length k2)) 29 (0, 0)) := by
    rw [hw2, Below.heap_alloc _ _ _ (by simp; omega)]; exact alloc2_fst _ _ _
  have hx10 : w2.heap[w1.heap.size + 1 + 1]? = some (.cells (S.vals (.slice A1 S.grid.length k1) (.slice A2 S.kept.length k2)) 29 (0, 0)) := by
    rw [hw2]
    have := alloc2_snd (w1.alloc (.cells (S.vals (.slice A1 S.grid.length k1) (.slice A2 S.kept.length k2)) 29)) (.cells (M.vals (.slice A3 M.rows.length k3) (.slice A4 M.kept.length k4)) 31) (.cells (S.vals (.slice A1 S.grid.length k1) (.slice A2 S.kept.length k2)) 29)
    rw [show (w1.alloc (.cells (S.vals (.slice A1 S.grid.length k1) (.slice A2 S.kept.length k2)) 29)).heap.size = w1.heap.size + 1 from by simp] at this
    exact this
  have SB7 : Hid (SB w2 w1.heap.size S) := ⟨_, _, hx7, HV1.out.next hb12⟩
  have SB10 : Hid (SB w2 (w1.heap.size + 1 + 1) S) := ⟨_, _, hx10, HV1.out.next hb12⟩
  have HB2 : Hid (Below w.heap.size w w2) := below_next HB1.out hb12
  rw [Scr.vals_eq S, Ref.vals_eq M] at hw2
  rw [← hw2]
  clear hw2 hx7 hx10 hb12 HV1
  obtain ⟨b7, hb7⟩ : ∃ b7, b7 = w1.heap.size := ⟨_, rfl⟩
  have hcap : w.heap.size ≤ b7 := by rw [hb7]; exact HB1.out.size
  rw [← hb7] at SB7 SB10 ⊢
  clear hb7 HB1
  go_loopw [11, 12] (fun pv iv wr => ∃ p i : Nat, p ≤ s.size ∧ i ≤ cuts.length + 1 ∧ (i ≤ cuts.length ∨ p = s.size) ∧ pv = .int .i64 p ∧ iv = .int .i64 i ∧ Hid (SB wr b7 S) ∧ Hid (SB wr (b7 + 1 + 1) (S.bytes (s.data.toList.take p))) ∧ Hid (Below w.heap.size w wr)) (fun pv iv _ => (s.size - (intOf pv).toNat) + (cuts.length + 1 - (intOf iv).toNat))
  case atStart => exact ⟨0, 0, Nat.zero_le _, Nat.zero_le _, Or.inl (Nat.zero_le _), rfl, rfl, SB7.out, SB10.out, HB2.out⟩
  case round =>
    clear SB7 SB10 HB2
    obtain ⟨p, i, hp, hi, hpi, rfl, rfl, h7, h10, hbw⟩ := hrel
    by_cases hlt : p < s.size
    · have hic : i ≤ cuts.length := by omega
      have hd1 : decide ((p : Int) < (s.size : Int)) = true := by simp; omega
      by_cases hil : i < cuts.length
      · obtain ⟨_, A', c', hA', hnc', _, hcl0⟩ := HR.out.next hbw.out
        obtain ⟨cb, co, hA0, hltc, hcell⟩ := hcl0 (by omega)
        injection hA' with hA1 _ hA2
        subst hA2
        subst hA1
        subst hA0
        have hci := hcell i (.int .u8 (cuts.getD i 0).toNat) (by unfold Lib.byteCells; rw [List.getElem?_map, List.getElem?_eq_getElem hil, List.getD_eq_getElem?_getD, List.getElem?_eq_getElem hil]; rfl)
        have hcb : (cuts.getD i 0).toNat < 256 := UInt8.toNat_lt _
        obtain ⟨cc, hcc⟩ : ∃ cc : Nat, cc = (cuts.getD i 0).toNat := ⟨_, rfl⟩
        rw [← hcc] at hci hcb
        obtain ⟨n, hn⟩ : ∃ n : Nat, n = min (s.size - p) (cc % 9) := ⟨_, rfl⟩
        have hmin : min ((s.size : Int) - (p : Int)) ((cc : Int) % 9) = (n : Int) := by omega
        have hd2 : decide ((i : Int) < (cuts.length : Int)) = true := by simp; omega
        have hiI : (i : Int) < (cuts.length : Int) := by omega
        have hpn : p + n ≤ s.size := by omega
        have hprog : (s.size - (p + n)) + (cuts.length + 1 - (i + 1)) < (s.size - p) + (cuts.length + 1 - i) := by omega
        clear hcell hcl0 hcc hn hnc'
        have HEnd : Hid (i + 1 ≤ cuts.length ∨ p + n = s.size) := Or.inl (by omega)
        obtain ⟨vc5, vk5, hx10, hck5⟩ := h10.out
        obtain ⟨T, hT⟩ : ∃ T : Scr, T = S.bytes (s.data.toList.take p) := ⟨_, rfl⟩
        rw [← hT] at hx10 hck5
        have hok5 : T.Ok := by rw [hT]; exact HO.out.bytes _
        have HT := Lib.hid hT
        have HV5 := Lib.hid hck5
        obtain ⟨vc6, vk6, he6, h11, h12, h13, h14⟩ := hck5
        injection he6 with he6
        have e5 : vc5 = vc6 := by have := congrArg (fun a => a[5]?) he6; simpa [Scr.vals] using this
        have e6 : vk5 = vk6 := by have := congrArg (fun a => a[6]?) he6; simpa [Scr.vals] using this
        subst e5 e6
        have h15 := h11.1; have h16 := h12.1
        obtain ⟨-, A5, k5, rfl, -, -, -, -⟩ := h15
        obtain ⟨-, A6, k6, rfl, -, -, -, -⟩ := h16
        have HO5 := Lib.hid hok5; have HX10 := Lib.hid hx10
        have g0 : wr.cell? ⟨b7 + 1 + 1, 0, none⟩ = some (.int .i64 T.cols) := cell_of_row _ _ _ _ _ _ hx10
        have g1 : wr.cell? ⟨b7 + 1 + 1, 1, none⟩ = some (.int .i64 T.rows) := cell_of_row _ _ _ _ _ _ hx10
        have g2 : wr.cell? ⟨b7 + 1 + 1, 2, none⟩ = some (.int .i64 T.most) := cell_of_row _ _ _ _ _ _ hx10
        have g3 : wr.cell? ⟨b7 + 1 + 1, 3, none⟩ = some (.int .i64 T.x) := cell_of_row _ _ _ _ _ _ hx10
        have g4 : wr.cell? ⟨b7 + 1 + 1, 4, none⟩ = some (.int .i64 T.y) := cell_of_row _ _ _ _ _ _ hx10
        have g5 : wr.cell? ⟨b7 + 1 + 1, 5, none⟩ = some (.slice A5 T.grid.length k5) := cell_of_row _ _ _ _ _ _ hx10
        have g6 : wr.cell? ⟨b7 + 1 + 1, 6, none⟩ = some (.slice A6 T.kept.length k6) := cell_of_row _ _ _ _ _ _ hx10
        have g7 : wr.cell? ⟨b7 + 1 + 1, 7, none⟩ = some (.int .i64 T.st) := cell_of_row _ _ _ _ _ _ hx10
        have g8 : wr.cell? ⟨b7 + 1 + 1, 8, none⟩ = some (.int .i64 T.n0) := cell_of_row _ _ _ _ _ _ hx10
        have g9 : wr.cell? ⟨b7 + 1 + 1, 9, none⟩ = some (.int .i64 T.n1) := cell_of_row _ _ _ _ _ _ hx10
        have g10 : wr.cell? ⟨b7 + 1 + 1, 10, none⟩ = some (.int .i64 T.num) := cell_of_row _ _ _ _ _ _ hx10
        have hwpn : IntKind.i64.wrap ((p : Int) + (n : Int)) = ((p + n : Nat) : Int) := by rw [IntWalk.i64_in _ (by omega)]; omega
        obtain ⟨q, hq⟩ : ∃ q : Nat, q = p + n := ⟨_, rfl⟩
        rw [← hq] at hwpn
        have hq1 : (p : Int) ≤ (q : Int) := by omega
        have hq2 : (q : Int) ≤ (s.size : Int) := by omega
        have HQ := Lib.hid hq
        clear h11 h12 h13 h14 hok5 hx10 hT hq he6
        go_wp2_with fail
        go_still_tail 7, (by kernel_rfl)
        change wpList _ _ _ _ _ wr.drew
        go_wp2_with fail
        refine (write_walk (.agg (T.vals (.slice A5 T.grid.length k5) (.slice A6 T.kept.length k6))) T (s.extract p q) _ (by exact (HV5.out.next (below_self_drew wr _)).cv) HO5.out (by rw [ByteArray.size_extract]; omega)).mono ?_
        rintro e w5 ⟨v5, rfl, hck6, hb5⟩
        obtain ⟨U, hU⟩ : ∃ U : Scr, U = T.bytes (s.extract p q).data.toList := ⟨_, rfl⟩
        rw [← hU] at hck6
        have HU : Hid (S.bytes (s.data.toList.take q) = U) := by rw [hU, HT.out, HQ.out, take_more, Scr.bytes_append]; exact Lib.hid rfl
        have HV6 := Lib.hid hck6
        obtain ⟨vc7, vk7, rfl, h17, h18, -, -⟩ := hck6
        have h19 := h17.1; have h20 := h18.1
        obtain ⟨-, A7, k7, rfl, -, -, -, -⟩ := h19
        obtain ⟨-, A8, k8, rfl, -, -, -, -⟩ := h20
        have hx5 : w5.heap[b7 + 1 + 1]? = some (.cells (T.vals (.slice A5 T.grid.length k5) (.slice A6 T.kept.length k6)) 29 (0, 0)) := (hb5.block _ (block_lt (w := wr) HX10.out)).trans HX10.out
        have hbw5 : Below w.heap.size w w5 := below_next (below_drew hbw.out) hb5
        have hs5 : b7 + 1 + 1 < w5.heap.size := block_lt hx5
        have p0 : w5.cell? ⟨b7 + 1 + 1, 0, none⟩ = some (.int .i64 T.cols) := cell_of_row _ _ _ _ _ _ hx5
        have p1 : w5.cell? ⟨b7 + 1 + 1, 1, none⟩ = some (.int .i64 T.rows) := cell_of_row _ _ _ _ _ _ hx5
        have p2 : w5.cell? ⟨b7 + 1 + 1, 2, none⟩ = some (.int .i64 T.most) := cell_of_row _ _ _ _ _ _ hx5
        have p3 : w5.cell? ⟨b7 + 1 + 1, 3, none⟩ = some (.int .i64 T.x) := cell_of_row _ _ _ _ _ _ hx5
        have p4 : w5.cell? ⟨b7 + 1 + 1, 4, none⟩ = some (.int .i64 T.y) := cell_of_row _ _ _ _ _ _ hx5
        have p5 : w5.cell? ⟨b7 + 1 + 1, 5, none⟩ = some (.slice A5 T.grid.length k5) := cell_of_row _ _ _ _ _ _ hx5
        have p6 : w5.cell? ⟨b7 + 1 + 1, 6, none⟩ = some (.slice A6 T.kept.length k6) := cell_of_row _ _ _ _ _ _ hx5
        have p7 : w5.cell? ⟨b7 + 1 + 1, 7, none⟩ = some (.int .i64 T.st) := cell_of_row _ _ _ _ _ _ hx5
        have p8 : w5.cell? ⟨b7 + 1 + 1, 8, none⟩ = some (.int .i64 T.n0) := cell_of_row _ _ _ _ _ _ hx5
        have p9 : w5.cell? ⟨b7 + 1 + 1, 9, none⟩ = some (.int .i64 T.n1) := cell_of_row _ _ _ _ _ _ hx5
        have p10 : w5.cell? ⟨b7 + 1 + 1, 10, none⟩ = some (.int .i64 T.num) := cell_of_row _ _ _ _ _ _ hx5
        have u0 : w5.frozen? ⟨b7 + 1 + 1, 0, none⟩ = false := frozen_of_row _ _ _ _ _ hx5
        have u1 : w5.frozen? ⟨b7 + 1 + 1, 1, none⟩ = false := frozen_of_row _ _ _ _ _ hx5
        have u2 : w5.frozen? ⟨b7 + 1 + 1, 2, none⟩ = false := frozen_of_row _ _ _ _ _ hx5
        have u3 : w5.frozen? ⟨b7 + 1 + 1, 3, none⟩ = false := frozen_of_row _ _ _ _ _ hx5
        have u4 : w5.frozen? ⟨b7 + 1 + 1, 4, none⟩ = false := frozen_of_row _ _ _ _ _ hx5
        have u5 : w5.frozen? ⟨b7 + 1 + 1, 5, none⟩ = false := frozen_of_row _ _ _ _ _ hx5
        have u6 : w5.frozen? ⟨b7 + 1 + 1, 6, none⟩ = false := frozen_of_row _ _ _ _ _ hx5
        have u7 : w5.frozen? ⟨b7 + 1 + 1, 7, none⟩ = false := frozen_of_row _ _ _ _ _ hx5
        have u8 : w5.frozen? ⟨b7 + 1 + 1, 8, none⟩ = false := frozen_of_row _ _ _ _ _ hx5
        have u9 : w5.frozen? ⟨b7 + 1 + 1, 9, none⟩ = false := frozen_of_row _ _ _ _ _ hx5
        have u10 : w5.frozen? ⟨b7 + 1 + 1, 10, none⟩ = false := frozen_of_row _ _ _ _ _ hx5
        have Q1 := Lib.hid (SB.store hx5 HV6.out)
        have Q2 := Lib.hid (((h7.out.next (below_self_drew wr _)).next hb5).other hx5 (by omega) 0 (U.vals (.slice A7 U.grid.length k7) (.slice A8 U.kept.length k8)).toList)
        have Q3 := Lib.hid (hbw5.grown (grown_setCells w5 (b7 + 1 + 1) 0 (U.vals (.slice A7 U.grid.length k7) (.slice A8 U.kept.length k8)).toList) (by omega) (fun q hq => by injection hq with hq; omega))
        rw [Scr.vals_eq U]
        clear hx5 hbw5 hb5 hU h17 h18 HV6
        go_wp2_with fail
        go_roundw
        case rel =>
          have hqq := HQ.out
          refine ⟨q, i + 1, by omega, by omega, (by rw [hqq]; exact HEnd.out), rfl, by go_num, Q2.out, ?_, Q3.out⟩
          rw [HU.out]
          exact Q1.out
        case measure => have hqq := HQ.out; simp [intOf]; omega
      · have hie : i = cuts.length := by omega
        obtain ⟨n, hn⟩ : ∃ n : Nat, n = s.size - p := ⟨_, rfl⟩
        have hmin : (s.size : Int) - (p : Int) = (n : Int) := by omega
        have hd2 : decide ((i : Int) < (cuts.length : Int)) = false := by simp; omega
        have hpn : p + n ≤ s.size := by omega
        have hprog : (s.size - (p + n)) + (cuts.length + 1 - (i + 1)) < (s.size - p) + (cuts.length + 1 - i) := by omega
        have hend : p + n = s.size := by omega
        have HEnd : Hid (i + 1 ≤ cuts.length ∨ p + n = s.size) := Or.inr hend
        clear hie hn hend
        obtain ⟨vc5, vk5, hx10, hck5⟩ := h10.out
        obtain ⟨T, hT⟩ : ∃ T : Scr, T = S.bytes (s.data.toList.take p) := ⟨_, rfl⟩
        rw [← hT] at hx10 hck5
        have hok5 : T.Ok := by rw [hT]; exact HO.out.bytes _
        have HT := Lib.hid hT
        have HV5 := Lib.hid hck5
        obtain ⟨vc6, vk6, he6, h11, h12, h13, h14⟩ := hck5
        injection he6 with he6
        have e5 : vc5 = vc6 := by have := congrArg (fun a => a[5]?) he6; simpa [Scr.vals] using this
        have e6 : vk5 = vk6 := by have := congrArg (fun a => a[6]?) he6; simpa [Scr.vals] using this
        subst e5 e6
        have h15 := h11.1; have h16 := h12.1
        obtain ⟨-, A5, k5, rfl, -, -, -, -⟩ := h15
        obtain ⟨-, A6, k6, rfl, -, -, -, -⟩ := h16
        have HO5 := Lib.hid hok5; have HX10 := Lib.hid hx10
        have g0 : wr.cell? ⟨b7 + 1 + 1, 0, none⟩ = some (.int .i64 T.cols) := cell_of_row _ _ _ _ _ _ hx10
        have g1 : wr.cell? ⟨b7 + 1 + 1, 1, none⟩ = some (.int .i64 T.rows) := cell_of_row _ _ _ _ _ _ hx10
        have g2 : wr.cell? ⟨b7 + 1 + 1, 2, none⟩ = some (.int .i64 T.most) := cell_of_row _ _ _ _ _ _ hx10
        have g3 : wr.cell? ⟨b7 + 1 + 1, 3, none⟩ = some (.int .i64 T.x) := cell_of_row _ _ _ _ _ _ hx10
        have g4 : wr.cell? ⟨b7 + 1 + 1, 4, none⟩ = some (.int .i64 T.y) := cell_of_row _ _ _ _ _ _ hx10
        have g5 : wr.cell? ⟨b7 + 1 + 1, 5, none⟩ = some (.slice A5 T.grid.length k5) := cell_of_row _ _ _ _ _ _ hx10
        have g6 : wr.cell? ⟨b7 + 1 + 1, 6, none⟩ = some (.slice A6 T.kept.length k6) := cell_of_row _ _ _ _ _ _ hx10
        have g7 : wr.cell? ⟨b7 + 1 + 1, 7, none⟩ = some (.int .i64 T.st) := cell_of_row _ _ _ _ _ _ hx10
        have g8 : wr.cell? ⟨b7 + 1 + 1, 8, none⟩ = some (.int .i64 T.n0) := cell_of_row _ _ _ _ _ _ hx10
        have g9 : wr.cell? ⟨b7 + 1 + 1, 9, none⟩ = some (.int .i64 T.n1) := cell_of_row _ _ _ _ _ _ hx10
        have g10 : wr.cell? ⟨b7 + 1 + 1, 10, none⟩ = some (.int .i64 T.num) := cell_of_row _ _ _ _ _ _ hx10
        have hwpn : IntKind.i64.wrap ((p : Int) + (n : Int)) = ((p + n : Nat) : Int) := by rw [IntWalk.i64_in _ (by omega)]; omega
        obtain ⟨q, hq⟩ : ∃ q : Nat, q = p + n := ⟨_, rfl⟩
        rw [← hq] at hwpn
        have hq1 : (p : Int) ≤ (q : Int) := by omega
        have hq2 : (q : Int) ≤ (s.size : Int) := by omega
        have HQ := Lib.hid hq
        clear h11 h12 h13 h14 hok5 hx10 hT hq he6
        go_wp2_with fail
        go_still_tail 7, (by kernel_rfl)
        change wpList _ _ _ _ _ wr.drew
        go_wp2_with fail
        refine (write_walk (.agg (T.vals (.slice A5 T.grid.length k5) (.slice A6 T.kept.length k6))) T (s.extract p q) _ (by exact (HV5.out.next (below_self_drew wr _)).cv) HO5.out (by rw [ByteArray.size_extract]; omega)).mono ?_
        rintro e w5 ⟨v5, rfl, hck6, hb5⟩
        obtain ⟨U, hU⟩ : ∃ U : Scr, U = T.bytes (s.extract p q).data.toList := ⟨_, rfl⟩
        rw [← hU] at hck6
        have HU : Hid (S.bytes (s.data.toList.take q) = U) := by rw [hU, HT.out, HQ.out, take_more, Scr.bytes_append]; exact Lib.hid rfl
        have HV6 := Lib.hid hck6
        obtain ⟨vc7, vk7, rfl, h17, h18, -, -⟩ := hck6
        have h19 := h17.1; have h20 := h18.1
        obtain ⟨-, A7, k7, rfl, -, -, -, -⟩ := h19
        obtain ⟨-, A8, k8, rfl, -, -, -, -⟩ := h20
        have hx5 : w5.heap[b7 + 1 + 1]? = some (.cells (T.vals (.slice A5 T.grid.length k5) (.slice A6 T.kept.length k6)) 29 (0, 0)) := (hb5.block _ (block_lt (w := wr) HX10.out)).trans HX10.out
        have hbw5 : Below w.heap.size w w5 := below_next (below_drew hbw.out) hb5
        have hs5 : b7 + 1 + 1 < w5.heap.size := block_lt hx5
        have p0 : w5.cell? ⟨b7 + 1 + 1, 0, none⟩ = some (.int .i64 T.cols) := cell_of_row _ _ _ _ _ _ hx5
        have p1 : w5.cell? ⟨b7 + 1 + 1, 1, none⟩ = some (.int .i64 T.rows) := cell_of_row _ _ _ _ _ _ hx5
        have p2 : w5.cell? ⟨b7 + 1 + 1, 2, none⟩ = some (.int .i64 T.most) := cell_of_row _ _ _ _ _ _ hx5
        have p3 : w5.cell? ⟨b7 + 1 + 1, 3, none⟩ = some (.int .i64 T.x) := cell_of_row _ _ _ _ _ _ hx5
        have p4 : w5.cell? ⟨b7 + 1 + 1, 4, none⟩ = some (.int .i64 T.y) := cell_of_row _ _ _ _ _ _ hx5
        have p5 : w5.cell? ⟨b7 + 1 + 1, 5, none⟩ = some (.slice A5 T.grid.length k5) := cell_of_row _ _ _ _ _ _ hx5
        have p6 : w5.cell? ⟨b7 + 1 + 1, 6, none⟩ = some (.slice A6 T.kept.length k6) := cell_of_row _ _ _ _ _ _ hx5
        have p7 : w5.cell? ⟨b7 + 1 + 1, 7, none⟩ = some (.int .i64 T.st) := cell_of_row _ _ _ _ _ _ hx5
        have p8 : w5.cell? ⟨b7 + 1 + 1, 8, none⟩ = some (.int .i64 T.n0) := cell_of_row _ _ _ _ _ _ hx5
        have p9 : w5.cell? ⟨b7 + 1 + 1, 9, none⟩ = some (.int .i64 T.n1) := cell_of_row _ _ _ _ _ _ hx5
        have p10 : w5.cell? ⟨b7 + 1 + 1, 10, none⟩ = some (.int .i64 T.num) := cell_of_row _ _ _ _ _ _ hx5
        have u0 : w5.frozen? ⟨b7 + 1 + 1, 0, none⟩ = false := frozen_of_row _ _ _ _ _ hx5
        have u1 : w5.frozen? ⟨b7 + 1 + 1, 1, none⟩ = false := frozen_of_row _ _ _ _ _ hx5
        have u2 : w5.frozen? ⟨b7 + 1 + 1, 2, none⟩ = false := frozen_of_row _ _ _ _ _ hx5
        have u3 : w5.frozen? ⟨b7 + 1 + 1, 3, none⟩ = false := frozen_of_row _ _ _ _ _ hx5
        have u4 : w5.frozen? ⟨b7 + 1 + 1, 4, none⟩ = false := frozen_of_row _ _ _ _ _ hx5
        have u5 : w5.frozen? ⟨b7 + 1 + 1, 5, none⟩ = false := frozen_of_row _ _ _ _ _ hx5
        have u6 : w5.frozen? ⟨b7 + 1 + 1, 6, none⟩ = false := frozen_of_row _ _ _ _ _ hx5
        have u7 : w5.frozen? ⟨b7 + 1 + 1, 7, none⟩ = false := frozen_of_row _ _ _ _ _ hx5
        have u8 : w5.frozen? ⟨b7 + 1 + 1, 8, none⟩ = false := frozen_of_row _ _ _ _ _ hx5
        have u9 : w5.frozen? ⟨b7 + 1 + 1, 9, none⟩ = false := frozen_of_row _ _ _ _ _ hx5
        have u10 : w5.frozen? ⟨b7 + 1 + 1, 10, none⟩ = false := frozen_of_row _ _ _ _ _ hx5
        have Q1 := Lib.hid (SB.store hx5 HV6.out)
        have Q2 := Lib.hid (((h7.out.next (below_self_drew wr _)).next hb5).other hx5 (by omega) 0 (U.vals (.slice A7 U.grid.length k7) (.slice A8 U.kept.length k8)).toList)
        have Q3 := Lib.hid (hbw5.grown (grown_setCells w5 (b7 + 1 + 1) 0 (U.vals (.slice A7 U.grid.length k7) (.slice A8 U.kept.length k8)).toList) (by omega) (fun q hq => by injection hq with hq; omega))
        rw [Scr.vals_eq U]
        clear hx5 hbw5 hb5 hU h17 h18 HV6
        go_wp2_with fail
        go_roundw
        case rel =>
          have hqq := HQ.out
          refine ⟨q, i + 1, by omega, by omega, (by rw [hqq]; exact HEnd.out), rfl, by go_num, Q2.out, ?_, Q3.out⟩
          rw [HU.out]
          exact Q1.out
        case measure => have hqq := HQ.out; simp [intOf]; omega
    · obtain rfl : p = s.size := by omega
      have hd1 : decide ((s.size : Int) < (s.size : Int)) = false := by simp
      rw [List.take_of_length_le (by simp)] at h10
      obtain ⟨T, hT⟩ : ∃ T : Scr, T = S.bytes s.data.toList := ⟨_, rfl⟩
      rw [← hT] at h10
      have hok5 : T.Ok := by rw [hT]; exact HO.out.bytes _
      have HO5 := Lib.hid hok5
      have HT := Lib.hid hT
      obtain ⟨vc4, vk4, hx7, hck4⟩ := h7.out
      have HX7 := Lib.hid hx7
      have HV4 := Lib.hid hck4
      obtain ⟨vc6, vk6, he6, h11, h12, h13, h14⟩ := hck4
      injection he6 with he6
      have e5 : vc4 = vc6 := by have := congrArg (fun a => a[5]?) he6; simpa [Scr.vals] using this
      have e6 : vk4 = vk6 := by have := congrArg (fun a => a[6]?) he6; simpa [Scr.vals] using this
      subst e5 e6
      have h15 := h11.1; have h16 := h12.1
      obtain ⟨-, A5, k5, rfl, -, -, -, -⟩ := h15
      obtain ⟨-, A6, k6, rfl, -, -, -, -⟩ := h16
      have g0 : wr.cell? ⟨b7, 0, none⟩ = some (.int .i64 S.cols) := cell_of_row _ _ _ _ _ _ hx7
      have g1 : wr.cell? ⟨b7, 1, none⟩ = some (.int .i64 S.rows) := cell_of_row _ _ _ _ _ _ hx7
      have g2 : wr.cell? ⟨b7, 2, none⟩ = some (.int .i64 S.most) := cell_of_row _ _ _ _ _ _ hx7
      have g3 : wr.cell? ⟨b7, 3, none⟩ = some (.int .i64 S.x) := cell_of_row _ _ _ _ _ _ hx7
      have g4 : wr.cell? ⟨b7, 4, none⟩ = some (.int .i64 S.y) := cell_of_row _ _ _ _ _ _ hx7
      have g5 : wr.cell? ⟨b7, 5, none⟩ = some (.slice A5 S.grid.length k5) := cell_of_row _ _ _ _ _ _ hx7
      have g6 : wr.cell? ⟨b7, 6, none⟩ = some (.slice A6 S.kept.length k6) := cell_of_row _ _ _ _ _ _ hx7
      have g7 : wr.cell? ⟨b7, 7, none⟩ = some (.int .i64 S.st) := cell_of_row _ _ _ _ _ _ hx7
      have g8 : wr.cell? ⟨b7, 8, none⟩ = some (.int .i64 S.n0) := cell_of_row _ _ _ _ _ _ hx7
      have g9 : wr.cell? ⟨b7, 9, none⟩ = some (.int .i64 S.n1) := cell_of_row _ _ _ _ _ _ hx7
      have g10 : wr.cell? ⟨b7, 10, none⟩ = some (.int .i64 S.num) := cell_of_row _ _ _ _ _ _ hx7
      clear h11 h12 h13 h14 hok5 hx7 hT he6
      go_wp2_with fail
      refine (write_walk (.agg (S.vals (.slice A5 S.grid.length k5) (.slice A6 S.kept.length k6))) S s _ (by exact HV4.out.cv) HO.out (by omega)).mono ?_
      rintro e w5 ⟨v5, rfl, hck6, hb5⟩
      rw [← HT.out] at hck6
      have HV5 := Lib.hid hck6
      obtain ⟨vc7, vk7, rfl, h17, h18, -, -⟩ := hck6
      have h19 := h17.1; have h20 := h18.1
      obtain ⟨-, A7, k7, rfl, -, -, -, -⟩ := h19
      obtain ⟨-, A8, k8, rfl, -, -, -, -⟩ := h20
      have h10' := Lib.hid (h10.out.next hb5)
      have HB5 : Hid (Below w.heap.size w w5) := below_next hbw.out hb5
      rw [Scr.vals_eq T]
      clear hb5 h17 h18 h10 h7 hbw HX7 HV4 g0 g1 g2 g3 g4 g5 g6 g7 g8 g9 g10
      go_upto_region 16 with fail
      obtain ⟨w6, hw6⟩ : ∃ w6, w6 = w5.alloc (.cells (T.vals (.slice A7 T.grid.length k7) (.slice A8 T.kept.length k8)) 29) := ⟨_, rfl⟩
      have hb56 : Below w5.heap.size w5 w6 := by rw [hw6]; exact (Below.refl _ _).alloc (Nat.le_refl _) _
      have HY6 : Hid (w6.heap[w5.heap.size]? = some (.cells (T.vals (.slice A7 T.grid.length k7) (.slice A8 T.kept.length k8)) 29 (0, 0))) := by rw [hw6]; exact heap_alloc_new _ _
      have HVe := Lib.hid (HV5.out.next hb56)
      have HB6 : Hid (Below w.heap.size w w6) := below_next HB5.out hb56
      obtain ⟨vc9, vk9, hx9, hck9⟩ := h10'.out.next hb56
      have HX6 := Lib.hid hx9
      have HVd := Lib.hid hck9
      obtain ⟨vc8, vk8, he8, h21, h22, h23, h24⟩ := hck9
      injection he8 with he8
      have e5 : vc9 = vc8 := by have := congrArg (fun a => a[5]?) he8; simpa [Scr.vals] using this
      have e6 : vk9 = vk8 := by have := congrArg (fun a => a[6]?) he8; simpa [Scr.vals] using this
      subst e5 e6
      have h25 := h21.1; have h26 := h22.1
      obtain ⟨-, A9, k9, rfl, -, -, -, -⟩ := h25
      obtain ⟨-, A10, k10, rfl, -, -, -, -⟩ := h26
      rw [Scr.vals_eq T] at hw6
      rw [← hw6]
      obtain ⟨be, hbe⟩ : ∃ be, be = w5.heap.size := ⟨_, rfl⟩
      rw [← hbe] at HY6 ⊢
      have hy9 := HY6.out
      clear hw6 hb56 HV5 HB5 h10' h21 h22 h23 h24 he8 hbe
      have g0 : w6.cell? ⟨b7 + 1 + 1, 0, none⟩ = some (.int .i64 T.cols) := cell_of_row _ _ _ _ _ _ hx9
      have g1 : w6.cell? ⟨b7 + 1 + 1, 1, none⟩ = some (.int .i64 T.rows) := cell_of_row _ _ _ _ _ _ hx9
      have g2 : w6.cell? ⟨b7 + 1 + 1, 2, none⟩ = some (.int .i64 T.most) := cell_of_row _ _ _ _ _ _ hx9
      have g3 : w6.cell? ⟨b7 + 1 + 1, 3, none⟩ = some (.int .i64 T.x) := cell_of_row _ _ _ _ _ _ hx9
      have g4 : w6.cell? ⟨b7 + 1 + 1, 4, none⟩ = some (.int .i64 T.y) := cell_of_row _ _ _ _ _ _ hx9
      have g5 : w6.cell? ⟨b7 + 1 + 1, 5, none⟩ = some (.slice A9 T.grid.length k9) := cell_of_row _ _ _ _ _ _ hx9
      have g6 : w6.cell? ⟨b7 + 1 + 1, 6, none⟩ = some (.slice A10 T.kept.length k10) := cell_of_row _ _ _ _ _ _ hx9
      have g7 : w6.cell? ⟨b7 + 1 + 1, 7, none⟩ = some (.int .i64 T.st) := cell_of_row _ _ _ _ _ _ hx9
      have g8 : w6.cell? ⟨b7 + 1 + 1, 8, none⟩ = some (.int .i64 T.n0) := cell_of_row _ _ _ _ _ _ hx9
      have g9 : w6.cell? ⟨b7 + 1 + 1, 9, none⟩ = some (.int .i64 T.n1) := cell_of_row _ _ _ _ _ _ hx9
      have g10 : w6.cell? ⟨b7 + 1 + 1, 10, none⟩ = some (.int .i64 T.num) := cell_of_row _ _ _ _ _ _ hx9
      clear hx9
      go_wp2_with fail
      refine (cursor_any (.agg (T.vals (.slice A9 T.grid.length k9) (.slice A10 T.kept.length k10))) T _ (by exact HVd.out.cv)).mono ?_
      rintro e w7 ⟨rfl, hb7'⟩
      have hy7 := (hb7'.block _ (block_lt hy9)).trans hy9
      have q0 : w7.cell? ⟨be, 0, none⟩ = some (.int .i64 T.cols) := cell_of_row _ _ _ _ _ _ hy7
      have q1 : w7.cell? ⟨be, 1, none⟩ = some (.int .i64 T.rows) := cell_of_row _ _ _ _ _ _ hy7
      have q2 : w7.cell? ⟨be, 2, none⟩ = some (.int .i64 T.most) := cell_of_row _ _ _ _ _ _ hy7
      have q3 : w7.cell? ⟨be, 3, none⟩ = some (.int .i64 T.x) := cell_of_row _ _ _ _ _ _ hy7
      have q4 : w7.cell? ⟨be, 4, none⟩ = some (.int .i64 T.y) := cell_of_row _ _ _ _ _ _ hy7
      have q5 : w7.cell? ⟨be, 5, none⟩ = some (.slice A7 T.grid.length k7) := cell_of_row _ _ _ _ _ _ hy7
      have q6 : w7.cell? ⟨be, 6, none⟩ = some (.slice A8 T.kept.length k8) := cell_of_row _ _ _ _ _ _ hy7
      have q7 : w7.cell? ⟨be, 7, none⟩ = some (.int .i64 T.st) := cell_of_row _ _ _ _ _ _ hy7
      have q8 : w7.cell? ⟨be, 8, none⟩ = some (.int .i64 T.n0) := cell_of_row _ _ _ _ _ _ hy7
      have q9 : w7.cell? ⟨be, 9, none⟩ = some (.int .i64 T.n1) := cell_of_row _ _ _ _ _ _ hy7
      have q10 : w7.cell? ⟨be, 10, none⟩ = some (.int .i64 T.num) := cell_of_row _ _ _ _ _ _ hy7
      have HX7 := Lib.hid ((hb7'.block _ (block_lt HX6.out)).trans HX6.out)
      have HY7 := Lib.hid hy7
      have HVd7 := Lib.hid (HVd.out.next hb7')
      have HVe7 := Lib.hid (HVe.out.next hb7')
      have HB7 : Hid (Below w.heap.size w w7) := below_next HB6.out hb7'
      clear hy7 hy9 hb7' HX6 HY6 HVd HVe HB6 g0 g1 g2 g3 g4 g5 g6 g7 g8 g9 g10
      go_wp2_with fail
      refine (cursor_any (.agg (T.vals (.slice A7 T.grid.length k7) (.slice A8 T.kept.length k8))) T _ (by exact HVe7.out.cv)).mono ?_
      rintro e w8 ⟨rfl, hb8⟩
      have HX8 := Lib.hid ((hb8.block _ (block_lt HX7.out)).trans HX7.out)
      have HY8 := Lib.hid ((hb8.block _ (block_lt HY7.out)).trans HY7.out)
      have HVd8 := Lib.hid (HVd7.out.next hb8)
      have HVe8 := Lib.hid (HVe7.out.next hb8)
      have HB8 : Hid (Below w.heap.size w w8) := below_next HB7.out hb8
      clear hb8 HX7 HY7 HVd7 HVe7 HB7 q0 q1 q2 q3 q4 q5 q6 q7 q8 q9 q10
      go_upto_region 18 with fail
      obtain ⟨R, hR⟩ : ∃ R : ByteArray, strV T.text = .string R := ⟨_, rfl⟩
      clear HR
      have HR := Lib.hid hR
      clear hR
      generalize Value.agg #[.int .i64 S.cols, .int .i64 S.rows, .int .i64 S.most, .int .i64 S.x, .int .i64 S.y, .slice A1 S.grid.length k1, .slice A2 S.kept.length k2, .int .i64 S.st, .int .i64 S.n0, .int .i64 S.n1, .int .i64 S.num] = z1
      generalize Value.agg #[.int .i64 M.w, .int .i64 M.h, .int .i64 M.most, .slice A3 M.rows.length k3, .slice A4 M.kept.length k4, .int .i64 M.x, .int .i64 M.y, .int .i64 M.begun, .string (bs M.args)] = z2
      generalize Value.tuple #[z1, z2, .bool true] = z3
      generalize Value.agg #[.int .u8 a, .int .u8 b, .int .u8 k] = z4
      generalize Value.slice A0 cuts.length c0 = z5
      have hL : ∀ w', Later w8 w' → w'.heap[b7 + 1 + 1]? = some (.cells (T.vals (.slice A9 T.grid.length k9) (.slice A10 T.kept.length k10)) 29 (0, 0)) := fun w' h => (h.block _ (block_lt HX8.out)).trans HX8.out
      have hLe : ∀ w', Later w8 w' → w'.heap[be]? = some (.cells (T.vals (.slice A7 T.grid.length k7) (.slice A8 T.kept.length k8)) 29 (0, 0)) := fun w' h => (h.block _ (block_lt HY8.out)).trans HY8.out
      refine wp_region_meek [Stay.val (.agg (T.vals (.slice A9 T.grid.length k9) (.slice A10 T.kept.length k10))), Stay.val (.string R), Stay.val (.agg (T.vals (.slice A7 T.grid.length k7) (.slice A8 T.kept.length k8))), Stay.val (.string R), Stay.val (.bool false), Stay.val (.bool false),
        Stay.val (.int .i64 T.x), Stay.val (.int .i64 T.x), Stay.val (.bool false), Stay.val (.bool false), Stay.val (.bool false),
        Stay.val (.int .i64 T.y), Stay.val (.int .i64 T.y), Stay.val (.bool false), Stay.val (.bool false), Stay.val (.bool false),
        Stay.val (.agg (T.vals (.slice A9 T.grid.length k9) (.slice A10 T.kept.length k10))), Stay.val (.int .i64 T.kept.length), Stay.val (.agg (T.vals (.slice A7 T.grid.length k7) (.slice A8 T.kept.length k8))), Stay.val (.int .i64 T.kept.length), Stay.val (.bool false), Stay.val (.bool false)] 110 rfl (by kernel_rfl) (by kernel_rfl) ?_ ?_
      · refine ⟨meek_plain rfl (body_load _ _ _ _ rfl (opd_out 10 (by kernel_rfl) _ rfl) fun w' h => ⟨load_scr (hL w' h), rfl⟩), ?_⟩
        refine ⟨meek_plain rfl (body_call1 _ _ _ _ rfl (by kernel_rfl) (opd_in 0 78 (by kernel_rfl)) fun v w' h hv => ?_), ?_⟩
        · obtain rfl := hv
          refine (text_walk _ T _ (HVd8.out.next h).cv HO5.out).mono ?_
          rintro e w9 ⟨rfl, hb9⟩
          exact ⟨_, rfl, hb9, HR.out⟩
        refine ⟨meek_plain rfl (body_load _ _ _ _ rfl (opd_out 14 (by kernel_rfl) _ rfl) fun w' h => ⟨load_scr (hLe w' h), rfl⟩), ?_⟩
        refine ⟨meek_plain rfl (body_call1 _ _ _ _ rfl (by kernel_rfl) (opd_in 2 80 (by kernel_rfl)) fun v w' h hv => ?_), ?_⟩
        · obtain rfl := hv
          refine (text_walk _ T _ (HVe8.out.next h).cv HO5.out).mono ?_
          rintro e w9 ⟨rfl, hb9⟩
          exact ⟨_, rfl, hb9, HR.out⟩
        refine ⟨meek_plain rfl (body_two _ _ _ _ (.bool false) (opd_in 1 79 (by kernel_rfl)) (opd_in 3 81 (by kernel_rfl)) (fun _ => rfl) fun ρ w h1 h2 => ?_), ?_⟩
        · simp [execOp, h1, h2, go_sem]
        refine ⟨meek_plain rfl (body_move _ rfl (opd_in 4 82 (by kernel_rfl))), ?_⟩
        refine ⟨meek_on 5 false 110 rfl (by kernel_rfl) (fun _ _ h => h) (body_move _ rfl (opd_out 15 (by kernel_rfl) _ rfl)), ?_⟩
        refine ⟨meek_on 5 false 110 rfl (by kernel_rfl) (fun _ _ h => h) (body_move _ rfl (opd_out 17 (by kernel_rfl) _ rfl)), ?_⟩
        refine ⟨meek_on 5 false 110 rfl (by kernel_rfl) (fun _ _ h => h) (body_two _ _ _ _ (.bool false) (opd_in 6 84 (by kernel_rfl)) (opd_in 7 85 (by kernel_rfl)) (fun _ => rfl) fun ρ w h1 h2 => (by simp [execOp, h1, h2, go_sem])), ?_⟩
        refine ⟨meek_plain rfl (body_pick _ _ _ false rfl (opd_in 5 83 (by kernel_rfl)) (opd_in 8 86 (by kernel_rfl))), ?_⟩
        refine ⟨meek_plain rfl (body_move _ rfl (opd_in 9 87 (by kernel_rfl))), ?_⟩
        refine ⟨meek_on 10 false 110 rfl (by kernel_rfl) (fun _ _ h => h) (body_move _ rfl (opd_out 16 (by kernel_rfl) _ rfl)), ?_⟩
        refine ⟨meek_on 10 false 110 rfl (by kernel_rfl) (fun _ _ h => h) (body_move _ rfl (opd_out 18 (by kernel_rfl) _ rfl)), ?_⟩
        refine ⟨meek_on 10 false 110 rfl (by kernel_rfl) (fun _ _ h => h) (body_two _ _ _ _ (.bool false) (opd_in 11 89 (by kernel_rfl)) (opd_in 12 90 (by kernel_rfl)) (fun _ => rfl) fun ρ w h1 h2 => (by simp [execOp, h1, h2, go_sem])), ?_⟩
        refine ⟨meek_plain rfl (body_pick _ _ _ false rfl (opd_in 10 88 (by kernel_rfl)) (opd_in 13 91 (by kernel_rfl))), ?_⟩
        refine ⟨meek_plain rfl (body_move _ rfl (opd_in 14 92 (by kernel_rfl))), ?_⟩
        refine ⟨meek_on 15 false 110 rfl (by kernel_rfl) (fun _ _ h => h) (body_load _ _ _ _ rfl (opd_out 10 (by kernel_rfl) _ rfl) fun w' h => ⟨load_scr (hL w' h), rfl⟩), ?_⟩
        refine ⟨meek_on 15 false 110 rfl (by kernel_rfl) (fun _ _ h => h) (body_call1 _ _ _ _ rfl (by kernel_rfl) (opd_in 16 94 (by kernel_rfl)) fun v w' h hv => ?_), ?_⟩
        · obtain rfl := hv
          refine (kept_any _ T _ (HVd8.out.next h).cv).mono ?_
          rintro e w9 ⟨rfl, hb9⟩
          exact ⟨_, rfl, hb9, rfl⟩
        refine ⟨meek_on 15 false 110 rfl (by kernel_rfl) (fun _ _ h => h) (body_load _ _ _ _ rfl (opd_out 14 (by kernel_rfl) _ rfl) fun w' h => ⟨load_scr (hLe w' h), rfl⟩), ?_⟩
        refine ⟨meek_on 15 false 110 rfl (by kernel_rfl) (fun _ _ h => h) (body_call1 _ _ _ _ rfl (by kernel_rfl) (opd_in 18 96 (by kernel_rfl)) fun v w' h hv => ?_), ?_⟩
        · obtain rfl := hv
          refine (kept_any _ T _ (HVe8.out.next h).cv).mono ?_
          rintro e w9 ⟨rfl, hb9⟩
          exact ⟨_, rfl, hb9, rfl⟩
        refine ⟨meek_on 15 false 110 rfl (by kernel_rfl) (fun _ _ h => h) (body_two _ _ _ _ (.bool false) (opd_in 17 95 (by kernel_rfl)) (opd_in 19 97 (by kernel_rfl)) (fun _ => rfl) fun ρ w h1 h2 => (by simp [execOp, h1, h2, go_sem])), ?_⟩
        exact ⟨meek_plain rfl (body_pick _ _ _ false rfl (opd_in 15 93 (by kernel_rfl)) (opd_in 20 98 (by kernel_rfl))), trivial⟩
      · intro g w9 h9 hend
        have e21 : g 99 = .bool false := meek_val hend 21 99 (by kernel_rfl) _ rfl
        clear hend
        simp only [putAll, Act.put, List.setIfInBounds_toArray, List.set_cons_succ, List.set_cons_zero, e21]
        clear e21
        go_upto_region 20 with fail
        have hL2 : ∀ w', Later w9 w' → w'.heap[b7 + 1 + 1]? = some (.cells (T.vals (.slice A9 T.grid.length k9) (.slice A10 T.kept.length k10)) 29 (0, 0)) := fun w' h => hL w' (h9.trans h)
        have hLe2 : ∀ w', Later w9 w' → w'.heap[be]? = some (.cells (T.vals (.slice A7 T.grid.length k7) (.slice A8 T.kept.length k8)) 29 (0, 0)) := fun w' h => hLe w' (h9.trans h)
        obtain ⟨U, hU⟩ : ∃ U : Scr, U = T.bytes [49, 59, 50, 72, 33] := ⟨_, rfl⟩
        have HOU : U.Ok := by rw [hU]; exact HO5.out.bytes _
        refine wp_region_meek [Stay.val (.agg (T.vals (.slice A9 T.grid.length k9) (.slice A10 T.kept.length k10))), Stay.ck U, Stay.val (strV U.text), Stay.val (.agg (T.vals (.slice A7 T.grid.length k7) (.slice A8 T.kept.length k8))), Stay.ck U, Stay.val (strV U.text), Stay.val (.bool true), Stay.val (.bool true), Stay.val (.bool true), Stay.val (.bool true), Stay.val (.bool true)] 110 rfl (by kernel_rfl) (by kernel_rfl) ?_ ?_
        · refine ⟨meek_plain rfl (body_load _ _ _ _ rfl (opd_out 10 (by kernel_rfl) _ rfl) fun w' h => ⟨load_scr (hL2 w' h), rfl⟩), ?_⟩
          refine ⟨meek_plain rfl (body_call2 _ _ _ _ _ _ rfl (by kernel_rfl) (opd_in 0 100 (by kernel_rfl)) (opd_const _) fun v u w' h hv hu => ?_), ?_⟩
          · obtain rfl := hv
            obtain rfl := hu
            refine (write_walk _ T _ _ (HVd8.out.next (h9.trans h)).cv HO5.out (by decide)).mono ?_
            rintro e w10 ⟨v10, rfl, hck, hb10⟩
            exact ⟨_, rfl, hb10, by rw [hU]; exact hck⟩
          refine ⟨meek_plain rfl (body_call1 _ _ _ _ rfl (by kernel_rfl) (opd_in 1 101 (by kernel_rfl)) fun v w' h hv => ?_), ?_⟩
          · refine (text_walk _ U _ (CK.cv hv) HOU).mono ?_
            rintro e w10 ⟨rfl, hb10⟩
            exact ⟨_, rfl, hb10, rfl⟩
          refine ⟨meek_plain rfl (body_load _ _ _ _ rfl (opd_out 14 (by kernel_rfl) _ rfl) fun w' h => ⟨load_scr (hLe2 w' h), rfl⟩), ?_⟩
          refine ⟨meek_plain rfl (body_call2 _ _ _ _ _ _ rfl (by kernel_rfl) (opd_in 3 103 (by kernel_rfl)) (opd_const _) fun v u w' h hv hu => ?_), ?_⟩
          · obtain rfl := hv
            obtain rfl := hu
            refine (write_walk _ T _ _ (HVe8.out.next (h9.trans h)).cv HO5.out (by decide)).mono ?_
            rintro e w10 ⟨v10, rfl, hck, hb10⟩
            exact ⟨_, rfl, hb10, by rw [hU]; exact hck⟩
          refine ⟨meek_plain rfl (body_call1 _ _ _ _ rfl (by kernel_rfl) (opd_in 4 104 (by kernel_rfl)) fun v w' h hv => ?_), ?_⟩
          · refine (text_walk _ U _ (CK.cv hv) HOU).mono ?_
            rintro e w10 ⟨rfl, hb10⟩
            exact ⟨_, rfl, hb10, rfl⟩
          refine ⟨meek_plain rfl (body_two _ _ _ _ (.bool true) (opd_in 2 102 (by kernel_rfl)) (opd_in 5 105 (by kernel_rfl)) (fun _ => rfl) fun ρ w h1 h2 => (by rw [strV_bs] at h1 h2; simp [execOp, h1, h2, go_sem])), ?_⟩
          refine ⟨meek_plain rfl (body_move _ rfl (opd_in 6 106 (by kernel_rfl))), ?_⟩
          refine ⟨meek_on 7 true 110 rfl (by kernel_rfl) (fun _ _ h => h) (body_call0 _ _ rfl (by kernel_rfl) fun w' h => ?_), ?_⟩
          · refine (awake_walk w').mono ?_
            rintro e w10 ⟨rfl, hb10⟩
            exact ⟨_, rfl, hb10, rfl⟩
          refine ⟨meek_plain rfl (body_pick _ _ _ true rfl (opd_in 7 107 (by kernel_rfl)) (opd_in 8 108 (by kernel_rfl))), ?_⟩
          exact ⟨meek_plain rfl (body_assign _ rfl (opd_in 9 109 (by kernel_rfl))), trivial⟩
        · intro g' w10 h10 hend
          have e6 : g' 6 = .bool true := meek_val hend 10 6 (by kernel_rfl) _ rfl
          clear hend
          simp only [putAll, Act.put, List.setIfInBounds_toArray, List.set_cons_succ, List.set_cons_zero, e6]
          clear e6
          go_wp2_with fail
          go_ret
          exact ⟨rfl, below_next (below_next HB8.out h9) h10⟩
theorem parts_all (a b k : Nat) (s : ByteArray) (v : Value) (cuts : List UInt8) (w : World) (ha : a < 256) (hb : b < 256) (hk : k < 256) (hs : s.size ≤ maxLen) (hv : Rdw w 1 v cuts.length (Lib.byteCells cuts)) (hcl : cuts.length ≤ 140737488351232) :
    Calls Tryd.prog 3 #[.agg #[.int .u8 a, .int .u8 b, .int .u8 k], .string s, v] w (ValPost w (.bool true)) := by
  by_cases h : s.size ≤ 500
  · exact parts_walk a b k s v cuts w ha hb hk h hv hcl
  · exact parts_big a b k s v w (by omega) (by unfold maxLen at hs; omega)
end Go.Proofs.YtiefpodmdpnppaaDoor
