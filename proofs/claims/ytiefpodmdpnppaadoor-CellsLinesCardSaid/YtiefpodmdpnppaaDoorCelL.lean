/-
  WALK of layer 56: Write.
-/
import Derived.Test.YtiefpodmdpnppaaDoorCelK
import Derived.WalkMore
namespace Go.Proofs.YtiefpodmdpnppaaDoor
open Go.RowKit

def byteAt (s : ByteArray) (k : Nat) : Nat := (s.data.toList.getD k 0).toNat
theorem byteAt_lt (s : ByteArray) (k : Nat) : byteAt s k < 256 := UInt8.toNat_lt _
theorem idx_str {P : Program} {t : TypeId} (h : P.underlying t = some .string) (s : ByteArray) (k : Nat) (n : Int) (hn : n = k) (hk : k < s.size) :
    ∀ w : World, (Instr.index t (.string s) (.int .i64 n)).run P w = .ok (.int .u8 (s.data.toList.getD k 0).toNat) w := by
  intro w
  subst hn
  rw [run_index_string w t s .i64 k h, dif_pos ⟨by omega, by omega⟩]
  have hl : k < s.data.toList.length := by simpa using hk
  have e : (s[(k : Int).toNat]'(by simpa using hk)) = s.data.toList.getD k 0 := by
    rw [List.getD_eq_getElem?_getD, List.getElem?_eq_getElem hl]
    simp only [Int.toNat_natCast, Option.getD_some]
    rfl
  rw [e]

def Scr.byte (S : Scr) (v : UInt8) : Scr :=
  if S.st = 1 then (if v.toNat = 91 then { S with st := 2, n0 := 0, n1 := 0, num := 0 } else { S with st := 0 })
  else if S.st = 2 then S.told v.toNat else S.plain v
def Scr.bytes (S : Scr) (l : List UInt8) : Scr := l.foldl Scr.byte S

def ScrPost (w : World) (S : Scr) (e : Ending) (w' : World) : Prop := ∃ v, e = .returned v ∧ CK w' v S ∧ Below w.heap.size w w'

theorem alloc2_fst (w : World) (X Y : Obj) : ((w.alloc X).alloc Y).heap[w.heap.size]? = some X := by
  rw [Below.heap_alloc (w.alloc X) Y w.heap.size (by simp)]; exact heap_alloc_new w X
theorem alloc2_snd (w : World) (X Y : Obj) : ((w.alloc X).alloc Y).heap[w.heap.size + 1]? = some Y := by
  have := heap_alloc_new (w.alloc X) Y
  simpa using this
theorem below_alloc2 (w : World) (X Y : Obj) : Below w.heap.size w ((w.alloc X).alloc Y) := ((Below.refl _ _).alloc (Nat.le_refl _) _).alloc (by simp) _
def zeroScr : Scr := ⟨0, 0, 0, 0, 0, [], [], 0, 0, 0, 0⟩
def nilS : Value := .slice none 0 0

theorem Scr.Ok.clear {S : Scr} (ok : S.Ok) (a b : Nat) (h : b ≤ S.grid.length) : (S.clear a b).Ok := { ok with g := (clearL_len S.grid a b h).trans ok.g }
theorem Scr.Ok.put {S : Scr} (ok : S.Ok) (v : UInt8) (h : S.x < S.cols) : (S.put v).Ok := { ok with x := h, g := (List.length_set).trans ok.g }
theorem Scr.Ok.pg {S : Scr} (ok : S.Ok) : S.y * S.cols + S.cols ≤ S.grid.length := by rw [ok.g, ← Nat.succ_mul, Nat.mul_comm]; exact Nat.mul_le_mul (Nat.le_refl _) ok.y
theorem Scr.Ok.blank {S : Scr} (ok : S.Ok) (n f t : Nat) (h : t ≤ S.grid.length) : (S.blank n f t).Ok := by
  have h1 := ok.pg
  have h2 := ok.c1
  unfold Scr.blank
  split
  · exact ok.clear _ _ h
  · split
    · exact ok.clear _ _ (by omega)
    · split
      · exact ok.clear _ _ h
      · exact ok
theorem Scr.Ok.plain {S : Scr} (ok : S.Ok) (v : UInt8) : (S.plain v).Ok := by
  have hx := ok.x
  have hc := ok.c1
  have hy := ok.y
  unfold Scr.plain
  split
  · unfold Scr.letter
    split
    · exact ok.lineEnd.put v (by rw [Scr.lineEnd_x, Scr.lineEnd_cols]; exact ok.c1)
    · exact ok.put v (by omega)
  split
  · exact ok.lineEnd
  split
  · exact { ok with x := Nat.zero_le _ }
  split
  · exact { ok with x := (by show S.x - 1 ≤ S.cols; omega) }
  split
  · exact { ok with x := (by show max (min ((S.x / 8 + 1) * 8) (S.cols - 1)) S.x ≤ S.cols; omega) }
  split
  · have := ok.clear 0 S.grid.length (Nat.le_refl _)
    exact { this with x := Nat.zero_le _, y := (by show 0 < S.rows; omega) }
  split
  · exact { ok with s := (by show 1 ≤ 2; omega) }
  · exact ok
theorem Scr.Ok.cmd {S : Scr} (ok : S.Ok) (k n m : Nat) : (S.cmd k n m).Ok := by
  have hx := ok.x
  have hc := ok.c1
  have hy := ok.y
  unfold Scr.cmd
  split
  · exact { ok with y := (by show S.y - max n 1 < S.rows; omega) }
  split
  · exact { ok with y := (by show min (S.y + max n 1) (S.rows - 1) < S.rows; omega) }
  split
  · exact { ok with x := (by show min (S.x + max n 1) (S.cols - 1) ≤ S.cols; omega) }
  split
  · exact { ok with x := (by show S.x - max n 1 ≤ S.cols; omega) }
  split
  · exact { ok with y := (by show min (max n 1) S.rows - 1 < S.rows; omega), x := (by show min (max m 1) S.cols - 1 ≤ S.cols; omega) }
  split
  · exact ok.blank _ _ _ (Nat.le_refl _)
  split
  · exact ok.blank _ _ _ (by have := ok.pg; rw [Nat.succ_mul]; exact this)
  · exact ok
theorem Scr.Ok.told {S : Scr} (ok : S.Ok) (v : Nat) : (S.told v).Ok := by
  unfold Scr.told
  split
  · split
    · exact { ok with a := (by show min _ 999 ≤ 999; omega) }
    split
    · exact { ok with b := (by show min _ 999 ≤ 999; omega) }
    · exact ok
  split
  · exact { ok with n := (by show min _ 2 ≤ 2; omega) }
  · exact Scr.Ok.cmd (S := { S with st := 0 }) { ok with s := (by show 0 ≤ 2; omega) } _ _ _
theorem Scr.Ok.byte {S : Scr} (ok : S.Ok) (v : UInt8) : (S.byte v).Ok := by
  unfold Scr.byte
  split
  · split
    · exact { ok with s := (by show 2 ≤ 2; omega), a := (by show 0 ≤ 999; omega), b := (by show 0 ≤ 999; omega), n := (by show 0 ≤ 2; omega) }
    · exact { ok with s := (by show 0 ≤ 2; omega) }
  split
  · exact ok.told _
  · exact ok.plain _
theorem Own.none {w : World} {B : Nat} {e : TypeId} {k n : Nat} {v : Value} {xs : List Value} (h : Own w B e k v n xs) : ∀ c, v = .slice none n c → c = 0 := by
  intro c hv
  rcases h.2 with ⟨A, hv', h0, _⟩ | ⟨g, o, c', hv', _⟩
  · rw [hv'] at hv; injection hv with _ _ h; exact h.symm
  · rw [hv'] at hv; injection hv with h; cases h
theorem CBat.cv {w : World} {B b : Nat} {S : Scr} {vc vk : Value} (h : CBat w B b S vc vk) {r : Nat} {cs : Array Value} {fz : Nat × Nat} (hr : w.heap[r]? = some (.cells cs 29 fz)) (o : Nat) (vs : List Value) : CK (w.setCells r o vs) (.agg (S.vals vc vk)) S :=
  ⟨vc, vk, rfl, (own_ne h.cells hr (by decide) (grown_setCells w r o vs)).rdt, (own_ne h.kept hr (by decide) (grown_setCells w r o vs)).rdt, h.cells.none, h.kept.none⟩
theorem Scr.Ok.bytes {S : Scr} (ok : S.Ok) (l : List UInt8) : (S.bytes l).Ok := by
  unfold Scr.bytes
  induction l generalizing S with
  | nil => exact ok
  | cons v l ih => exact ih (ok.byte v)
theorem bytes_snoc (S : Scr) (s : ByteArray) (i : Nat) (h : i < s.size) : S.bytes (s.data.toList.take (i + 1)) = (S.bytes (s.data.toList.take i)).byte (s.data.toList.getD i 0) := by
  unfold Scr.bytes
  have hl : i < s.data.toList.length := by simpa using h
  rw [List.take_succ_eq_append_getElem hl, List.foldl_append, List.getD_eq_getElem?_getD, List.getElem?_eq_getElem hl]
  rfl

set_option maxRecDepth 100000 in
set_option maxHeartbeats 800000 in
theorem write_walk (v : Value) (S : Scr) (s : ByteArray) (w : World) (h : CV w v S) (ok : S.Ok) (hs : s.size ≤ 1000000) :
    Calls Tryd.prog 12 #[v, .string s] w (ScrPost w (S.bytes s.data.toList)) := by
  obtain ⟨vc, vk, rfl, h1, h2, h3, h4⟩ := h
  have hc0 : ((S.cols : Int) == 0) = false := by have := ok.c1; simp; omega
  have hg2 := ok.g2
  have H1 := Lib.hid h1; have H2 := Lib.hid h2; have H3 := Lib.hid h3; have H4 := Lib.hid h4; have HO := Lib.hid ok
  clear h1 h2 h3 h4 ok
  unfold Scr.vals
  go_enter Tryd.func12, Tryd.ntmps12
  go_wp2_with fail
  go_step3
  go_wp2_with fail
  refine (clone8_any vc S.grid.length (Lib.byteCells S.grid) _ (by exact H1.out.next (below_alloc2 _ _ _)) (byte_one _) (by omega) H3.out).mono ?_
  rintro e w1 ⟨v1, rfl, hown1, hb1⟩
  have hx1 : w1.heap[w.heap.size]? = some (.cells (S.vals vc vk) 29 (0, 0)) := (hb1.block w.heap.size (by simp <;> omega)).trans (alloc2_fst _ _ _)
  have hy1 : w1.heap[w.heap.size + 1]? = some (.cells (zeroScr.vals nilS nilS) 29 (0, 0)) := (hb1.block (w.heap.size + 1) (by simp <;> omega)).trans (alloc2_snd _ _ _)
  have hbw1 : Below w.heap.size w w1 := below_next (below_alloc2 _ _ _) hb1
  have hc5 : w1.cell? ⟨w.heap.size, 5, none⟩ = some vc := cell_of_row _ _ _ _ _ _ hx1
  have hf5 : w1.frozen? ⟨w.heap.size, 5, none⟩ = false := frozen_of_row _ _ _ _ _ hx1
  have hc6 : w1.cell? ⟨w.heap.size, 6, none⟩ = some vk := cell_of_row _ _ _ _ _ _ hx1
  rw [show ((w.alloc _).alloc _).heap.size = w.heap.size + 2 from by simp] at hown1
  obtain ⟨_, A1, c1, rfl, _, _, _, _⟩ := hown1.rd
  have HX1 := Lib.hid hx1; have HY1 := Lib.hid hy1; have HB1 := Lib.hid hbw1; have HW1 := Lib.hid hown1
  clear hx1 hy1 hbw1 hown1 hb1
  go_wp2_with fail
  have hbs : Below w.heap.size w (w1.setCell ⟨w.heap.size, 5, none⟩ (.slice A1 S.grid.length c1)) := HB1.out.setCell (p := ⟨w.heap.size, 5, none⟩) (Nat.le_refl _) _
  have hkl : S.kept.length ≤ 65536 := by have := HO.out.k; have := HO.out.m; omega
  refine (cloneS_any vk S.kept.length (S.kept.map strV) _ (by exact H2.out.next hbs) (strV_one _) hkl H4.out).mono ?_
  rintro e w2 ⟨v2, rfl, hown2, hb2⟩
  obtain ⟨_, A2, c2, rfl, _, _, _, _⟩ := hown2.rd
  have hsz : (w1.setCell ⟨w.heap.size, 5, none⟩ (.slice A1 S.grid.length c1)).heap.size = w1.heap.size := by simp
  have hsz1 : w.heap.size + 2 ≤ w1.heap.size := by
    rcases Nat.lt_or_ge (w.heap.size + 1) w1.heap.size with hlt | hge
    · omega
    · have := HY1.out; rw [Array.getElem?_eq_none hge] at this; cases this
  rw [hsz] at hb2 hown2
  have hx2 : w2.heap[w.heap.size]? = some (.cells (S.vals (.slice A1 S.grid.length c1) vk) 29 (0, 0)) := by
    rw [hb2.block w.heap.size (by omega), heap_setCell_same w1 _ 5 _ _ _ HX1.out]; rfl
  have hy2 : w2.heap[w.heap.size + 1]? = some (.cells (zeroScr.vals nilS nilS) 29 (0, 0)) := by
    rw [hb2.block (w.heap.size + 1) (by omega), Below.heap_setCell _ _ _ _ (by show w.heap.size + 1 ≠ w.heap.size; omega)]; exact HY1.out
  have ho2 : Own w2 (w.heap.size + 2) 5 1 (.slice A1 S.grid.length c1) S.grid.length (Lib.byteCells S.grid) := (own_ne HW1.out HX1.out (by decide) (grown_setCell w1 w.heap.size 5 (.slice A1 S.grid.length c1))).next (by rw [hsz]; exact hb2)
  have hC : CBat (w2.setCell ⟨w.heap.size, 6, none⟩ (.slice A2 S.kept.length c2)) (w.heap.size + 2) w.heap.size S (.slice A1 S.grid.length c1) (.slice A2 S.kept.length c2) := by
    refine ⟨by rw [heap_setCell_same w2 _ 6 _ _ _ hx2]; rfl, own_ne ho2 hx2 (by decide) (grown_setCell w2 _ 6 (.slice A2 S.kept.length c2)), own_ne (hown2.base hsz1) hx2 (by decide) (grown_setCell w2 _ 6 (.slice A2 S.kept.length c2))⟩
  have hy3 : (w2.setCell ⟨w.heap.size, 6, none⟩ (.slice A2 S.kept.length c2)).heap[w.heap.size + 1]? = some (.cells (zeroScr.vals nilS nilS) 29 (0, 0)) := by
    rw [Below.heap_setCell _ _ _ _ (by show w.heap.size + 1 ≠ w.heap.size; omega)]; exact hy2
  have hb3 : Below w.heap.size w (w2.setCell ⟨w.heap.size, 6, none⟩ (.slice A2 S.kept.length c2)) := (hbs.trans (hb2.mono (by omega))).setCell (p := ⟨w.heap.size, 6, none⟩) (Nat.le_refl _) _
  have hs3 : w.heap.size + 2 ≤ (w2.setCell ⟨w.heap.size, 6, none⟩ (.slice A2 S.kept.length c2)).heap.size := by have := hb2.size; simp at this ⊢; omega
  have hc6 : w2.cell? ⟨w.heap.size, 6, none⟩ = some vk := cell_of_row _ _ _ _ _ _ hx2
  have hf6 : w2.frozen? ⟨w.heap.size, 6, none⟩ = false := frozen_of_row _ _ _ _ _ hx2
  obtain ⟨w3, hw3⟩ : ∃ w3, w3 = w2.setCell ⟨w.heap.size, 6, none⟩ (.slice A2 S.kept.length c2) := ⟨_, rfl⟩
  rw [← hw3] at hC hy3 hb3 hs3
  have HC := Lib.hid hC; have HY3 := Lib.hid hy3; have HB3 := Lib.hid hb3; have HW3 := Lib.hid hw3
  clear hC hy3 hb3 hw3 hbs hkl hown2 hb2 hsz hsz1 hx2 hy2 ho2 HX1 HY1 HB1 HW1 H1 H2 H3 H4
  go_wp2_with fail
  rw [← HW3.out]
  clear HW3 hc6 hf6
  go_step3
  go_wp2_with fail
  go_loopw [21] (fun iv wr => ∃ i : Nat, i ≤ s.size ∧ iv = .int .i64 i ∧ Hid (CB wr (w.heap.size + 2) w.heap.size (S.bytes (s.data.toList.take i))) ∧ Hid (Bx (w.heap.size + 2) w.heap.size w3 wr)) (fun iv _ => s.size - (intOf iv).toNat)
  case atStart => exact ⟨0, Nat.zero_le _, rfl, ⟨_, _, HC.out⟩, Bx.refl _ _ _⟩
  case round =>
    obtain ⟨i, hi, rfl, hC, hb⟩ := hrel
    obtain ⟨T, hT⟩ : ∃ T : Scr, T = S.bytes (s.data.toList.take i) := ⟨_, rfl⟩
    by_cases hlt : i < s.size
    · have okT : T.Ok := by rw [hT]; exact HO.out.bytes _
      have HN : Hid (S.bytes (s.data.toList.take (i + 1)) = T.byte (s.data.toList.getD i 0)) := by rw [hT]; exact Lib.hid (bytes_snoc S s i hlt)
      rw [← hT] at hC
      clear hT
      obtain ⟨vc3, vk3, hC⟩ := hC.out
      have hx := idx_str Tryd.underlying9 s i (i : Int) rfl hlt
      obtain ⟨c, hc⟩ : ∃ c : UInt8, c = s.data.toList.getD i 0 := ⟨_, rfl⟩
      rw [← hc] at hx HN
      clear hc
      have c7 : wr.cell? ⟨w.heap.size, 7, none⟩ = some (.int .i64 T.st) := hC.cell 7
      have hst := okT.s
      have hBr : w.heap.size + 2 ≤ wr.heap.size := Nat.le_trans hs3 hb.out.size
      by_cases hs1 : T.st = 1
      · have t1 : ((T.st : Int) == 1) = true := by rw [hs1]; rfl
        have f7 := hC.frozen 7
        have h5 := hC.set 7 (.int .i64 0) (S' := { T with st := 0 }) rfl rfl rfl
        by_cases h91 : c.toNat = 91
        · have t3 : ((c.toNat : Int) == 91) = true := by rw [h91]; rfl
          have c8 : wr.cell? ⟨w.heap.size, 8, none⟩ = some (.int .i64 T.n0) := hC.cell 8
          have c9 : wr.cell? ⟨w.heap.size, 9, none⟩ = some (.int .i64 T.n1) := hC.cell 9
          have c10 : wr.cell? ⟨w.heap.size, 10, none⟩ = some (.int .i64 T.num) := hC.cell 10
          have f8 := hC.frozen 8
          have f9 := hC.frozen 9
          have f10 := hC.frozen 10
          have h6 := (((h5.set 7 (.int .i64 2) (S' := { T with st := 2 }) rfl rfl rfl).set 8 (.int .i64 0) (S' := { T with st := 2, n0 := 0 }) rfl rfl rfl).set 9 (.int .i64 0) (S' := { T with st := 2, n0 := 0, n1 := 0 }) rfl rfl rfl).set 10 (.int .i64 0) (S' := { T with st := 2, n0 := 0, n1 := 0, num := 0 }) rfl rfl rfl
          have HC := Lib.hid h6; have HS1 := Lib.hid hs1; have H91 := Lib.hid h91
          clear hC okT hs1 h5 h6 h91
          go_wp2_with fail
          go_roundw
          case rel => exact ⟨i + 1, by omega, by go_num, by rw [HN.out, show T.byte c = { T with st := 2, n0 := 0, n1 := 0, num := 0 } from by unfold Scr.byte; rw [if_pos HS1.out, if_pos H91.out]]; exact ⟨_, _, HC.out⟩, ((((hb.out.setB _ _).setB _ _).setB _ _).setB _ _).setB _ _⟩
          case measure => simp [intOf]; omega
        · have t3 : ((c.toNat : Int) == 91) = false := by simp; omega
          have HC := Lib.hid h5; have HS1 := Lib.hid hs1; have H91 := Lib.hid h91
          clear hC okT hs1 h5 h91
          go_wp2_with fail
          go_roundw
          case rel => exact ⟨i + 1, by omega, by go_num, by rw [HN.out, show T.byte c = { T with st := 0 } from by unfold Scr.byte; rw [if_pos HS1.out, if_neg H91.out]]; exact ⟨_, _, HC.out⟩, hb.out.setB _ _⟩
          case measure => simp [intOf]; omega
      · by_cases hs2 : T.st = 2
        · have t1 : ((T.st : Int) == 1) = false := by simp; omega
          have t2 : ((T.st : Int) == 2) = true := by rw [hs2]; rfl
          have HC := Lib.hid hC; have HT := Lib.hid okT; have HS1 := Lib.hid hs1; have HS2 := Lib.hid hs2
          clear hC okT hs1 hs2
          go_wp2_with fail
          refine (told_walk (w.heap.size + 2) w.heap.size c T _ ⟨_, _, HC.out⟩ hBr HT.out).mono ?_
          rintro e w4 ⟨rfl, h4, hb4⟩
          have H4 := Lib.hid h4; have HB4 := Lib.hid hb4
          clear h4 hb4
          go_wp2_with fail
          go_roundw
          case rel => exact ⟨i + 1, by omega, by go_num, by rw [HN.out, show T.byte c = T.told c.toNat from by unfold Scr.byte; rw [if_neg HS1.out, if_pos HS2.out]]; exact H4, hb.out.trans HB4.out⟩
          case measure => simp [intOf]; omega
        · have t1 : ((T.st : Int) == 1) = false := by simp; omega
          have t2 : ((T.st : Int) == 2) = false := by simp; omega
          have HC := Lib.hid hC; have HT := Lib.hid okT; have HS1 := Lib.hid hs1; have HS2 := Lib.hid hs2
          clear hC okT hs1 hs2
          go_wp2_with fail
          refine (plain_walk (w.heap.size + 2) w.heap.size c T _ ⟨_, _, HC.out⟩ hBr HT.out).mono ?_
          rintro e w4 ⟨rfl, h4, hb4⟩
          have H4 := Lib.hid h4; have HB4 := Lib.hid hb4
          clear h4 hb4
          go_wp2_with fail
          go_roundw
          case rel => exact ⟨i + 1, by omega, by go_num, by rw [HN.out, show T.byte c = T.plain c from by unfold Scr.byte; rw [if_neg HS1.out, if_neg HS2.out]]; exact H4, hb.out.trans HB4.out⟩
          case measure => simp [intOf]; omega
    · obtain rfl : i = s.size := by omega
      have hT' : T = S.bytes s.data.toList := by rw [hT, List.take_of_length_le (by simp)]
      rw [← hT] at hC
      obtain ⟨vc3, vk3, hC⟩ := hC.out
      obtain ⟨_, A3, c3, rfl, _, _, _, _⟩ := hC.cells.rd
      obtain ⟨_, A4, c4, rfl, _, _, _, _⟩ := hC.kept.rd
      have hy : wr.heap[w.heap.size + 1]? = some (.cells (zeroScr.vals nilS nilS) 29 (0, 0)) := (hb.out.block _ (by omega) (by omega)).trans HY3.out
      have e0 : wr.cell? ⟨w.heap.size, 0, none⟩ = some (.int .i64 T.cols) := hC.cell 0
      have e1 : wr.cell? ⟨w.heap.size, 1, none⟩ = some (.int .i64 T.rows) := hC.cell 1
      have e2 : wr.cell? ⟨w.heap.size, 2, none⟩ = some (.int .i64 T.most) := hC.cell 2
      have e3 : wr.cell? ⟨w.heap.size, 3, none⟩ = some (.int .i64 T.x) := hC.cell 3
      have e4 : wr.cell? ⟨w.heap.size, 4, none⟩ = some (.int .i64 T.y) := hC.cell 4
      have e5 : wr.cell? ⟨w.heap.size, 5, none⟩ = some (.slice A3 T.grid.length c3) := hC.cell 5
      have e6 : wr.cell? ⟨w.heap.size, 6, none⟩ = some (.slice A4 T.kept.length c4) := hC.cell 6
      have e7 : wr.cell? ⟨w.heap.size, 7, none⟩ = some (.int .i64 T.st) := hC.cell 7
      have e8 : wr.cell? ⟨w.heap.size, 8, none⟩ = some (.int .i64 T.n0) := hC.cell 8
      have e9 : wr.cell? ⟨w.heap.size, 9, none⟩ = some (.int .i64 T.n1) := hC.cell 9
      have e10 : wr.cell? ⟨w.heap.size, 10, none⟩ = some (.int .i64 T.num) := hC.cell 10
      have d0 : wr.cell? ⟨w.heap.size + 1, 0, none⟩ = some (.int .i64 0) := cell_of_row _ _ _ _ _ _ hy
      have z0 : wr.frozen? ⟨w.heap.size + 1, 0, none⟩ = false := frozen_of_row _ _ _ _ _ hy
      have d1 : wr.cell? ⟨w.heap.size + 1, 1, none⟩ = some (.int .i64 0) := cell_of_row _ _ _ _ _ _ hy
      have z1 : wr.frozen? ⟨w.heap.size + 1, 1, none⟩ = false := frozen_of_row _ _ _ _ _ hy
      have d2 : wr.cell? ⟨w.heap.size + 1, 2, none⟩ = some (.int .i64 0) := cell_of_row _ _ _ _ _ _ hy
      have z2 : wr.frozen? ⟨w.heap.size + 1, 2, none⟩ = false := frozen_of_row _ _ _ _ _ hy
      have d3 : wr.cell? ⟨w.heap.size + 1, 3, none⟩ = some (.int .i64 0) := cell_of_row _ _ _ _ _ _ hy
      have z3 : wr.frozen? ⟨w.heap.size + 1, 3, none⟩ = false := frozen_of_row _ _ _ _ _ hy
      have d4 : wr.cell? ⟨w.heap.size + 1, 4, none⟩ = some (.int .i64 0) := cell_of_row _ _ _ _ _ _ hy
      have z4 : wr.frozen? ⟨w.heap.size + 1, 4, none⟩ = false := frozen_of_row _ _ _ _ _ hy
      have d5 : wr.cell? ⟨w.heap.size + 1, 5, none⟩ = some (.slice none 0 0) := cell_of_row _ _ _ _ _ _ hy
      have z5 : wr.frozen? ⟨w.heap.size + 1, 5, none⟩ = false := frozen_of_row _ _ _ _ _ hy
      have d6 : wr.cell? ⟨w.heap.size + 1, 6, none⟩ = some (.slice none 0 0) := cell_of_row _ _ _ _ _ _ hy
      have z6 : wr.frozen? ⟨w.heap.size + 1, 6, none⟩ = false := frozen_of_row _ _ _ _ _ hy
      have d7 : wr.cell? ⟨w.heap.size + 1, 7, none⟩ = some (.int .i64 0) := cell_of_row _ _ _ _ _ _ hy
      have z7 : wr.frozen? ⟨w.heap.size + 1, 7, none⟩ = false := frozen_of_row _ _ _ _ _ hy
      have d8 : wr.cell? ⟨w.heap.size + 1, 8, none⟩ = some (.int .i64 0) := cell_of_row _ _ _ _ _ _ hy
      have z8 : wr.frozen? ⟨w.heap.size + 1, 8, none⟩ = false := frozen_of_row _ _ _ _ _ hy
      have d9 : wr.cell? ⟨w.heap.size + 1, 9, none⟩ = some (.int .i64 0) := cell_of_row _ _ _ _ _ _ hy
      have z9 : wr.frozen? ⟨w.heap.size + 1, 9, none⟩ = false := frozen_of_row _ _ _ _ _ hy
      have d10 : wr.cell? ⟨w.heap.size + 1, 10, none⟩ = some (.int .i64 0) := cell_of_row _ _ _ _ _ _ hy
      have z10 : wr.frozen? ⟨w.heap.size + 1, 10, none⟩ = false := frozen_of_row _ _ _ _ _ hy
      have hbw : Below w.heap.size w wr := HB3.out.trans (hb.out.below (by omega) (Nat.le_refl _))
      have HC := Lib.hid hC; have HBW := Lib.hid hbw; have HT := Lib.hid hT'
      have HCV := Lib.hid (hC.cv hy 0 (T.vals (.slice A3 T.grid.length c3) (.slice A4 T.kept.length c4)).toList)
      clear hC hbw hT hT' hy
      go_wp2_with fail
      rw [Exit.noGoto_ret]
      refine bodyPost_ret (v := .agg (T.vals (.slice A3 T.grid.length c3) (.slice A4 T.kept.length c4))) (by simp [results, Tryd.results12, go_sem, Scr.vals, d0, d1, d2, d3, d4, d5, d6, d7, d8, d9, d10]) rfl ⟨_, rfl, ?_, ?_⟩
      · rw [← HT.out]; exact HCV.out
      · exact HBW.out.trans ((Below.refl _ _).grown (grown_setCells wr (w.heap.size + 1) 0 (T.vals (.slice A3 T.grid.length c3) (.slice A4 T.kept.length c4)).toList) (by have := hb.out.size; omega) (fun q hq => by injection hq with hq; omega))
end Go.Proofs.YtiefpodmdpnppaaDoor
