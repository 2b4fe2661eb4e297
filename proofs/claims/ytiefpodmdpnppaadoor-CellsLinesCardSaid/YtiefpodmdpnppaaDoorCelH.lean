/-
  WALKS of layer 56: plain.
-/
import Derived.Test.YtiefpodmdpnppaaDoorCelG
namespace Go.Proofs.YtiefpodmdpnppaaDoor
open Go.RowKit

def Scr.put (S : Scr) (v : UInt8) : Scr := { S with grid := S.grid.set (S.y * S.cols + S.x) v, x := S.x + 1 }
def Scr.letter (S : Scr) (v : UInt8) : Scr := if S.x = S.cols then S.lineEnd.put v else S.put v
def Scr.plain (S : Scr) (v : UInt8) : Scr :=
  if 32 ≤ v.toNat ∧ v.toNat ≤ 126 then S.letter v
  else if v.toNat = 10 then S.lineEnd
  else if v.toNat = 13 then { S with x := 0 }
  else if v.toNat = 8 then { S with x := S.x - 1 }
  else if v.toNat = 9 then { S with x := max (min ((S.x / 8 + 1) * 8) (S.cols - 1)) S.x }
  else if v.toNat = 12 then { S.clear 0 S.grid.length with x := 0, y := 0 }
  else if v.toNat = 27 then { S with st := 1 }
  else S

set_option maxRecDepth 100000 in
set_option maxHeartbeats 600000 in
theorem plain_10 (B b : Nat) (S : Scr) (w : World) (h : CB w B b S)(hB : B ≤ w.heap.size) (ok : S.Ok) :
    Calls Tryd.prog 28 #[.pointer (some ⟨b, 0, none⟩), .int .u8 10] w (CBPost B b w S.lineEnd) := by
  obtain ⟨vc, vk, h⟩ := h
  have H := Lib.hid h; have HO := Lib.hid ok
  clear h ok
  go_enter Tryd.func28, Tryd.ntmps28
  go_wp2_with fail
  refine (lineEnd_walk B b S _ (by exact ⟨_, _, H.out.heap rfl⟩) (by exact hB) HO.out).mono ?_
  rintro e w3 ⟨rfl, h3, hb3⟩
  have H3 := Lib.hid h3; have HB3 := Lib.hid hb3
  clear h3 hb3
  go_wp2_with fail
  go_end0
  exact ⟨rfl, H3.out, HB3.out⟩

set_option maxRecDepth 100000 in
set_option maxHeartbeats 600000 in
theorem plain_13 (B b : Nat) (S : Scr) (w : World) (h : CB w B b S) :
    Calls Tryd.prog 28 #[.pointer (some ⟨b, 0, none⟩), .int .u8 13] w (CBPost B b w { S with x := 0 }) := by
  obtain ⟨vc, vk, h⟩ := h
  have hc3 : w.cell? ⟨b, 3, none⟩ = some (.int .i64 S.x) := h.cell 3
  have hf3 := h.frozen 3
  have h1 := h.set 3 (.int .i64 0) (S' := { S with x := 0 }) rfl rfl rfl
  have H := Lib.hid h1
  clear h h1
  go_enter Tryd.func28, Tryd.ntmps28
  go_wp2_with fail
  go_end0
  exact ⟨rfl, ⟨_, _, H.out.heap rfl⟩, (Bx.refl _ _ _).setB _ _⟩

set_option maxRecDepth 100000 in
set_option maxHeartbeats 600000 in
theorem plain_8 (B b : Nat) (S : Scr) (w : World) (h : CB w B b S)(ok : S.Ok) :
    Calls Tryd.prog 28 #[.pointer (some ⟨b, 0, none⟩), .int .u8 8] w (CBPost B b w { S with x := S.x - 1 }) := by
  obtain ⟨vc, vk, h⟩ := h
  have hc3 : w.cell? ⟨b, 3, none⟩ = some (.int .i64 S.x) := h.cell 3
  have hf3 := h.frozen 3
  have hx : S.x ≤ 128 := Nat.le_trans ok.x ok.c2
  have h1 := h.set 3 (.int .i64 ((S.x - 1 : Nat) : Int)) (S' := { S with x := S.x - 1 }) rfl rfl rfl
  have H := Lib.hid h1
  clear h ok h1
  go_enter Tryd.func28, Tryd.ntmps28
  go_wp2_with fail
  go_end0
  rw [show max ((S.x : Int) - 1) 0 = ((S.x - 1 : Nat) : Int) from by omega]
  exact ⟨rfl, ⟨_, _, H.out.heap rfl⟩, (Bx.refl _ _ _).setB _ _⟩

set_option maxRecDepth 100000 in
set_option maxHeartbeats 600000 in
theorem plain_27 (B b : Nat) (S : Scr) (w : World) (h : CB w B b S) :
    Calls Tryd.prog 28 #[.pointer (some ⟨b, 0, none⟩), .int .u8 27] w (CBPost B b w { S with st := 1 }) := by
  obtain ⟨vc, vk, h⟩ := h
  have hc3 : w.cell? ⟨b, 7, none⟩ = some (.int .i64 S.st) := h.cell 7
  have hf3 := h.frozen 7
  have h1 := h.set 7 (.int .i64 1) (S' := { S with st := 1 }) rfl rfl rfl
  have H := Lib.hid h1
  clear h h1
  go_enter Tryd.func28, Tryd.ntmps28
  go_wp2_with fail
  go_end0
  exact ⟨rfl, ⟨_, _, H.out.heap rfl⟩, (Bx.refl _ _ _).setB _ _⟩

set_option maxRecDepth 100000 in
set_option maxHeartbeats 600000 in
theorem plain_9 (B b : Nat) (S : Scr) (w : World) (h : CB w B b S)(ok : S.Ok) :
    Calls Tryd.prog 28 #[.pointer (some ⟨b, 0, none⟩), .int .u8 9] w (CBPost B b w { S with x := max (min ((S.x / 8 + 1) * 8) (S.cols - 1)) S.x }) := by
  obtain ⟨vc, vk, h⟩ := h
  have hc3 : w.cell? ⟨b, 3, none⟩ = some (.int .i64 S.x) := h.cell 3
  have hc0 : w.cell? ⟨b, 0, none⟩ = some (.int .i64 S.cols) := h.cell 0
  have hf3 := h.frozen 3
  have hx : S.x ≤ 128 := Nat.le_trans ok.x ok.c2
  have hk1 := ok.c1
  have hk2 := ok.c2
  have h1 := h.set 3 (.int .i64 ((max (min ((S.x / 8 + 1) * 8) (S.cols - 1)) S.x : Nat) : Int)) (S' := { S with x := max (min ((S.x / 8 + 1) * 8) (S.cols - 1)) S.x }) rfl rfl rfl
  have hw0 : IntKind.i64.wrap ((S.x : Int) / 8 + 1) = (S.x : Int) / 8 + 1 := IntWalk.i64_in _ (by omega)
  have hw1 : IntKind.i64.wrap (((S.x : Int) / 8 + 1) * 8) = ((S.x : Int) / 8 + 1) * 8 := IntWalk.i64_in _ (by omega)
  have hw2 : IntKind.i64.wrap ((S.cols : Int) - 1) = (S.cols : Int) - 1 := IntWalk.i64_in _ (by omega)
  have H := Lib.hid h1
  clear h ok h1
  go_enter Tryd.func28, Tryd.ntmps28
  go_wp2_with fail
  go_still_tail 21, (by kernel_rfl)
  change wpList _ _ _ _ _ w.drew
  go_wp2_with fail
  rw [show max (min (((S.x : Int) / 8 + 1) * 8) ((S.cols : Int) - 1)) (S.x : Int) = ((max (min ((S.x / 8 + 1) * 8) (S.cols - 1)) S.x : Nat) : Int) from by omega]
  go_end0
  exact ⟨rfl, ⟨_, _, H.out.heap rfl⟩, Bx.drew ((Bx.refl _ _ _).setB _ _)⟩

set_option maxRecDepth 100000 in
set_option maxHeartbeats 600000 in
theorem plain_12 (B b : Nat) (S : Scr) (w : World) (h : CB w B b S)(hB : B ≤ w.heap.size) (ok : S.Ok) :
    Calls Tryd.prog 28 #[.pointer (some ⟨b, 0, none⟩), .int .u8 12] w (CBPost B b w { S.clear 0 S.grid.length with x := 0, y := 0 }) := by
  obtain ⟨vc, vk, h⟩ := h
  obtain ⟨n, hn⟩ : ∃ n : Nat, n = S.grid.length := ⟨_, rfl⟩
  obtain ⟨_, A0, c0, rfl, _, _, _, _⟩ := h.cells.rd
  have hc5 : w.cell? ⟨b, 5, none⟩ = some (.slice A0 n c0) := by rw [hn]; exact h.cell 5
  have hg2 := ok.g2
  rw [← hn]
  have H := Lib.hid h; have HO := Lib.hid ok; have HN := Lib.hid hn
  clear h ok hn
  go_enter Tryd.func28, Tryd.ntmps28
  go_wp2_with fail
  refine (clear_walk B b 0 n S _ (by exact ⟨_, _, H.out.heap rfl⟩) (by exact hB) hg2 (by omega) (by have := HN.out; omega)).mono ?_
  rintro e w3 ⟨rfl, ⟨vc3, vk3, h3⟩, hb3⟩
  have hc3 : w3.cell? ⟨b, 3, none⟩ = some (.int .i64 S.x) := h3.cell 3
  have hf3 := h3.frozen 3
  have hc4 : w3.cell? ⟨b, 4, none⟩ = some (.int .i64 S.y) := h3.cell 4
  have hf4 := h3.frozen 4
  have h4 := (h3.set 3 (.int .i64 0) (S' := { S.clear 0 n with x := 0 }) rfl rfl rfl).set 4 (.int .i64 0) (S' := { S.clear 0 n with x := 0, y := 0 }) rfl rfl rfl
  have H3 := Lib.hid h4; have HB3 := Lib.hid hb3
  clear h3 hb3 h4
  go_wp2_with fail
  go_end0
  exact ⟨rfl, ⟨_, _, H3.out.heap rfl⟩, (HB3.out.setB _ _).setB _ _⟩

set_option maxRecDepth 100000 in
set_option maxHeartbeats 600000 in
theorem plain_none (B b c : Nat) (S : Scr) (w : World) (h : CB w B b S) (hc : ¬ (32 ≤ c ∧ c ≤ 126)) (h10 : ((c : Int) == 10) = false) (h13 : ((c : Int) == 13) = false) (h8 : ((c : Int) == 8) = false) (h9 : ((c : Int) == 9) = false) (h12 : ((c : Int) == 12) = false) (h27 : ((c : Int) == 27) = false) :
    Calls Tryd.prog 28 #[.pointer (some ⟨b, 0, none⟩), .int .u8 c] w (CBPost B b w S) := by
  have H := Lib.hid h
  clear h
  by_cases hc1 : 32 ≤ c
  · have hc2 : ¬ c ≤ 126 := fun h => hc ⟨hc1, h⟩
    clear hc
    go_enter Tryd.func28, Tryd.ntmps28
    go_wp2_with fail
    go_end0
    exact ⟨rfl, H.out, Bx.refl _ _ _⟩
  · clear hc
    go_enter Tryd.func28, Tryd.ntmps28
    go_wp2_with fail
    go_end0
    exact ⟨rfl, H.out, Bx.refl _ _ _⟩

/-- what is laid behind a line end, if there was one -/
structure Laid (w1 : World) (B b : Nat) (T : Scr) (n g o c p q : Nat) (vk : Value) (v : UInt8) : Prop where
  c3 : w1.cell? ⟨b, 3, none⟩ = some (.int .i64 T.x)
  c4 : w1.cell? ⟨b, 4, none⟩ = some (.int .i64 T.y)
  c0 : w1.cell? ⟨b, 0, none⟩ = some (.int .i64 T.cols)
  c5 : w1.cell? ⟨b, 5, none⟩ = some (.slice (some ⟨g, o, none⟩) n c)
  f3 : w1.frozen? ⟨b, 3, none⟩ = false
  hw1 : IntKind.i64.wrap ((T.y : Int) * (T.cols : Int)) = (p : Int)
  hw2 : IntKind.i64.wrap ((p : Int) + (T.x : Int)) = (q : Int)
  hq : q < n
  hx : T.x ≤ 128
  room : (w1.cell? ⟨g, o + q, none⟩).isSome = true
  fz : w1.frozen? ⟨g, o + q, none⟩ = false
  ne : b ≠ g
  gB : B ≤ g
  put : CBat ((w1.setCell ⟨g, o + q, none⟩ (.int .u8 (v.toNat : Int))).setCell ⟨b, 3, none⟩ (.int .i64 ((T.x + 1 : Nat) : Int))) B b (T.put v) (.slice (some ⟨g, o, none⟩) n c) vk
theorem CBat.laid {w1 : World} {B b : Nat} {T : Scr} {vc vk : Value} (h : CBat w1 B b T vc vk) (ok : T.Ok) (hx : T.x < T.cols) (v : UInt8) : ∃ n g o c p q, Laid w1 B b T n g o c p q vk v := by
  have hpg : T.y * T.cols + T.cols ≤ T.grid.length := by rw [ok.g, ← Nat.succ_mul, Nat.mul_comm]; exact Nat.mul_le_mul (Nat.le_refl _) ok.y
  have hg2 := ok.g2
  have hk2 := ok.c2
  obtain ⟨g, o, c, rfl, ho⟩ := h.form (by omega)
  have hne : b ≠ g := by
    obtain ⟨cur, fz, hcur⟩ := ho.kind
    rintro rfl
    have hbl := h.blk
    rw [hbl] at hcur
    injection hcur with hcur
    injection hcur with _ ht
    exact absurd ht (by decide)
  refine ⟨T.grid.length, g, o, c, T.y * T.cols, T.y * T.cols + T.x, h.cell 3, h.cell 4, h.cell 0, h.cell 5, h.frozen 3, ?_, ?_, by omega, by omega, (ho.room _ (by have := ho.le; omega)).1, (ho.room _ (by have := ho.le; omega)).2, hne, ho.base, ?_⟩
  · rw [← Int.natCast_mul, IntWalk.i64_in _ (by omega)]
  · rw [← Int.natCast_add, IntWalk.i64_in _ (by omega)]
  · exact (h.put ho rfl (T.y * T.cols + T.x) v (by omega)).set 3 _ rfl rfl rfl

set_option maxRecDepth 100000 in
set_option maxHeartbeats 600000 in
theorem plain_letter (B b : Nat) (v : UInt8) (S : Scr) (w : World) (h : CB w B b S) (hB : B ≤ w.heap.size) (ok : S.Ok) (hv1 : 32 ≤ v.toNat) (hv2 : v.toNat ≤ 126) :
    Calls Tryd.prog 28 #[.pointer (some ⟨b, 0, none⟩), .int .u8 (v.toNat : Int)] w (CBPost B b w (S.letter v)) := by
  obtain ⟨vc, vk, h⟩ := h
  by_cases hxc : S.x = S.cols
  · have he : ((S.x : Int) == (S.cols : Int)) = true := by rw [hxc]; simp
    have hc3 : w.cell? ⟨b, 3, none⟩ = some (.int .i64 S.x) := h.cell 3
    have hc0 : w.cell? ⟨b, 0, none⟩ = some (.int .i64 S.cols) := h.cell 0
    have HE : Hid (S.letter v = S.lineEnd.put v) := by unfold Scr.letter; rw [if_pos hxc]; exact Lib.hid rfl
    have H := Lib.hid h; have HO := Lib.hid ok
    clear h ok hxc
    go_enter Tryd.func28, Tryd.ntmps28
    go_wp2_with fail
    go_quiet (fail)
    go_wp2_with fail
    refine (lineEnd_walk B b S _ (by exact ⟨_, _, H.out.heap rfl⟩) (by exact hB) HO.out).mono ?_
    rintro e w1 ⟨rfl, ⟨vc1, vk1, h1⟩, hb1⟩
    have ok1 := HO.out.lineEnd
    have hx1 : S.lineEnd.x < S.lineEnd.cols := by rw [Scr.lineEnd_x, Scr.lineEnd_cols]; exact HO.out.c1
    have HB1 := Lib.hid hb1
    clear hb1 hc3 hc0
    obtain ⟨n, g, o, c, p, q, L⟩ := h1.laid ok1 hx1 v
    have c3 := L.c3; have c4 := L.c4; have c0 := L.c0; have c5 := L.c5; have f3 := L.f3; have hq := L.hq; have hx := L.hx; have fz := L.fz; have hgB := L.gB; have ne := L.ne
    have ne' := ne.symm
    have hw1 := L.hw1; have hw2 := L.hw2
    have hq0 : (0 : Int) ≤ (q : Int) := by omega
    have hqn : (q : Int) < (n : Int) := by omega
    have HP := Lib.hid L.put
    obtain ⟨old, hold⟩ := Option.isSome_iff_exists.1 L.room
    clear L h1 ok1 hx1
    go_wp2_with fail
    go_still_tail 20, (by kernel_rfl)
    change wpList _ _ _ _ _ w1.drew
    go_wp2_with fail
    go_end0
    refine ⟨rfl, ⟨_, _, by rw [HE.out]; exact HP.out.heap rfl⟩, ?_⟩
    exact Bx.drew (((((Bx.refl _ _ _).dn _).trans HB1.out).setG (p := ⟨g, o + q, none⟩) hgB _).setB _ _)
  · have he : ((S.x : Int) == (S.cols : Int)) = false := by simp; omega
    have hx1 : S.x < S.cols := by have := ok.x; omega
    have HE : Hid (S.letter v = S.put v) := by unfold Scr.letter; rw [if_neg hxc]; exact Lib.hid rfl
    have hc3 : w.cell? ⟨b, 3, none⟩ = some (.int .i64 S.x) := h.cell 3
    have hc0 : w.cell? ⟨b, 0, none⟩ = some (.int .i64 S.cols) := h.cell 0
    have H := Lib.hid h; have HO := Lib.hid ok; have HX := Lib.hid hx1
    clear h ok hxc hx1
    go_enter Tryd.func28, Tryd.ntmps28
    go_wp2_with fail
    go_quiet (fail)
    obtain ⟨w1, hw1⟩ : ∃ w1, w1 = w.drewN nq := ⟨_, rfl⟩
    rw [← hw1]
    have h1 : CBat w1 B b S vc vk := by rw [hw1]; exact H.out.heap rfl
    have hb1 : Bx B b w w1 := by rw [hw1]; exact (Bx.refl _ _ _).dn _
    have ok1 := HO.out
    have hx1 := HX.out
    have HB1 := Lib.hid hb1
    clear hb1 hc3 hc0 hw1
    obtain ⟨n, g, o, c, p, q, L⟩ := h1.laid ok1 hx1 v
    have c3 := L.c3; have c4 := L.c4; have c0 := L.c0; have c5 := L.c5; have f3 := L.f3; have hq := L.hq; have hx := L.hx; have fz := L.fz; have hgB := L.gB; have ne := L.ne
    have ne' := ne.symm
    have hw1 := L.hw1; have hw2 := L.hw2
    have hq0 : (0 : Int) ≤ (q : Int) := by omega
    have hqn : (q : Int) < (n : Int) := by omega
    have HP := Lib.hid L.put
    obtain ⟨old, hold⟩ := Option.isSome_iff_exists.1 L.room
    clear L h1 ok1 hx1
    go_wp2_with fail
    go_still_tail 20, (by kernel_rfl)
    change wpList _ _ _ _ _ w1.drew
    go_wp2_with fail
    go_end0
    refine ⟨rfl, ⟨_, _, by rw [HE.out]; exact HP.out.heap rfl⟩, ?_⟩
    exact Bx.drew ((HB1.out.setG (p := ⟨g, o + q, none⟩) hgB _).setB _ _)

theorem plain_walk (B b : Nat) (v : UInt8) (S : Scr) (w : World) (h : CB w B b S) (hB : B ≤ w.heap.size) (ok : S.Ok) :
    Calls Tryd.prog 28 #[.pointer (some ⟨b, 0, none⟩), .int .u8 (v.toNat : Int)] w (CBPost B b w (S.plain v)) := by
  unfold Scr.plain
  by_cases hl : 32 ≤ v.toNat ∧ v.toNat ≤ 126
  · rw [if_pos hl]; exact plain_letter B b v S w h hB ok hl.1 hl.2
  rw [if_neg hl]
  by_cases h10 : v.toNat = 10
  · rw [if_pos h10, h10]; exact plain_10 B b S w h hB ok
  rw [if_neg h10]
  by_cases h13 : v.toNat = 13
  · rw [if_pos h13, h13]; exact plain_13 B b S w h 
  rw [if_neg h13]
  by_cases h8 : v.toNat = 8
  · rw [if_pos h8, h8]; exact plain_8 B b S w h ok
  rw [if_neg h8]
  by_cases h9 : v.toNat = 9
  · rw [if_pos h9, h9]; exact plain_9 B b S w h ok
  rw [if_neg h9]
  by_cases h12 : v.toNat = 12
  · rw [if_pos h12, h12]; exact plain_12 B b S w h hB ok
  rw [if_neg h12]
  by_cases h27 : v.toNat = 27
  · rw [if_pos h27, h27]; exact plain_27 B b S w h 
  rw [if_neg h27]
  exact plain_none B b v.toNat S w h hl (by simp; omega) (by simp; omega) (by simp; omega) (by simp; omega) (by simp; omega) (by simp; omega)
end Go.Proofs.YtiefpodmdpnppaaDoor
