/-
  WALKS of layer 56: what the commands do.
-/
import Derived.Test.YtiefpodmdpnppaaDoorCelI
namespace Go.Proofs.YtiefpodmdpnppaaDoor
open Go.RowKit

def Scr.cmd (S : Scr) (k n m : Nat) : Scr :=
  if k = 65 then { S with y := S.y - max n 1 }
  else if k = 66 then { S with y := min (S.y + max n 1) (S.rows - 1) }
  else if k = 67 then { S with x := min (S.x + max n 1) (S.cols - 1) }
  else if k = 68 then { S with x := S.x - max n 1 }
  else if k = 72 then { S with y := min (max n 1) S.rows - 1, x := min (max m 1) S.cols - 1 }
  else if k = 74 then S.blank n 0 S.grid.length
  else if k = 75 then S.blank n (S.y * S.cols) ((S.y + 1) * S.cols)
  else S
set_option maxRecDepth 100000 in
set_option maxHeartbeats 600000 in
theorem cmd_65 (B b n m : Nat) (S : Scr) (w : World) (h : CB w B b S) (ok : S.Ok) (hn : n ≤ 999) :
    Calls Tryd.prog 54 #[.pointer (some ⟨b, 0, none⟩), .int .i64 n, .int .i64 m] w (CBPost B b w (S.cmd 65 n m)) := by
  obtain ⟨vc, vk, h⟩ := h
  have hx : S.x ≤ 128 := Nat.le_trans ok.x ok.c2
  have hy := ok.y
  have hr1 := ok.r1
  have hr2 := ok.r2
  have hk1 := ok.c1
  have hk2 := ok.c2
  have hc : w.cell? ⟨b, 4, none⟩ = some (.int .i64 S.y) := h.cell 4
  have hf := h.frozen 4
  have h1 := h.set 4 (.int .i64 ((S.y - max n 1 : Nat) : Int)) (S' := S.cmd 65 n m) rfl rfl rfl
  have H := Lib.hid h1
  clear h ok h1
  go_enter Tryd.func54, Tryd.ntmps54
  go_wp2_with fail
  skip
  rw [show max ((S.y : Int) - max (n : Int) 1) 0 = ((S.y - max n 1 : Nat) : Int) from by omega]
  go_end0
  exact ⟨rfl, ⟨_, _, H.out.heap rfl⟩,  ((Bx.refl _ _ _).setB _ _)⟩
set_option maxRecDepth 100000 in
set_option maxHeartbeats 600000 in
theorem cmd_66 (B b n m : Nat) (S : Scr) (w : World) (h : CB w B b S) (ok : S.Ok) (hn : n ≤ 999) :
    Calls Tryd.prog 55 #[.pointer (some ⟨b, 0, none⟩), .int .i64 n, .int .i64 m] w (CBPost B b w (S.cmd 66 n m)) := by
  obtain ⟨vc, vk, h⟩ := h
  have hx : S.x ≤ 128 := Nat.le_trans ok.x ok.c2
  have hy := ok.y
  have hr1 := ok.r1
  have hr2 := ok.r2
  have hk1 := ok.c1
  have hk2 := ok.c2
  have hc1 : w.cell? ⟨b, 1, none⟩ = some (.int .i64 S.rows) := h.cell 1
  have hw1 : IntKind.i64.wrap ((S.y : Int) + max (n : Int) 1) = (S.y : Int) + max (n : Int) 1 := IntWalk.i64_in _ (by omega)
  have hw2 : IntKind.i64.wrap ((S.rows : Int) - 1) = (S.rows : Int) - 1 := IntWalk.i64_in _ (by omega)
  have hc : w.cell? ⟨b, 4, none⟩ = some (.int .i64 S.y) := h.cell 4
  have hf := h.frozen 4
  have h1 := h.set 4 (.int .i64 ((min (S.y + max n 1) (S.rows - 1) : Nat) : Int)) (S' := S.cmd 66 n m) rfl rfl rfl
  have H := Lib.hid h1
  clear h ok h1
  go_enter Tryd.func55, Tryd.ntmps55
  go_wp2_with fail
  (go_still_tail 16, (by kernel_rfl)); change wpList _ _ _ _ _ w.drew; go_wp2_with fail
  rw [show min ((S.y : Int) + max (n : Int) 1) ((S.rows : Int) - 1) = ((min (S.y + max n 1) (S.rows - 1) : Nat) : Int) from by omega]
  go_end0
  exact ⟨rfl, ⟨_, _, H.out.heap rfl⟩, Bx.drew ((Bx.refl _ _ _).setB _ _)⟩
set_option maxRecDepth 100000 in
set_option maxHeartbeats 600000 in
theorem cmd_67 (B b n m : Nat) (S : Scr) (w : World) (h : CB w B b S) (ok : S.Ok) (hn : n ≤ 999) :
    Calls Tryd.prog 56 #[.pointer (some ⟨b, 0, none⟩), .int .i64 n, .int .i64 m] w (CBPost B b w (S.cmd 67 n m)) := by
  obtain ⟨vc, vk, h⟩ := h
  have hx : S.x ≤ 128 := Nat.le_trans ok.x ok.c2
  have hy := ok.y
  have hr1 := ok.r1
  have hr2 := ok.r2
  have hk1 := ok.c1
  have hk2 := ok.c2
  have hc1 : w.cell? ⟨b, 0, none⟩ = some (.int .i64 S.cols) := h.cell 0
  have hw1 : IntKind.i64.wrap ((S.x : Int) + max (n : Int) 1) = (S.x : Int) + max (n : Int) 1 := IntWalk.i64_in _ (by omega)
  have hw2 : IntKind.i64.wrap ((S.cols : Int) - 1) = (S.cols : Int) - 1 := IntWalk.i64_in _ (by omega)
  have hc : w.cell? ⟨b, 3, none⟩ = some (.int .i64 S.x) := h.cell 3
  have hf := h.frozen 3
  have h1 := h.set 3 (.int .i64 ((min (S.x + max n 1) (S.cols - 1) : Nat) : Int)) (S' := S.cmd 67 n m) rfl rfl rfl
  have H := Lib.hid h1
  clear h ok h1
  go_enter Tryd.func56, Tryd.ntmps56
  go_wp2_with fail
  (go_still_tail 16, (by kernel_rfl)); change wpList _ _ _ _ _ w.drew; go_wp2_with fail
  rw [show min ((S.x : Int) + max (n : Int) 1) ((S.cols : Int) - 1) = ((min (S.x + max n 1) (S.cols - 1) : Nat) : Int) from by omega]
  go_end0
  exact ⟨rfl, ⟨_, _, H.out.heap rfl⟩, Bx.drew ((Bx.refl _ _ _).setB _ _)⟩
set_option maxRecDepth 100000 in
set_option maxHeartbeats 600000 in
theorem cmd_68 (B b n m : Nat) (S : Scr) (w : World) (h : CB w B b S) (ok : S.Ok) (hn : n ≤ 999) :
    Calls Tryd.prog 57 #[.pointer (some ⟨b, 0, none⟩), .int .i64 n, .int .i64 m] w (CBPost B b w (S.cmd 68 n m)) := by
  obtain ⟨vc, vk, h⟩ := h
  have hx : S.x ≤ 128 := Nat.le_trans ok.x ok.c2
  have hy := ok.y
  have hr1 := ok.r1
  have hr2 := ok.r2
  have hk1 := ok.c1
  have hk2 := ok.c2
  have hc : w.cell? ⟨b, 3, none⟩ = some (.int .i64 S.x) := h.cell 3
  have hf := h.frozen 3
  have h1 := h.set 3 (.int .i64 ((S.x - max n 1 : Nat) : Int)) (S' := S.cmd 68 n m) rfl rfl rfl
  have H := Lib.hid h1
  clear h ok h1
  go_enter Tryd.func57, Tryd.ntmps57
  go_wp2_with fail
  skip
  rw [show max ((S.x : Int) - max (n : Int) 1) 0 = ((S.x - max n 1 : Nat) : Int) from by omega]
  go_end0
  exact ⟨rfl, ⟨_, _, H.out.heap rfl⟩,  ((Bx.refl _ _ _).setB _ _)⟩
set_option maxRecDepth 100000 in
set_option maxHeartbeats 600000 in
theorem cmd_72 (B b n m : Nat) (S : Scr) (w : World) (h : CB w B b S) (ok : S.Ok) (hn : n ≤ 999)(hm : m ≤ 999) :
    Calls Tryd.prog 58 #[.pointer (some ⟨b, 0, none⟩), .int .i64 n, .int .i64 m] w (CBPost B b w (S.cmd 72 n m)) := by
  obtain ⟨vc, vk, h⟩ := h
  have hx : S.x ≤ 128 := Nat.le_trans ok.x ok.c2
  have hy := ok.y
  have hr1 := ok.r1
  have hr2 := ok.r2
  have hk1 := ok.c1
  have hk2 := ok.c2
  have hc1 : w.cell? ⟨b, 1, none⟩ = some (.int .i64 S.rows) := h.cell 1
  have hc0 : w.cell? ⟨b, 0, none⟩ = some (.int .i64 S.cols) := h.cell 0
  have hc4 : w.cell? ⟨b, 4, none⟩ = some (.int .i64 S.y) := h.cell 4
  have hc3 : w.cell? ⟨b, 3, none⟩ = some (.int .i64 S.x) := h.cell 3
  have hf4 := h.frozen 4
  have hf3 := h.frozen 3
  have h1 := h.set 4 (.int .i64 ((min (max n 1) S.rows - 1 : Nat) : Int)) (S' := { S with y := min (max n 1) S.rows - 1 }) rfl rfl rfl
  have h2 := h1.set 3 (.int .i64 ((min (max m 1) S.cols - 1 : Nat) : Int)) (S' := S.cmd 72 n m) rfl rfl rfl
  have H := Lib.hid h2
  clear h ok h1 h2
  go_enter Tryd.func58, Tryd.ntmps58
  go_wp2_with fail
  rw [show min (max (n : Int) 1) (S.rows : Int) - 1 = ((min (max n 1) S.rows - 1 : Nat) : Int) from by omega]
  rw [show min (max (m : Int) 1) (S.cols : Int) - 1 = ((min (max m 1) S.cols - 1 : Nat) : Int) from by omega]
  go_end0
  exact ⟨rfl, ⟨_, _, H.out.heap rfl⟩, ((Bx.refl _ _ _).setB _ _).setB _ _⟩
set_option maxRecDepth 100000 in
set_option maxHeartbeats 600000 in
theorem cmd_74 (B b n m : Nat) (S : Scr) (w : World) (h : CB w B b S) (hB : B ≤ w.heap.size) (ok : S.Ok) :
    Calls Tryd.prog 59 #[.pointer (some ⟨b, 0, none⟩), .int .i64 n, .int .i64 m] w (CBPost B b w (S.cmd 74 n m)) := by
  obtain ⟨vc, vk, h⟩ := h
  obtain ⟨k, hk⟩ : ∃ k : Nat, k = S.grid.length := ⟨_, rfl⟩
  obtain ⟨_, A0, c0, rfl, _, _, _, _⟩ := h.cells.rd
  have hc5 : w.cell? ⟨b, 5, none⟩ = some (.slice A0 k c0) := by rw [hk]; exact h.cell 5
  have H := Lib.hid h; have HO := Lib.hid ok; have HK := Lib.hid hk
  clear h ok hk
  go_enter Tryd.func59, Tryd.ntmps59
  go_wp2_with fail
  refine (blank_walk B b n 0 k S _ (by exact ⟨_, _, H.out⟩) (by exact hB) HO.out (by omega) (by have := HK.out; omega)).mono ?_
  rintro e w3 ⟨rfl, h3, hb3⟩
  have H3 := Lib.hid h3; have HB3 := Lib.hid hb3
  clear h3 hb3
  go_wp2_with fail
  go_end0
  exact ⟨rfl, by rw [show S.cmd 74 n m = S.blank n 0 k from by rw [HK.out]; rfl]; exact H3.out, HB3.out⟩
set_option maxRecDepth 100000 in
set_option maxHeartbeats 600000 in
theorem cmd_75 (B b n m : Nat) (S : Scr) (w : World) (h : CB w B b S) (hB : B ≤ w.heap.size) (ok : S.Ok) :
    Calls Tryd.prog 61 #[.pointer (some ⟨b, 0, none⟩), .int .i64 n, .int .i64 m] w (CBPost B b w (S.cmd 75 n m)) := by
  obtain ⟨vc, vk, h⟩ := h
  have hpg : S.y * S.cols + S.cols ≤ S.grid.length := by rw [ok.g, ← Nat.succ_mul, Nat.mul_comm]; exact Nat.mul_le_mul (Nat.le_refl _) ok.y
  have hg2 := ok.g2
  have hr2 := ok.r2
  have hy := ok.y
  obtain ⟨p, hp⟩ : ∃ p : Nat, p = S.y * S.cols := ⟨_, rfl⟩
  obtain ⟨q, hq⟩ : ∃ q : Nat, q = (S.y + 1) * S.cols := ⟨_, rfl⟩
  have hqp : q = S.y * S.cols + S.cols := by rw [hq, Nat.succ_mul]
  have hc4 : w.cell? ⟨b, 4, none⟩ = some (.int .i64 S.y) := h.cell 4
  have hc0 : w.cell? ⟨b, 0, none⟩ = some (.int .i64 S.cols) := h.cell 0
  have hw1 : IntKind.i64.wrap ((S.y : Int) * (S.cols : Int)) = (p : Int) := by rw [← Int.natCast_mul, IntWalk.i64_in _ (by omega), hp]
  have hw3 : IntKind.i64.wrap (((S.y : Int) + 1) * (S.cols : Int)) = (q : Int) := by
    rw [show ((S.y : Int) + 1) * (S.cols : Int) = (((S.y + 1) * S.cols : Nat) : Int) from by rw [Int.natCast_mul, Int.natCast_add]; rfl, ← hq, IntWalk.i64_in _ (by omega)]
  have hw2 : IntKind.i64.wrap ((S.y : Int) + 1) = (S.y : Int) + 1 := IntWalk.i64_in _ (by omega)
  have hqg : q ≤ S.grid.length := by omega
  have hpq : p ≤ q := by omega
  have H := Lib.hid h; have HO := Lib.hid ok; have HP := Lib.hid hp; have HQ := Lib.hid hq
  clear h ok hp hq hqp hpg
  go_enter Tryd.func61, Tryd.ntmps61
  go_wp2_with fail
  go_still_tail 21, (by kernel_rfl)
  change wpList _ _ _ _ _ w.drew
  go_wp2_with fail
  refine (blank_walk B b n p q S _ (by exact ⟨_, _, H.out.heap rfl⟩) (by exact hB) HO.out (by omega) hqg).mono ?_
  rintro e w3 ⟨rfl, h3, hb3⟩
  have H3 := Lib.hid h3; have HB3 := Lib.hid hb3
  clear h3 hb3
  go_wp2_with fail
  go_end0
  exact ⟨rfl, by rw [show S.cmd 75 n m = S.blank n p q from by rw [HP.out, HQ.out]; rfl]; exact H3.out, HB3.out.of_drew⟩
end Go.Proofs.YtiefpodmdpnppaaDoor
