/-
  WALKS of layer 56: told.
-/
import Derived.Test.YtiefpodmdpnppaaDoorCelJ
namespace Go.Proofs.YtiefpodmdpnppaaDoor
open Go.RowKit

def Scr.told (S : Scr) (v : Nat) : Scr :=
  if 48 ≤ v ∧ v ≤ 57 then (if S.num = 0 then { S with n0 := min (S.n0 * 10 + (v - 48)) 999 } else if S.num = 1 then { S with n1 := min (S.n1 * 10 + (v - 48)) 999 } else S)
  else if v = 59 then { S with num := min (S.num + 1) 2 }
  else ({ S with st := 0 } : Scr).cmd v S.n0 S.n1

set_option maxRecDepth 100000 in
set_option maxHeartbeats 600000 in
theorem told_digit (B b c : Nat) (S : Scr) (w : World) (h : CB w B b S) (ok : S.Ok) (hc1 : 48 ≤ c) (hc2 : c ≤ 57) :
    Calls Tryd.prog 27 #[.pointer (some ⟨b, 0, none⟩), .int .u8 c] w (CBPost B b w (S.told c)) := by
  obtain ⟨vc, vk, h⟩ := h
  have hwu : IntKind.u8.wrap ((c : Int) - 48) = (c : Int) - 48 := by unfold IntKind.wrap; simp [IntKind.bits, IntKind.signed]; omega
  have ha := ok.a
  have hb := ok.b
  by_cases h0 : S.num = 0
  · have hc10 : w.cell? ⟨b, 10, none⟩ = some (.int .i64 0) := by rw [h.cell 10, ← Int.natCast_zero, ← h0]; rfl
    rw [show S.told c = { S with n0 := min (S.n0 * 10 + (c - 48)) 999 } from by unfold Scr.told; rw [if_pos ⟨hc1, hc2⟩, if_pos h0]]
    have hc8 : w.cell? ⟨b, 8, none⟩ = some (.int .i64 S.n0) := h.cell 8
    have hf8 := h.frozen 8
    have h1 := h.set 8 (.int .i64 ((min (S.n0 * 10 + (c - 48)) 999 : Nat) : Int)) (S' := { S with n0 := min (S.n0 * 10 + (c - 48)) 999 }) rfl rfl rfl
    have H := Lib.hid h1
    clear h ok h1 h0
    go_enter Tryd.func27, Tryd.ntmps27
    go_wp2_with fail
    go_quiet (fail)
    go_wp2_with fail
    rw [show min ((S.n0 : Int) * 10 + ((c : Int) - 48)) 999 = ((min (S.n0 * 10 + (c - 48)) 999 : Nat) : Int) from by omega]
    go_end0
    exact ⟨rfl, ⟨_, _, H.out.heap rfl⟩, ((Bx.refl _ _ _).dn _).setB _ _⟩
  · by_cases h1 : S.num = 1
    · have hc10 : w.cell? ⟨b, 10, none⟩ = some (.int .i64 1) := by rw [h.cell 10, ← Int.natCast_one, ← h1]; rfl
      rw [show S.told c = { S with n1 := min (S.n1 * 10 + (c - 48)) 999 } from by unfold Scr.told; rw [if_pos ⟨hc1, hc2⟩, if_neg h0, if_pos h1]]
      clear h1
      have hc8 : w.cell? ⟨b, 9, none⟩ = some (.int .i64 S.n1) := h.cell 9
      have hf8 := h.frozen 9
      have h1 := h.set 9 (.int .i64 ((min (S.n1 * 10 + (c - 48)) 999 : Nat) : Int)) (S' := { S with n1 := min (S.n1 * 10 + (c - 48)) 999 }) rfl rfl rfl
      have H := Lib.hid h1
      clear h ok h1 h0
      go_enter Tryd.func27, Tryd.ntmps27
      go_wp2_with fail
      go_quiet (fail)
      go_wp2_with fail
      rw [show min ((S.n1 : Int) * 10 + ((c : Int) - 48)) 999 = ((min (S.n1 * 10 + (c - 48)) 999 : Nat) : Int) from by omega]
      go_end0
      exact ⟨rfl, ⟨_, _, H.out.heap rfl⟩, ((Bx.refl _ _ _).dn _).setB _ _⟩
    · have hc10 : w.cell? ⟨b, 10, none⟩ = some (.int .i64 S.num) := h.cell 10
      rw [show S.told c = S from by unfold Scr.told; rw [if_pos ⟨hc1, hc2⟩, if_neg h0, if_neg h1]]
      have hlt : decide ((S.num : Int) < 2) = false := by simp; omega
      have H := Lib.hid h
      clear h ok h1 h0
      go_enter Tryd.func27, Tryd.ntmps27
      go_wp2_with fail
      go_end0
      exact ⟨rfl, ⟨_, _, H.out⟩, Bx.refl _ _ _⟩

set_option maxRecDepth 100000 in
set_option maxHeartbeats 600000 in
theorem told_59 (B b : Nat) (S : Scr) (w : World) (h : CB w B b S) (ok : S.Ok) :
    Calls Tryd.prog 27 #[.pointer (some ⟨b, 0, none⟩), .int .u8 59] w (CBPost B b w (S.told 59)) := by
  obtain ⟨vc, vk, h⟩ := h
  have hn := ok.n
  have hc10 : w.cell? ⟨b, 10, none⟩ = some (.int .i64 S.num) := h.cell 10
  have hf10 := h.frozen 10
  have h1 := h.set 10 (.int .i64 ((min (S.num + 1) 2 : Nat) : Int)) (S' := S.told 59) rfl rfl rfl
  have H := Lib.hid h1
  clear h ok h1
  go_enter Tryd.func27, Tryd.ntmps27
  go_wp2_with fail
  rw [show min ((S.num : Int) + 1) 2 = ((min (S.num + 1) 2 : Nat) : Int) from by omega]
  go_end0
  exact ⟨rfl, ⟨_, _, H.out.heap rfl⟩, (Bx.refl _ _ _).setB _ _⟩

set_option maxRecDepth 100000 in
set_option maxHeartbeats 600000 in
theorem told_none (B b c : Nat) (S : Scr) (w : World) (h : CB w B b S) (hB : B ≤ w.heap.size) (hd : ¬ (48 ≤ c ∧ c ≤ 57)) (h59 : ((c : Int) == 59) = false)
    (hf : Instr.findNow (.int .u8) (.int .u8 c) cmdList 0 = some none) :
    Calls Tryd.prog 27 #[.pointer (some ⟨b, 0, none⟩), .int .u8 c] w (CBPost B b w { S with st := 0 }) := by
  by_cases hd1 : 48 ≤ c
  · have hd2 : ¬ c ≤ 57 := fun h => hd ⟨hd1, h⟩
    clear hd
    obtain ⟨vc, vk, h⟩ := h
    have hc7 : w.cell? ⟨b, 7, none⟩ = some (.int .i64 S.st) := h.cell 7
    have hf7 := h.frozen 7
    have h1 := h.set 7 (.int .i64 0) (S' := { S with st := 0 }) rfl rfl rfl
    have H := Lib.hid h1
    skip
    clear h h1
    go_enter Tryd.func27, Tryd.ntmps27
    go_wp2_with fail
    refine (commands_walk _).mono ?_
    rintro e w1 ⟨rfl, hw1⟩
    obtain ⟨r, hr⟩ : ∃ r, r = (w.setCell ⟨b, 7, none⟩ (.int .i64 0)).heap.size := ⟨_, rfl⟩
    have hr1 : w1.heap[r]? = some (cmdMap 7) := by rw [hw1, hr]; exact heap_alloc_new _ _
    have h1 : CBat w1 B b { S with st := 0 } vc vk := by rw [hw1]; exact H.out.next ((Below.refl _ _).alloc (Nat.le_refl _) _)
    have hB1 : B ≤ w1.heap.size := by rw [hw1]; exact Nat.le_trans hB (by simp)
    have hb1 : Bx B b w w1 := by rw [hw1]; exact ((Bx.refl _ _ _).setB _ _).alloc (by simpa using hB) _
    rw [← hr]
    clear hw1 hr hc7 hf7
    have hlk := look_none w1 r (c : Int) hr1 hf
    have H1 := Lib.hid h1; have HB1 := Lib.hid hb1
    clear h1 hb1 hB1 hr1
    go_wp2_with fail
    go_end0
    exact ⟨rfl, ⟨_, _, H1.out⟩, HB1.out⟩
  · clear hd
    obtain ⟨vc, vk, h⟩ := h
    have hc7 : w.cell? ⟨b, 7, none⟩ = some (.int .i64 S.st) := h.cell 7
    have hf7 := h.frozen 7
    have h1 := h.set 7 (.int .i64 0) (S' := { S with st := 0 }) rfl rfl rfl
    have H := Lib.hid h1
    skip
    clear h h1
    go_enter Tryd.func27, Tryd.ntmps27
    go_wp2_with fail
    refine (commands_walk _).mono ?_
    rintro e w1 ⟨rfl, hw1⟩
    obtain ⟨r, hr⟩ : ∃ r, r = (w.setCell ⟨b, 7, none⟩ (.int .i64 0)).heap.size := ⟨_, rfl⟩
    have hr1 : w1.heap[r]? = some (cmdMap 7) := by rw [hw1, hr]; exact heap_alloc_new _ _
    have h1 : CBat w1 B b { S with st := 0 } vc vk := by rw [hw1]; exact H.out.next ((Below.refl _ _).alloc (Nat.le_refl _) _)
    have hB1 : B ≤ w1.heap.size := by rw [hw1]; exact Nat.le_trans hB (by simp)
    have hb1 : Bx B b w w1 := by rw [hw1]; exact ((Bx.refl _ _ _).setB _ _).alloc (by simpa using hB) _
    rw [← hr]
    clear hw1 hr hc7 hf7
    have hlk := look_none w1 r (c : Int) hr1 hf
    have H1 := Lib.hid h1; have HB1 := Lib.hid hb1
    clear h1 hb1 hB1 hr1
    go_wp2_with fail
    go_end0
    exact ⟨rfl, ⟨_, _, H1.out⟩, HB1.out⟩

set_option maxRecDepth 100000 in
set_option maxHeartbeats 600000 in
theorem told_65 (B b : Nat) (S : Scr) (w : World) (h : CB w B b S) (hB : B ≤ w.heap.size) (ok : S.Ok) :
    Calls Tryd.prog 27 #[.pointer (some ⟨b, 0, none⟩), .int .u8 65] w (CBPost B b w (S.told 65)) := by
  obtain ⟨vc, vk, h⟩ := h
  have hc7 : w.cell? ⟨b, 7, none⟩ = some (.int .i64 S.st) := h.cell 7
  have hf7 := h.frozen 7
  have h1 := h.set 7 (.int .i64 0) (S' := { S with st := 0 }) rfl rfl rfl
  have H := Lib.hid h1
  have HO := Lib.hid ok; clear ok
  clear h h1
  go_enter Tryd.func27, Tryd.ntmps27
  go_wp2_with fail
  refine (commands_walk _).mono ?_
  rintro e w1 ⟨rfl, hw1⟩
  obtain ⟨r, hr⟩ : ∃ r, r = (w.setCell ⟨b, 7, none⟩ (.int .i64 0)).heap.size := ⟨_, rfl⟩
  have hr1 : w1.heap[r]? = some (cmdMap 7) := by rw [hw1, hr]; exact heap_alloc_new _ _
  have h1 : CBat w1 B b { S with st := 0 } vc vk := by rw [hw1]; exact H.out.next ((Below.refl _ _).alloc (Nat.le_refl _) _)
  have hB1 : B ≤ w1.heap.size := by rw [hw1]; exact Nat.le_trans hB (by simp)
  have hb1 : Bx B b w w1 := by rw [hw1]; exact ((Bx.refl _ _ _).setB _ _).alloc (by simpa using hB) _
  rw [← hr]
  clear hw1 hr hc7 hf7
  have hlk := look_cmd w1 r 65 (.func (.func 54) #[] #[]) (1 - 1) hr1 rfl
  have hc8 : w1.cell? ⟨b, 8, none⟩ = some (.int .i64 S.n0) := h1.cell 8
  have hc9 : w1.cell? ⟨b, 9, none⟩ = some (.int .i64 S.n1) := h1.cell 9
  have H1 := Lib.hid h1; have HB1 := Lib.hid hb1
  clear h1 hb1 hr1
  go_wp2_with fail
  go_still_tail 12, (by kernel_rfl)
  change wpList _ _ _ _ _ w1.drew
  go_wp2_with fail
  have ok1 : ({ S with st := 0 } : Scr).Ok := ⟨HO.out.c1, HO.out.c2, HO.out.r1, HO.out.r2, HO.out.m, HO.out.x, HO.out.y, HO.out.g, HO.out.k, by simp, HO.out.a, HO.out.b, HO.out.n⟩
  have ha := HO.out.a
  have hb := HO.out.b
  refine (cmd_65 B b S.n0 S.n1 _ _ (by exact ⟨_, _, H1.out.heap rfl⟩) ok1 ha).mono ?_
  rintro e w3 ⟨rfl, h3, hb3⟩
  have H3 := Lib.hid h3; have HB3 := Lib.hid hb3
  clear h3 hb3
  go_wp2_with fail
  go_end0
  exact ⟨rfl, H3.out, HB1.out.trans HB3.out.of_drew⟩

set_option maxRecDepth 100000 in
set_option maxHeartbeats 600000 in
theorem told_66 (B b : Nat) (S : Scr) (w : World) (h : CB w B b S) (hB : B ≤ w.heap.size) (ok : S.Ok) :
    Calls Tryd.prog 27 #[.pointer (some ⟨b, 0, none⟩), .int .u8 66] w (CBPost B b w (S.told 66)) := by
  obtain ⟨vc, vk, h⟩ := h
  have hc7 : w.cell? ⟨b, 7, none⟩ = some (.int .i64 S.st) := h.cell 7
  have hf7 := h.frozen 7
  have h1 := h.set 7 (.int .i64 0) (S' := { S with st := 0 }) rfl rfl rfl
  have H := Lib.hid h1
  have HO := Lib.hid ok; clear ok
  clear h h1
  go_enter Tryd.func27, Tryd.ntmps27
  go_wp2_with fail
  refine (commands_walk _).mono ?_
  rintro e w1 ⟨rfl, hw1⟩
  obtain ⟨r, hr⟩ : ∃ r, r = (w.setCell ⟨b, 7, none⟩ (.int .i64 0)).heap.size := ⟨_, rfl⟩
  have hr1 : w1.heap[r]? = some (cmdMap 7) := by rw [hw1, hr]; exact heap_alloc_new _ _
  have h1 : CBat w1 B b { S with st := 0 } vc vk := by rw [hw1]; exact H.out.next ((Below.refl _ _).alloc (Nat.le_refl _) _)
  have hB1 : B ≤ w1.heap.size := by rw [hw1]; exact Nat.le_trans hB (by simp)
  have hb1 : Bx B b w w1 := by rw [hw1]; exact ((Bx.refl _ _ _).setB _ _).alloc (by simpa using hB) _
  rw [← hr]
  clear hw1 hr hc7 hf7
  have hlk := look_cmd w1 r 66 (.func (.func 55) #[] #[]) (2 - 1) hr1 rfl
  have hc8 : w1.cell? ⟨b, 8, none⟩ = some (.int .i64 S.n0) := h1.cell 8
  have hc9 : w1.cell? ⟨b, 9, none⟩ = some (.int .i64 S.n1) := h1.cell 9
  have H1 := Lib.hid h1; have HB1 := Lib.hid hb1
  clear h1 hb1 hr1
  go_wp2_with fail
  go_still_tail 12, (by kernel_rfl)
  change wpList _ _ _ _ _ w1.drew
  go_wp2_with fail
  have ok1 : ({ S with st := 0 } : Scr).Ok := ⟨HO.out.c1, HO.out.c2, HO.out.r1, HO.out.r2, HO.out.m, HO.out.x, HO.out.y, HO.out.g, HO.out.k, by simp, HO.out.a, HO.out.b, HO.out.n⟩
  have ha := HO.out.a
  have hb := HO.out.b
  refine (cmd_66 B b S.n0 S.n1 _ _ (by exact ⟨_, _, H1.out.heap rfl⟩) ok1 ha).mono ?_
  rintro e w3 ⟨rfl, h3, hb3⟩
  have H3 := Lib.hid h3; have HB3 := Lib.hid hb3
  clear h3 hb3
  go_wp2_with fail
  go_end0
  exact ⟨rfl, H3.out, HB1.out.trans HB3.out.of_drew⟩

set_option maxRecDepth 100000 in
set_option maxHeartbeats 600000 in
theorem told_67 (B b : Nat) (S : Scr) (w : World) (h : CB w B b S) (hB : B ≤ w.heap.size) (ok : S.Ok) :
    Calls Tryd.prog 27 #[.pointer (some ⟨b, 0, none⟩), .int .u8 67] w (CBPost B b w (S.told 67)) := by
  obtain ⟨vc, vk, h⟩ := h
  have hc7 : w.cell? ⟨b, 7, none⟩ = some (.int .i64 S.st) := h.cell 7
  have hf7 := h.frozen 7
  have h1 := h.set 7 (.int .i64 0) (S' := { S with st := 0 }) rfl rfl rfl
  have H := Lib.hid h1
  have HO := Lib.hid ok; clear ok
  clear h h1
  go_enter Tryd.func27, Tryd.ntmps27
  go_wp2_with fail
  refine (commands_walk _).mono ?_
  rintro e w1 ⟨rfl, hw1⟩
  obtain ⟨r, hr⟩ : ∃ r, r = (w.setCell ⟨b, 7, none⟩ (.int .i64 0)).heap.size := ⟨_, rfl⟩
  have hr1 : w1.heap[r]? = some (cmdMap 7) := by rw [hw1, hr]; exact heap_alloc_new _ _
  have h1 : CBat w1 B b { S with st := 0 } vc vk := by rw [hw1]; exact H.out.next ((Below.refl _ _).alloc (Nat.le_refl _) _)
  have hB1 : B ≤ w1.heap.size := by rw [hw1]; exact Nat.le_trans hB (by simp)
  have hb1 : Bx B b w w1 := by rw [hw1]; exact ((Bx.refl _ _ _).setB _ _).alloc (by simpa using hB) _
  rw [← hr]
  clear hw1 hr hc7 hf7
  have hlk := look_cmd w1 r 67 (.func (.func 56) #[] #[]) (3 - 1) hr1 rfl
  have hc8 : w1.cell? ⟨b, 8, none⟩ = some (.int .i64 S.n0) := h1.cell 8
  have hc9 : w1.cell? ⟨b, 9, none⟩ = some (.int .i64 S.n1) := h1.cell 9
  have H1 := Lib.hid h1; have HB1 := Lib.hid hb1
  clear h1 hb1 hr1
  go_wp2_with fail
  go_still_tail 12, (by kernel_rfl)
  change wpList _ _ _ _ _ w1.drew
  go_wp2_with fail
  have ok1 : ({ S with st := 0 } : Scr).Ok := ⟨HO.out.c1, HO.out.c2, HO.out.r1, HO.out.r2, HO.out.m, HO.out.x, HO.out.y, HO.out.g, HO.out.k, by simp, HO.out.a, HO.out.b, HO.out.n⟩
  have ha := HO.out.a
  have hb := HO.out.b
  refine (cmd_67 B b S.n0 S.n1 _ _ (by exact ⟨_, _, H1.out.heap rfl⟩) ok1 ha).mono ?_
  rintro e w3 ⟨rfl, h3, hb3⟩
  have H3 := Lib.hid h3; have HB3 := Lib.hid hb3
  clear h3 hb3
  go_wp2_with fail
  go_end0
  exact ⟨rfl, H3.out, HB1.out.trans HB3.out.of_drew⟩

set_option maxRecDepth 100000 in
set_option maxHeartbeats 600000 in
theorem told_68 (B b : Nat) (S : Scr) (w : World) (h : CB w B b S) (hB : B ≤ w.heap.size) (ok : S.Ok) :
    Calls Tryd.prog 27 #[.pointer (some ⟨b, 0, none⟩), .int .u8 68] w (CBPost B b w (S.told 68)) := by
  obtain ⟨vc, vk, h⟩ := h
  have hc7 : w.cell? ⟨b, 7, none⟩ = some (.int .i64 S.st) := h.cell 7
  have hf7 := h.frozen 7
  have h1 := h.set 7 (.int .i64 0) (S' := { S with st := 0 }) rfl rfl rfl
  have H := Lib.hid h1
  have HO := Lib.hid ok; clear ok
  clear h h1
  go_enter Tryd.func27, Tryd.ntmps27
  go_wp2_with fail
  refine (commands_walk _).mono ?_
  rintro e w1 ⟨rfl, hw1⟩
  obtain ⟨r, hr⟩ : ∃ r, r = (w.setCell ⟨b, 7, none⟩ (.int .i64 0)).heap.size := ⟨_, rfl⟩
  have hr1 : w1.heap[r]? = some (cmdMap 7) := by rw [hw1, hr]; exact heap_alloc_new _ _
  have h1 : CBat w1 B b { S with st := 0 } vc vk := by rw [hw1]; exact H.out.next ((Below.refl _ _).alloc (Nat.le_refl _) _)
  have hB1 : B ≤ w1.heap.size := by rw [hw1]; exact Nat.le_trans hB (by simp)
  have hb1 : Bx B b w w1 := by rw [hw1]; exact ((Bx.refl _ _ _).setB _ _).alloc (by simpa using hB) _
  rw [← hr]
  clear hw1 hr hc7 hf7
  have hlk := look_cmd w1 r 68 (.func (.func 57) #[] #[]) (4 - 1) hr1 rfl
  have hc8 : w1.cell? ⟨b, 8, none⟩ = some (.int .i64 S.n0) := h1.cell 8
  have hc9 : w1.cell? ⟨b, 9, none⟩ = some (.int .i64 S.n1) := h1.cell 9
  have H1 := Lib.hid h1; have HB1 := Lib.hid hb1
  clear h1 hb1 hr1
  go_wp2_with fail
  go_still_tail 12, (by kernel_rfl)
  change wpList _ _ _ _ _ w1.drew
  go_wp2_with fail
  have ok1 : ({ S with st := 0 } : Scr).Ok := ⟨HO.out.c1, HO.out.c2, HO.out.r1, HO.out.r2, HO.out.m, HO.out.x, HO.out.y, HO.out.g, HO.out.k, by simp, HO.out.a, HO.out.b, HO.out.n⟩
  have ha := HO.out.a
  have hb := HO.out.b
  refine (cmd_68 B b S.n0 S.n1 _ _ (by exact ⟨_, _, H1.out.heap rfl⟩) ok1 ha).mono ?_
  rintro e w3 ⟨rfl, h3, hb3⟩
  have H3 := Lib.hid h3; have HB3 := Lib.hid hb3
  clear h3 hb3
  go_wp2_with fail
  go_end0
  exact ⟨rfl, H3.out, HB1.out.trans HB3.out.of_drew⟩

set_option maxRecDepth 100000 in
set_option maxHeartbeats 600000 in
theorem told_72 (B b : Nat) (S : Scr) (w : World) (h : CB w B b S) (hB : B ≤ w.heap.size) (ok : S.Ok) :
    Calls Tryd.prog 27 #[.pointer (some ⟨b, 0, none⟩), .int .u8 72] w (CBPost B b w (S.told 72)) := by
  obtain ⟨vc, vk, h⟩ := h
  have hc7 : w.cell? ⟨b, 7, none⟩ = some (.int .i64 S.st) := h.cell 7
  have hf7 := h.frozen 7
  have h1 := h.set 7 (.int .i64 0) (S' := { S with st := 0 }) rfl rfl rfl
  have H := Lib.hid h1
  have HO := Lib.hid ok; clear ok
  clear h h1
  go_enter Tryd.func27, Tryd.ntmps27
  go_wp2_with fail
  refine (commands_walk _).mono ?_
  rintro e w1 ⟨rfl, hw1⟩
  obtain ⟨r, hr⟩ : ∃ r, r = (w.setCell ⟨b, 7, none⟩ (.int .i64 0)).heap.size := ⟨_, rfl⟩
  have hr1 : w1.heap[r]? = some (cmdMap 7) := by rw [hw1, hr]; exact heap_alloc_new _ _
  have h1 : CBat w1 B b { S with st := 0 } vc vk := by rw [hw1]; exact H.out.next ((Below.refl _ _).alloc (Nat.le_refl _) _)
  have hB1 : B ≤ w1.heap.size := by rw [hw1]; exact Nat.le_trans hB (by simp)
  have hb1 : Bx B b w w1 := by rw [hw1]; exact ((Bx.refl _ _ _).setB _ _).alloc (by simpa using hB) _
  rw [← hr]
  clear hw1 hr hc7 hf7
  have hlk := look_cmd w1 r 72 (.func (.func 58) #[] #[]) (5 - 1) hr1 rfl
  have hc8 : w1.cell? ⟨b, 8, none⟩ = some (.int .i64 S.n0) := h1.cell 8
  have hc9 : w1.cell? ⟨b, 9, none⟩ = some (.int .i64 S.n1) := h1.cell 9
  have H1 := Lib.hid h1; have HB1 := Lib.hid hb1
  clear h1 hb1 hr1
  go_wp2_with fail
  go_still_tail 12, (by kernel_rfl)
  change wpList _ _ _ _ _ w1.drew
  go_wp2_with fail
  have ok1 : ({ S with st := 0 } : Scr).Ok := ⟨HO.out.c1, HO.out.c2, HO.out.r1, HO.out.r2, HO.out.m, HO.out.x, HO.out.y, HO.out.g, HO.out.k, by simp, HO.out.a, HO.out.b, HO.out.n⟩
  have ha := HO.out.a
  have hb := HO.out.b
  refine (cmd_72 B b S.n0 S.n1 _ _ (by exact ⟨_, _, H1.out.heap rfl⟩) ok1 ha hb).mono ?_
  rintro e w3 ⟨rfl, h3, hb3⟩
  have H3 := Lib.hid h3; have HB3 := Lib.hid hb3
  clear h3 hb3
  go_wp2_with fail
  go_end0
  exact ⟨rfl, H3.out, HB1.out.trans HB3.out.of_drew⟩

set_option maxRecDepth 100000 in
set_option maxHeartbeats 600000 in
theorem told_74 (B b : Nat) (S : Scr) (w : World) (h : CB w B b S) (hB : B ≤ w.heap.size) (ok : S.Ok) :
    Calls Tryd.prog 27 #[.pointer (some ⟨b, 0, none⟩), .int .u8 74] w (CBPost B b w (S.told 74)) := by
  obtain ⟨vc, vk, h⟩ := h
  have hc7 : w.cell? ⟨b, 7, none⟩ = some (.int .i64 S.st) := h.cell 7
  have hf7 := h.frozen 7
  have h1 := h.set 7 (.int .i64 0) (S' := { S with st := 0 }) rfl rfl rfl
  have H := Lib.hid h1
  have HO := Lib.hid ok; clear ok
  clear h h1
  go_enter Tryd.func27, Tryd.ntmps27
  go_wp2_with fail
  refine (commands_walk _).mono ?_
  rintro e w1 ⟨rfl, hw1⟩
  obtain ⟨r, hr⟩ : ∃ r, r = (w.setCell ⟨b, 7, none⟩ (.int .i64 0)).heap.size := ⟨_, rfl⟩
  have hr1 : w1.heap[r]? = some (cmdMap 7) := by rw [hw1, hr]; exact heap_alloc_new _ _
  have h1 : CBat w1 B b { S with st := 0 } vc vk := by rw [hw1]; exact H.out.next ((Below.refl _ _).alloc (Nat.le_refl _) _)
  have hB1 : B ≤ w1.heap.size := by rw [hw1]; exact Nat.le_trans hB (by simp)
  have hb1 : Bx B b w w1 := by rw [hw1]; exact ((Bx.refl _ _ _).setB _ _).alloc (by simpa using hB) _
  rw [← hr]
  clear hw1 hr hc7 hf7
  have hlk := look_cmd w1 r 74 (.func (.func 59) #[] #[]) (6 - 1) hr1 rfl
  have hc8 : w1.cell? ⟨b, 8, none⟩ = some (.int .i64 S.n0) := h1.cell 8
  have hc9 : w1.cell? ⟨b, 9, none⟩ = some (.int .i64 S.n1) := h1.cell 9
  have H1 := Lib.hid h1; have HB1 := Lib.hid hb1
  clear h1 hb1 hr1
  go_wp2_with fail
  go_still_tail 12, (by kernel_rfl)
  change wpList _ _ _ _ _ w1.drew
  go_wp2_with fail
  have ok1 : ({ S with st := 0 } : Scr).Ok := ⟨HO.out.c1, HO.out.c2, HO.out.r1, HO.out.r2, HO.out.m, HO.out.x, HO.out.y, HO.out.g, HO.out.k, by simp, HO.out.a, HO.out.b, HO.out.n⟩
  have ha := HO.out.a
  have hb := HO.out.b
  refine (cmd_74 B b S.n0 S.n1 _ _ (by exact ⟨_, _, H1.out.heap rfl⟩) (by exact hB1) ok1).mono ?_
  rintro e w3 ⟨rfl, h3, hb3⟩
  have H3 := Lib.hid h3; have HB3 := Lib.hid hb3
  clear h3 hb3
  go_wp2_with fail
  go_end0
  exact ⟨rfl, H3.out, HB1.out.trans HB3.out.of_drew⟩

set_option maxRecDepth 100000 in
set_option maxHeartbeats 600000 in
theorem told_75 (B b : Nat) (S : Scr) (w : World) (h : CB w B b S) (hB : B ≤ w.heap.size) (ok : S.Ok) :
    Calls Tryd.prog 27 #[.pointer (some ⟨b, 0, none⟩), .int .u8 75] w (CBPost B b w (S.told 75)) := by
  obtain ⟨vc, vk, h⟩ := h
  have hc7 : w.cell? ⟨b, 7, none⟩ = some (.int .i64 S.st) := h.cell 7
  have hf7 := h.frozen 7
  have h1 := h.set 7 (.int .i64 0) (S' := { S with st := 0 }) rfl rfl rfl
  have H := Lib.hid h1
  have HO := Lib.hid ok; clear ok
  clear h h1
  go_enter Tryd.func27, Tryd.ntmps27
  go_wp2_with fail
  refine (commands_walk _).mono ?_
  rintro e w1 ⟨rfl, hw1⟩
  obtain ⟨r, hr⟩ : ∃ r, r = (w.setCell ⟨b, 7, none⟩ (.int .i64 0)).heap.size := ⟨_, rfl⟩
  have hr1 : w1.heap[r]? = some (cmdMap 7) := by rw [hw1, hr]; exact heap_alloc_new _ _
  have h1 : CBat w1 B b { S with st := 0 } vc vk := by rw [hw1]; exact H.out.next ((Below.refl _ _).alloc (Nat.le_refl _) _)
  have hB1 : B ≤ w1.heap.size := by rw [hw1]; exact Nat.le_trans hB (by simp)
  have hb1 : Bx B b w w1 := by rw [hw1]; exact ((Bx.refl _ _ _).setB _ _).alloc (by simpa using hB) _
  rw [← hr]
  clear hw1 hr hc7 hf7
  have hlk := look_cmd w1 r 75 (.func (.func 61) #[] #[]) (7 - 1) hr1 rfl
  have hc8 : w1.cell? ⟨b, 8, none⟩ = some (.int .i64 S.n0) := h1.cell 8
  have hc9 : w1.cell? ⟨b, 9, none⟩ = some (.int .i64 S.n1) := h1.cell 9
  have H1 := Lib.hid h1; have HB1 := Lib.hid hb1
  clear h1 hb1 hr1
  go_wp2_with fail
  go_still_tail 12, (by kernel_rfl)
  change wpList _ _ _ _ _ w1.drew
  go_wp2_with fail
  have ok1 : ({ S with st := 0 } : Scr).Ok := ⟨HO.out.c1, HO.out.c2, HO.out.r1, HO.out.r2, HO.out.m, HO.out.x, HO.out.y, HO.out.g, HO.out.k, by simp, HO.out.a, HO.out.b, HO.out.n⟩
  have ha := HO.out.a
  have hb := HO.out.b
  refine (cmd_75 B b S.n0 S.n1 _ _ (by exact ⟨_, _, H1.out.heap rfl⟩) (by exact hB1) ok1).mono ?_
  rintro e w3 ⟨rfl, h3, hb3⟩
  have H3 := Lib.hid h3; have HB3 := Lib.hid hb3
  clear h3 hb3
  go_wp2_with fail
  go_end0
  exact ⟨rfl, H3.out, HB1.out.trans HB3.out.of_drew⟩


theorem told_walk (B b : Nat) (v : UInt8) (S : Scr) (w : World) (h : CB w B b S) (hB : B ≤ w.heap.size) (ok : S.Ok) :
    Calls Tryd.prog 27 #[.pointer (some ⟨b, 0, none⟩), .int .u8 (v.toNat : Int)] w (CBPost B b w (S.told v.toNat)) := by
  generalize v.toNat = c
  by_cases hd : 48 ≤ c ∧ c ≤ 57
  · exact told_digit B b c S w h ok hd.1 hd.2
  by_cases h59 : c = 59
  · rw [h59]; exact told_59 B b S w h ok
  by_cases h65 : c = 65
  · rw [h65]; exact told_65 B b S w h hB ok
  by_cases h66 : c = 66
  · rw [h66]; exact told_66 B b S w h hB ok
  by_cases h67 : c = 67
  · rw [h67]; exact told_67 B b S w h hB ok
  by_cases h68 : c = 68
  · rw [h68]; exact told_68 B b S w h hB ok
  by_cases h72 : c = 72
  · rw [h72]; exact told_72 B b S w h hB ok
  by_cases h74 : c = 74
  · rw [h74]; exact told_74 B b S w h hB ok
  by_cases h75 : c = 75
  · rw [h75]; exact told_75 B b S w h hB ok
  rw [show S.told c = { S with st := 0 } from by unfold Scr.told Scr.cmd; rw [if_neg hd, if_neg h59, if_neg h65, if_neg h66, if_neg h67, if_neg h68, if_neg h72, if_neg h74, if_neg h75]]
  refine told_none B b c S w h hB hd (by simp; omega) ?_
  have e65 : ((c : Int) == 65) = false := by simp; omega
  have e66 : ((c : Int) == 66) = false := by simp; omega
  have e67 : ((c : Int) == 67) = false := by simp; omega
  have e68 : ((c : Int) == 68) = false := by simp; omega
  have e72 : ((c : Int) == 72) = false := by simp; omega
  have e74 : ((c : Int) == 74) = false := by simp; omega
  have e75 : ((c : Int) == 75) = false := by simp; omega
  simp only [cmdList, Instr.findNow, Instr.sameNow, if_true, e65, e66, e67, e68, e72, e74, e75]
end Go.Proofs.YtiefpodmdpnppaaDoor
