/-
  WALKS of layer 56's document: command, the moves.
-/
import Derived.Test.YtiefpodmdpnppaaDoorCelV
namespace Go.Proofs.YtiefpodmdpnppaaDoor
open Go.RowKit

theorem number_0 (l : List UInt8) (w : World) (hl : Digs l) (hs : l.length ≤ 100000) :
    Calls Tryd.prog 66 #[.string (bs l), .int .i64 0] w (fun e w' => e = .returned (.int .i64 (numL l 0)) ∧ w = w') := number_any l 0 w hl hs
theorem number_1 (l : List UInt8) (w : World) (hl : Digs l) (hs : l.length ≤ 100000) :
    Calls Tryd.prog 66 #[.string (bs l), .int .i64 1] w (fun e w' => e = .returned (.int .i64 (numL l 1)) ∧ w = w') := number_any l 1 w hl hs
theorem numL_le (l : List UInt8) (n : Nat) : numL l n ≤ 999 := (numFold_bd n l).1

/-- the rows up to one that J blanks whole -/
def wipes (n y Y : Nat) : Bool := n == 2 || (n == 0 && decide (Y < y)) || (n == 1 && decide (y < Y))
def Ref.wipeTo (M : Ref) (n : Nat) : Nat → Ref
  | 0 => M
  | k + 1 => if wipes n k M.y then (M.wipeTo n k).erase k 2 0 else M.wipeTo n k
def Ref.command (M : Ref) (e : Nat) : Ref :=
  if e = 65 then { M with y := M.y - max (numL M.args 0) 1 }
  else if e = 66 then { M with y := min (M.h - 1) (M.y + max (numL M.args 0) 1) }
  else if e = 67 then { M with x := min (M.w - 1) (M.x + max (numL M.args 0) 1) }
  else if e = 68 then { M with x := M.x - max (numL M.args 0) 1 }
  else if e = 72 then { M with x := min M.w (max (numL M.args 1) 1) - 1, y := min M.h (max (numL M.args 0) 1) - 1 }
  else if e = 74 then (if 2 < numL M.args 0 then M else (M.wipeTo (numL M.args 0) M.h).erase M.y (numL M.args 0) (min M.x (M.w - 1)))
  else if e = 75 then (if 2 < numL M.args 0 then M else M.erase M.y (numL M.args 0) (min M.x (M.w - 1)))
  else M

structure Ref.Ok (M : Ref) : Prop where
  w1 : 1 ≤ M.w
  w2 : M.w ≤ 128
  h1 : 1 ≤ M.h
  h2 : M.h ≤ 64
  m : M.most ≤ 1000
  r : M.rows.length = M.h
  rw : ∀ r ∈ M.rows, r.length = M.w
  k : M.kept.length ≤ M.most
  x : M.x ≤ M.w
  y : M.y < M.h
  b : M.begun ≤ 2
  a : Digs M.args

set_option maxRecDepth 100000 in
set_option maxHeartbeats 1600000 in
theorem rcmd_65 (v : Value) (M : Ref) (w : World) (h : RV w v M) (ok : M.Ok) (ha : M.args.length ≤ 100000) :
    Calls Tryd.prog 48 #[v, .int .u8 65] w (RVPost w (M.command 65)) := by
  obtain ⟨vr, vk, rfl, h1, h2⟩ := h
  have H1 := Lib.hid h1; have H2 := Lib.hid h2
  obtain ⟨-, A4, c4, rfl, -, -, -, -⟩ := h2.1
  obtain ⟨-, A3, c3, rfl, -, -, -, -⟩ := h1.1
  clear h1 h2
  have hw1 := ok.w1; have hw2 := ok.w2; have hh1 := ok.h1; have hh2 := ok.h2; have hx := ok.x; have hy := ok.y
  have HA := Lib.hid ok.a
  have hn0 := numL_le M.args 0; have hn1 := numL_le M.args 1
  obtain ⟨f, hf⟩ : ∃ f : Int → Nat, ∀ i, f i = numL M.args i.toNat := ⟨_, fun _ => rfl⟩
  have NF : ∀ (i : Int) (w : World), 0 ≤ i → Calls Tryd.prog 66 #[.string (bs M.args), .int .i64 i] w (fun e w' => e = .returned (.int .i64 (f i)) ∧ w' = w) := fun i w hi => by
    obtain ⟨k, rfl⟩ := Int.eq_ofNat_of_zero_le hi
    rw [hf]
    exact (number_any M.args k w HA.out ha).mono fun _ _ ⟨h1, h2⟩ => ⟨h1, h2.symm⟩
  have HNF := Lib.hid NF
  have e0 : f 0 = numL M.args 0 := hf 0
  have e1 : f 1 = numL M.args 1 := hf 1
  have HM : Hid (M.command 65 = { M with y := M.y - max (f 0) 1 }) := by (try rw [e0]); (try rw [e1]); exact Lib.hid rfl
  rw [← e0] at hn0
  rw [← e1] at hn1
  have HE0 := Lib.hid e0; have HE1 := Lib.hid e1
  clear NF ok ha hf e0 e1
  obtain ⟨n3, hn3⟩ : ∃ n : Nat, n = M.rows.length := ⟨_, rfl⟩
  obtain ⟨n4, hn4⟩ : ∃ n : Nat, n = M.kept.length := ⟨_, rfl⟩
  rw [← hn3] at H1 ⊢
  rw [← hn4] at H2 ⊢
  obtain ⟨W, hW⟩ : ∃ W, W = (w.alloc (.cells (M.vals (.slice A3 n3 c3) (.slice A4 n4 c4)) 31)).alloc (.cells #[.int .i64 0, .int .i64 0, .int .i64 0, .slice none 0 0, .slice none 0 0, .int .i64 0, .int .i64 0, .int .i64 0, .string ⟨#[]⟩] 31) := ⟨_, rfl⟩
  have hWx : W.heap[w.heap.size]? = some (.cells (M.vals (.slice A3 n3 c3) (.slice A4 n4 c4)) 31 (0, 0)) := by rw [hW]; exact alloc2_fst _ _ _
  have hWy : W.heap[w.heap.size + 1]? = some (.cells (zeroRef.vals nilS nilS) 31 (0, 0)) := by rw [hW]; exact alloc2_snd _ _ _
  have hWb : Below w.heap.size w W := by rw [hW]; exact below_alloc2 _ _ _
  have hWs : W.heap.size = w.heap.size + 2 := by rw [hW]; simp
  have k8 : W.cell? ⟨w.heap.size, 8, none⟩ = some (.string (bs M.args)) := cell_of_row _ _ _ _ _ _ hWx
  have HW := Lib.hid hW; have HX := Lib.hid hWx; have HY := Lib.hid hWy; have HB := Lib.hid hWb; have HS := Lib.hid hWs; have HN3 := Lib.hid hn3; have HN4 := Lib.hid hn4
  clear hW hWx hWy hWb hWs hn3 hn4
  go_enter Tryd.func48, Tryd.ntmps48
  go_upto_region 1 with fail
  rw [← HW.out]
  clear HW
  go_quiet ((go_at_call 66; exact Calls.quiet_of_same (HNF.out _ _ (by decide))))
  obtain ⟨W1, hW1⟩ : ∃ W1, W1 = W.drewN nq := ⟨_, rfl⟩
  rw [← hW1]
  have hx1 : W1.heap[w.heap.size]? = some (.cells (M.vals (.slice A3 n3 c3) (.slice A4 n4 c4)) 31 (0, 0)) := by rw [hW1]; exact HX.out
  have hy1 : W1.heap[w.heap.size + 1]? = some (.cells (zeroRef.vals nilS nilS) 31 (0, 0)) := by rw [hW1]; exact HY.out
  have hbW1 : Below w.heap.size w W1 := by rw [hW1]; exact below_dn HB.out nq
  have hs1 : W1.heap.size = w.heap.size + 2 := by rw [hW1]; exact HS.out
  have e0 : W1.cell? ⟨w.heap.size, 0, none⟩ = some (.int .i64 M.w) := cell_of_row _ _ _ _ _ _ hx1
  have e1 : W1.cell? ⟨w.heap.size, 1, none⟩ = some (.int .i64 M.h) := cell_of_row _ _ _ _ _ _ hx1
  have e2 : W1.cell? ⟨w.heap.size, 2, none⟩ = some (.int .i64 M.most) := cell_of_row _ _ _ _ _ _ hx1
  have e3 : W1.cell? ⟨w.heap.size, 3, none⟩ = some (.slice A3 n3 c3) := cell_of_row _ _ _ _ _ _ hx1
  have e4 : W1.cell? ⟨w.heap.size, 4, none⟩ = some (.slice A4 n4 c4) := cell_of_row _ _ _ _ _ _ hx1
  have e5 : W1.cell? ⟨w.heap.size, 5, none⟩ = some (.int .i64 M.x) := cell_of_row _ _ _ _ _ _ hx1
  have e6 : W1.cell? ⟨w.heap.size, 6, none⟩ = some (.int .i64 M.y) := cell_of_row _ _ _ _ _ _ hx1
  have e7 : W1.cell? ⟨w.heap.size, 7, none⟩ = some (.int .i64 M.begun) := cell_of_row _ _ _ _ _ _ hx1
  have e8 : W1.cell? ⟨w.heap.size, 8, none⟩ = some (.string (bs M.args)) := cell_of_row _ _ _ _ _ _ hx1
  have f5 : W1.frozen? ⟨w.heap.size, 5, none⟩ = false := frozen_of_row _ _ _ _ _ hx1
  have f6 : W1.frozen? ⟨w.heap.size, 6, none⟩ = false := frozen_of_row _ _ _ _ _ hx1
  have d0 : W1.cell? ⟨w.heap.size + 1, 0, none⟩ = some (.int .i64 0) := cell_of_row _ _ _ _ _ _ hy1
  have d1 : W1.cell? ⟨w.heap.size + 1, 1, none⟩ = some (.int .i64 0) := cell_of_row _ _ _ _ _ _ hy1
  have d2 : W1.cell? ⟨w.heap.size + 1, 2, none⟩ = some (.int .i64 0) := cell_of_row _ _ _ _ _ _ hy1
  have d3 : W1.cell? ⟨w.heap.size + 1, 3, none⟩ = some (.slice none 0 0) := cell_of_row _ _ _ _ _ _ hy1
  have d4 : W1.cell? ⟨w.heap.size + 1, 4, none⟩ = some (.slice none 0 0) := cell_of_row _ _ _ _ _ _ hy1
  have d5 : W1.cell? ⟨w.heap.size + 1, 5, none⟩ = some (.int .i64 0) := cell_of_row _ _ _ _ _ _ hy1
  have d6 : W1.cell? ⟨w.heap.size + 1, 6, none⟩ = some (.int .i64 0) := cell_of_row _ _ _ _ _ _ hy1
  have d7 : W1.cell? ⟨w.heap.size + 1, 7, none⟩ = some (.int .i64 0) := cell_of_row _ _ _ _ _ _ hy1
  have d8 : W1.cell? ⟨w.heap.size + 1, 8, none⟩ = some (.string ⟨#[]⟩) := cell_of_row _ _ _ _ _ _ hy1
  have z0 : W1.frozen? ⟨w.heap.size + 1, 0, none⟩ = false := frozen_of_row _ _ _ _ _ hy1
  have z1 : W1.frozen? ⟨w.heap.size + 1, 1, none⟩ = false := frozen_of_row _ _ _ _ _ hy1
  have z2 : W1.frozen? ⟨w.heap.size + 1, 2, none⟩ = false := frozen_of_row _ _ _ _ _ hy1
  have z3 : W1.frozen? ⟨w.heap.size + 1, 3, none⟩ = false := frozen_of_row _ _ _ _ _ hy1
  have z4 : W1.frozen? ⟨w.heap.size + 1, 4, none⟩ = false := frozen_of_row _ _ _ _ _ hy1
  have z5 : W1.frozen? ⟨w.heap.size + 1, 5, none⟩ = false := frozen_of_row _ _ _ _ _ hy1
  have z6 : W1.frozen? ⟨w.heap.size + 1, 6, none⟩ = false := frozen_of_row _ _ _ _ _ hy1
  have z7 : W1.frozen? ⟨w.heap.size + 1, 7, none⟩ = false := frozen_of_row _ _ _ _ _ hy1
  have z8 : W1.frozen? ⟨w.heap.size + 1, 8, none⟩ = false := frozen_of_row _ _ _ _ _ hy1
  have HX1 := Lib.hid hx1; have HY1 := Lib.hid hy1; have HB1 := Lib.hid hbW1; have HS1 := Lib.hid hs1
  clear hx1 hy1 hbW1 hs1 hW1 k8
  go_wp2_with fail
  rw [show max 0 ((M.y : Int) - max (f 0 : Int) 1) = ((M.y - max (f 0) 1 : Nat) : Int) from by omega]
  rw [HM.out]
  have h3 := (HB1.out.setCell (p := ⟨w.heap.size, 6, none⟩) (Nat.le_refl _) (.int .i64 ((M.y - max (f 0) 1 : Nat) : Int))).grown (grown_setCells _ (w.heap.size + 1) 0 (Ref.vals { M with y := M.y - max (f 0) 1 } (.slice A3 n3 c3) (.slice A4 n4 c4)).toList) (by have := HS1.out; simp; omega) (fun q hq => by injection hq with hq; omega)
  refine bodyPost_ret (v := .agg (Ref.vals { M with y := M.y - max (f 0) 1 } (.slice A3 n3 c3) (.slice A4 n4 c4))) (by simp [results, Tryd.results48, go_sem, Ref.vals, d0, d1, d2, d3, d4, d5, d6, d7, d8]) rfl ⟨_, rfl, ⟨_, _, rfl, ?_, ?_⟩, ?_⟩
  · show RdT _ _ _ M.rows.length (M.rows.map strV)
    rw [← HN3.out]
    exact H1.out.next h3
  · show RdT _ _ _ M.kept.length (M.kept.map strV)
    rw [← HN4.out]
    exact H2.out.next h3
  · exact h3
set_option maxRecDepth 100000 in
set_option maxHeartbeats 1600000 in
theorem rcmd_66 (v : Value) (M : Ref) (w : World) (h : RV w v M) (ok : M.Ok) (ha : M.args.length ≤ 100000) :
    Calls Tryd.prog 48 #[v, .int .u8 66] w (RVPost w (M.command 66)) := by
  obtain ⟨vr, vk, rfl, h1, h2⟩ := h
  have H1 := Lib.hid h1; have H2 := Lib.hid h2
  obtain ⟨-, A4, c4, rfl, -, -, -, -⟩ := h2.1
  obtain ⟨-, A3, c3, rfl, -, -, -, -⟩ := h1.1
  clear h1 h2
  have hw1 := ok.w1; have hw2 := ok.w2; have hh1 := ok.h1; have hh2 := ok.h2; have hx := ok.x; have hy := ok.y
  have HA := Lib.hid ok.a
  have hn0 := numL_le M.args 0; have hn1 := numL_le M.args 1
  obtain ⟨f, hf⟩ : ∃ f : Int → Nat, ∀ i, f i = numL M.args i.toNat := ⟨_, fun _ => rfl⟩
  have NF : ∀ (i : Int) (w : World), 0 ≤ i → Calls Tryd.prog 66 #[.string (bs M.args), .int .i64 i] w (fun e w' => e = .returned (.int .i64 (f i)) ∧ w' = w) := fun i w hi => by
    obtain ⟨k, rfl⟩ := Int.eq_ofNat_of_zero_le hi
    rw [hf]
    exact (number_any M.args k w HA.out ha).mono fun _ _ ⟨h1, h2⟩ => ⟨h1, h2.symm⟩
  have HNF := Lib.hid NF
  have e0 : f 0 = numL M.args 0 := hf 0
  have e1 : f 1 = numL M.args 1 := hf 1
  have HM : Hid (M.command 66 = { M with y := min (M.h - 1) (M.y + max (f 0) 1) }) := by (try rw [e0]); (try rw [e1]); exact Lib.hid rfl
  rw [← e0] at hn0
  rw [← e1] at hn1
  have HE0 := Lib.hid e0; have HE1 := Lib.hid e1
  clear NF ok ha hf e0 e1
  obtain ⟨n3, hn3⟩ : ∃ n : Nat, n = M.rows.length := ⟨_, rfl⟩
  obtain ⟨n4, hn4⟩ : ∃ n : Nat, n = M.kept.length := ⟨_, rfl⟩
  rw [← hn3] at H1 ⊢
  rw [← hn4] at H2 ⊢
  obtain ⟨W, hW⟩ : ∃ W, W = (w.alloc (.cells (M.vals (.slice A3 n3 c3) (.slice A4 n4 c4)) 31)).alloc (.cells #[.int .i64 0, .int .i64 0, .int .i64 0, .slice none 0 0, .slice none 0 0, .int .i64 0, .int .i64 0, .int .i64 0, .string ⟨#[]⟩] 31) := ⟨_, rfl⟩
  have hWx : W.heap[w.heap.size]? = some (.cells (M.vals (.slice A3 n3 c3) (.slice A4 n4 c4)) 31 (0, 0)) := by rw [hW]; exact alloc2_fst _ _ _
  have hWy : W.heap[w.heap.size + 1]? = some (.cells (zeroRef.vals nilS nilS) 31 (0, 0)) := by rw [hW]; exact alloc2_snd _ _ _
  have hWb : Below w.heap.size w W := by rw [hW]; exact below_alloc2 _ _ _
  have hWs : W.heap.size = w.heap.size + 2 := by rw [hW]; simp
  have k8 : W.cell? ⟨w.heap.size, 8, none⟩ = some (.string (bs M.args)) := cell_of_row _ _ _ _ _ _ hWx
  have HW := Lib.hid hW; have HX := Lib.hid hWx; have HY := Lib.hid hWy; have HB := Lib.hid hWb; have HS := Lib.hid hWs; have HN3 := Lib.hid hn3; have HN4 := Lib.hid hn4
  clear hW hWx hWy hWb hWs hn3 hn4
  go_enter Tryd.func48, Tryd.ntmps48
  go_upto_region 1 with fail
  rw [← HW.out]
  clear HW
  go_quiet ((go_at_call 66; exact Calls.quiet_of_same (HNF.out _ _ (by decide))))
  obtain ⟨W1, hW1⟩ : ∃ W1, W1 = W.drewN nq := ⟨_, rfl⟩
  rw [← hW1]
  have hx1 : W1.heap[w.heap.size]? = some (.cells (M.vals (.slice A3 n3 c3) (.slice A4 n4 c4)) 31 (0, 0)) := by rw [hW1]; exact HX.out
  have hy1 : W1.heap[w.heap.size + 1]? = some (.cells (zeroRef.vals nilS nilS) 31 (0, 0)) := by rw [hW1]; exact HY.out
  have hbW1 : Below w.heap.size w W1 := by rw [hW1]; exact below_dn HB.out nq
  have hs1 : W1.heap.size = w.heap.size + 2 := by rw [hW1]; exact HS.out
  have e0 : W1.cell? ⟨w.heap.size, 0, none⟩ = some (.int .i64 M.w) := cell_of_row _ _ _ _ _ _ hx1
  have e1 : W1.cell? ⟨w.heap.size, 1, none⟩ = some (.int .i64 M.h) := cell_of_row _ _ _ _ _ _ hx1
  have e2 : W1.cell? ⟨w.heap.size, 2, none⟩ = some (.int .i64 M.most) := cell_of_row _ _ _ _ _ _ hx1
  have e3 : W1.cell? ⟨w.heap.size, 3, none⟩ = some (.slice A3 n3 c3) := cell_of_row _ _ _ _ _ _ hx1
  have e4 : W1.cell? ⟨w.heap.size, 4, none⟩ = some (.slice A4 n4 c4) := cell_of_row _ _ _ _ _ _ hx1
  have e5 : W1.cell? ⟨w.heap.size, 5, none⟩ = some (.int .i64 M.x) := cell_of_row _ _ _ _ _ _ hx1
  have e6 : W1.cell? ⟨w.heap.size, 6, none⟩ = some (.int .i64 M.y) := cell_of_row _ _ _ _ _ _ hx1
  have e7 : W1.cell? ⟨w.heap.size, 7, none⟩ = some (.int .i64 M.begun) := cell_of_row _ _ _ _ _ _ hx1
  have e8 : W1.cell? ⟨w.heap.size, 8, none⟩ = some (.string (bs M.args)) := cell_of_row _ _ _ _ _ _ hx1
  have f5 : W1.frozen? ⟨w.heap.size, 5, none⟩ = false := frozen_of_row _ _ _ _ _ hx1
  have f6 : W1.frozen? ⟨w.heap.size, 6, none⟩ = false := frozen_of_row _ _ _ _ _ hx1
  have d0 : W1.cell? ⟨w.heap.size + 1, 0, none⟩ = some (.int .i64 0) := cell_of_row _ _ _ _ _ _ hy1
  have d1 : W1.cell? ⟨w.heap.size + 1, 1, none⟩ = some (.int .i64 0) := cell_of_row _ _ _ _ _ _ hy1
  have d2 : W1.cell? ⟨w.heap.size + 1, 2, none⟩ = some (.int .i64 0) := cell_of_row _ _ _ _ _ _ hy1
  have d3 : W1.cell? ⟨w.heap.size + 1, 3, none⟩ = some (.slice none 0 0) := cell_of_row _ _ _ _ _ _ hy1
  have d4 : W1.cell? ⟨w.heap.size + 1, 4, none⟩ = some (.slice none 0 0) := cell_of_row _ _ _ _ _ _ hy1
  have d5 : W1.cell? ⟨w.heap.size + 1, 5, none⟩ = some (.int .i64 0) := cell_of_row _ _ _ _ _ _ hy1
  have d6 : W1.cell? ⟨w.heap.size + 1, 6, none⟩ = some (.int .i64 0) := cell_of_row _ _ _ _ _ _ hy1
  have d7 : W1.cell? ⟨w.heap.size + 1, 7, none⟩ = some (.int .i64 0) := cell_of_row _ _ _ _ _ _ hy1
  have d8 : W1.cell? ⟨w.heap.size + 1, 8, none⟩ = some (.string ⟨#[]⟩) := cell_of_row _ _ _ _ _ _ hy1
  have z0 : W1.frozen? ⟨w.heap.size + 1, 0, none⟩ = false := frozen_of_row _ _ _ _ _ hy1
  have z1 : W1.frozen? ⟨w.heap.size + 1, 1, none⟩ = false := frozen_of_row _ _ _ _ _ hy1
  have z2 : W1.frozen? ⟨w.heap.size + 1, 2, none⟩ = false := frozen_of_row _ _ _ _ _ hy1
  have z3 : W1.frozen? ⟨w.heap.size + 1, 3, none⟩ = false := frozen_of_row _ _ _ _ _ hy1
  have z4 : W1.frozen? ⟨w.heap.size + 1, 4, none⟩ = false := frozen_of_row _ _ _ _ _ hy1
  have z5 : W1.frozen? ⟨w.heap.size + 1, 5, none⟩ = false := frozen_of_row _ _ _ _ _ hy1
  have z6 : W1.frozen? ⟨w.heap.size + 1, 6, none⟩ = false := frozen_of_row _ _ _ _ _ hy1
  have z7 : W1.frozen? ⟨w.heap.size + 1, 7, none⟩ = false := frozen_of_row _ _ _ _ _ hy1
  have z8 : W1.frozen? ⟨w.heap.size + 1, 8, none⟩ = false := frozen_of_row _ _ _ _ _ hy1
  have HX1 := Lib.hid hx1; have HY1 := Lib.hid hy1; have HB1 := Lib.hid hbW1; have HS1 := Lib.hid hs1
  clear hx1 hy1 hbW1 hs1 hW1 k8
  go_wp2_with fail
  rw [show min ((M.h : Int) - 1) ((M.y : Int) + max (f 0 : Int) 1) = ((min (M.h - 1) (M.y + max (f 0) 1) : Nat) : Int) from by omega]
  rw [HM.out]
  have h3 := (HB1.out.setCell (p := ⟨w.heap.size, 6, none⟩) (Nat.le_refl _) (.int .i64 ((min (M.h - 1) (M.y + max (f 0) 1) : Nat) : Int))).grown (grown_setCells _ (w.heap.size + 1) 0 (Ref.vals { M with y := min (M.h - 1) (M.y + max (f 0) 1) } (.slice A3 n3 c3) (.slice A4 n4 c4)).toList) (by have := HS1.out; simp; omega) (fun q hq => by injection hq with hq; omega)
  refine bodyPost_ret (v := .agg (Ref.vals { M with y := min (M.h - 1) (M.y + max (f 0) 1) } (.slice A3 n3 c3) (.slice A4 n4 c4))) (by simp [results, Tryd.results48, go_sem, Ref.vals, d0, d1, d2, d3, d4, d5, d6, d7, d8]) rfl ⟨_, rfl, ⟨_, _, rfl, ?_, ?_⟩, ?_⟩
  · show RdT _ _ _ M.rows.length (M.rows.map strV)
    rw [← HN3.out]
    exact H1.out.next h3
  · show RdT _ _ _ M.kept.length (M.kept.map strV)
    rw [← HN4.out]
    exact H2.out.next h3
  · exact h3
set_option maxRecDepth 100000 in
set_option maxHeartbeats 1600000 in
theorem rcmd_67 (v : Value) (M : Ref) (w : World) (h : RV w v M) (ok : M.Ok) (ha : M.args.length ≤ 100000) :
    Calls Tryd.prog 48 #[v, .int .u8 67] w (RVPost w (M.command 67)) := by
  obtain ⟨vr, vk, rfl, h1, h2⟩ := h
  have H1 := Lib.hid h1; have H2 := Lib.hid h2
  obtain ⟨-, A4, c4, rfl, -, -, -, -⟩ := h2.1
  obtain ⟨-, A3, c3, rfl, -, -, -, -⟩ := h1.1
  clear h1 h2
  have hw1 := ok.w1; have hw2 := ok.w2; have hh1 := ok.h1; have hh2 := ok.h2; have hx := ok.x; have hy := ok.y
  have HA := Lib.hid ok.a
  have hn0 := numL_le M.args 0; have hn1 := numL_le M.args 1
  obtain ⟨f, hf⟩ : ∃ f : Int → Nat, ∀ i, f i = numL M.args i.toNat := ⟨_, fun _ => rfl⟩
  have NF : ∀ (i : Int) (w : World), 0 ≤ i → Calls Tryd.prog 66 #[.string (bs M.args), .int .i64 i] w (fun e w' => e = .returned (.int .i64 (f i)) ∧ w' = w) := fun i w hi => by
    obtain ⟨k, rfl⟩ := Int.eq_ofNat_of_zero_le hi
    rw [hf]
    exact (number_any M.args k w HA.out ha).mono fun _ _ ⟨h1, h2⟩ => ⟨h1, h2.symm⟩
  have HNF := Lib.hid NF
  have e0 : f 0 = numL M.args 0 := hf 0
  have e1 : f 1 = numL M.args 1 := hf 1
  have HM : Hid (M.command 67 = { M with x := min (M.w - 1) (M.x + max (f 0) 1) }) := by (try rw [e0]); (try rw [e1]); exact Lib.hid rfl
  rw [← e0] at hn0
  rw [← e1] at hn1
  have HE0 := Lib.hid e0; have HE1 := Lib.hid e1
  clear NF ok ha hf e0 e1
  obtain ⟨n3, hn3⟩ : ∃ n : Nat, n = M.rows.length := ⟨_, rfl⟩
  obtain ⟨n4, hn4⟩ : ∃ n : Nat, n = M.kept.length := ⟨_, rfl⟩
  rw [← hn3] at H1 ⊢
  rw [← hn4] at H2 ⊢
  obtain ⟨W, hW⟩ : ∃ W, W = (w.alloc (.cells (M.vals (.slice A3 n3 c3) (.slice A4 n4 c4)) 31)).alloc (.cells #[.int .i64 0, .int .i64 0, .int .i64 0, .slice none 0 0, .slice none 0 0, .int .i64 0, .int .i64 0, .int .i64 0, .string ⟨#[]⟩] 31) := ⟨_, rfl⟩
  have hWx : W.heap[w.heap.size]? = some (.cells (M.vals (.slice A3 n3 c3) (.slice A4 n4 c4)) 31 (0, 0)) := by rw [hW]; exact alloc2_fst _ _ _
  have hWy : W.heap[w.heap.size + 1]? = some (.cells (zeroRef.vals nilS nilS) 31 (0, 0)) := by rw [hW]; exact alloc2_snd _ _ _
  have hWb : Below w.heap.size w W := by rw [hW]; exact below_alloc2 _ _ _
  have hWs : W.heap.size = w.heap.size + 2 := by rw [hW]; simp
  have k8 : W.cell? ⟨w.heap.size, 8, none⟩ = some (.string (bs M.args)) := cell_of_row _ _ _ _ _ _ hWx
  have HW := Lib.hid hW; have HX := Lib.hid hWx; have HY := Lib.hid hWy; have HB := Lib.hid hWb; have HS := Lib.hid hWs; have HN3 := Lib.hid hn3; have HN4 := Lib.hid hn4
  clear hW hWx hWy hWb hWs hn3 hn4
  go_enter Tryd.func48, Tryd.ntmps48
  go_upto_region 1 with fail
  rw [← HW.out]
  clear HW
  go_quiet ((go_at_call 66; exact Calls.quiet_of_same (HNF.out _ _ (by decide))))
  obtain ⟨W1, hW1⟩ : ∃ W1, W1 = W.drewN nq := ⟨_, rfl⟩
  rw [← hW1]
  have hx1 : W1.heap[w.heap.size]? = some (.cells (M.vals (.slice A3 n3 c3) (.slice A4 n4 c4)) 31 (0, 0)) := by rw [hW1]; exact HX.out
  have hy1 : W1.heap[w.heap.size + 1]? = some (.cells (zeroRef.vals nilS nilS) 31 (0, 0)) := by rw [hW1]; exact HY.out
  have hbW1 : Below w.heap.size w W1 := by rw [hW1]; exact below_dn HB.out nq
  have hs1 : W1.heap.size = w.heap.size + 2 := by rw [hW1]; exact HS.out
  have e0 : W1.cell? ⟨w.heap.size, 0, none⟩ = some (.int .i64 M.w) := cell_of_row _ _ _ _ _ _ hx1
  have e1 : W1.cell? ⟨w.heap.size, 1, none⟩ = some (.int .i64 M.h) := cell_of_row _ _ _ _ _ _ hx1
  have e2 : W1.cell? ⟨w.heap.size, 2, none⟩ = some (.int .i64 M.most) := cell_of_row _ _ _ _ _ _ hx1
  have e3 : W1.cell? ⟨w.heap.size, 3, none⟩ = some (.slice A3 n3 c3) := cell_of_row _ _ _ _ _ _ hx1
  have e4 : W1.cell? ⟨w.heap.size, 4, none⟩ = some (.slice A4 n4 c4) := cell_of_row _ _ _ _ _ _ hx1
  have e5 : W1.cell? ⟨w.heap.size, 5, none⟩ = some (.int .i64 M.x) := cell_of_row _ _ _ _ _ _ hx1
  have e6 : W1.cell? ⟨w.heap.size, 6, none⟩ = some (.int .i64 M.y) := cell_of_row _ _ _ _ _ _ hx1
  have e7 : W1.cell? ⟨w.heap.size, 7, none⟩ = some (.int .i64 M.begun) := cell_of_row _ _ _ _ _ _ hx1
  have e8 : W1.cell? ⟨w.heap.size, 8, none⟩ = some (.string (bs M.args)) := cell_of_row _ _ _ _ _ _ hx1
  have f5 : W1.frozen? ⟨w.heap.size, 5, none⟩ = false := frozen_of_row _ _ _ _ _ hx1
  have f6 : W1.frozen? ⟨w.heap.size, 6, none⟩ = false := frozen_of_row _ _ _ _ _ hx1
  have d0 : W1.cell? ⟨w.heap.size + 1, 0, none⟩ = some (.int .i64 0) := cell_of_row _ _ _ _ _ _ hy1
  have d1 : W1.cell? ⟨w.heap.size + 1, 1, none⟩ = some (.int .i64 0) := cell_of_row _ _ _ _ _ _ hy1
  have d2 : W1.cell? ⟨w.heap.size + 1, 2, none⟩ = some (.int .i64 0) := cell_of_row _ _ _ _ _ _ hy1
  have d3 : W1.cell? ⟨w.heap.size + 1, 3, none⟩ = some (.slice none 0 0) := cell_of_row _ _ _ _ _ _ hy1
  have d4 : W1.cell? ⟨w.heap.size + 1, 4, none⟩ = some (.slice none 0 0) := cell_of_row _ _ _ _ _ _ hy1
  have d5 : W1.cell? ⟨w.heap.size + 1, 5, none⟩ = some (.int .i64 0) := cell_of_row _ _ _ _ _ _ hy1
  have d6 : W1.cell? ⟨w.heap.size + 1, 6, none⟩ = some (.int .i64 0) := cell_of_row _ _ _ _ _ _ hy1
  have d7 : W1.cell? ⟨w.heap.size + 1, 7, none⟩ = some (.int .i64 0) := cell_of_row _ _ _ _ _ _ hy1
  have d8 : W1.cell? ⟨w.heap.size + 1, 8, none⟩ = some (.string ⟨#[]⟩) := cell_of_row _ _ _ _ _ _ hy1
  have z0 : W1.frozen? ⟨w.heap.size + 1, 0, none⟩ = false := frozen_of_row _ _ _ _ _ hy1
  have z1 : W1.frozen? ⟨w.heap.size + 1, 1, none⟩ = false := frozen_of_row _ _ _ _ _ hy1
  have z2 : W1.frozen? ⟨w.heap.size + 1, 2, none⟩ = false := frozen_of_row _ _ _ _ _ hy1
  have z3 : W1.frozen? ⟨w.heap.size + 1, 3, none⟩ = false := frozen_of_row _ _ _ _ _ hy1
  have z4 : W1.frozen? ⟨w.heap.size + 1, 4, none⟩ = false := frozen_of_row _ _ _ _ _ hy1
  have z5 : W1.frozen? ⟨w.heap.size + 1, 5, none⟩ = false := frozen_of_row _ _ _ _ _ hy1
  have z6 : W1.frozen? ⟨w.heap.size + 1, 6, none⟩ = false := frozen_of_row _ _ _ _ _ hy1
  have z7 : W1.frozen? ⟨w.heap.size + 1, 7, none⟩ = false := frozen_of_row _ _ _ _ _ hy1
  have z8 : W1.frozen? ⟨w.heap.size + 1, 8, none⟩ = false := frozen_of_row _ _ _ _ _ hy1
  have HX1 := Lib.hid hx1; have HY1 := Lib.hid hy1; have HB1 := Lib.hid hbW1; have HS1 := Lib.hid hs1
  clear hx1 hy1 hbW1 hs1 hW1 k8
  go_wp2_with fail
  rw [show min ((M.w : Int) - 1) ((M.x : Int) + max (f 0 : Int) 1) = ((min (M.w - 1) (M.x + max (f 0) 1) : Nat) : Int) from by omega]
  rw [HM.out]
  have h3 := (HB1.out.setCell (p := ⟨w.heap.size, 5, none⟩) (Nat.le_refl _) (.int .i64 ((min (M.w - 1) (M.x + max (f 0) 1) : Nat) : Int))).grown (grown_setCells _ (w.heap.size + 1) 0 (Ref.vals { M with x := min (M.w - 1) (M.x + max (f 0) 1) } (.slice A3 n3 c3) (.slice A4 n4 c4)).toList) (by have := HS1.out; simp; omega) (fun q hq => by injection hq with hq; omega)
  refine bodyPost_ret (v := .agg (Ref.vals { M with x := min (M.w - 1) (M.x + max (f 0) 1) } (.slice A3 n3 c3) (.slice A4 n4 c4))) (by simp [results, Tryd.results48, go_sem, Ref.vals, d0, d1, d2, d3, d4, d5, d6, d7, d8]) rfl ⟨_, rfl, ⟨_, _, rfl, ?_, ?_⟩, ?_⟩
  · show RdT _ _ _ M.rows.length (M.rows.map strV)
    rw [← HN3.out]
    exact H1.out.next h3
  · show RdT _ _ _ M.kept.length (M.kept.map strV)
    rw [← HN4.out]
    exact H2.out.next h3
  · exact h3
set_option maxRecDepth 100000 in
set_option maxHeartbeats 1600000 in
theorem rcmd_68 (v : Value) (M : Ref) (w : World) (h : RV w v M) (ok : M.Ok) (ha : M.args.length ≤ 100000) :
    Calls Tryd.prog 48 #[v, .int .u8 68] w (RVPost w (M.command 68)) := by
  obtain ⟨vr, vk, rfl, h1, h2⟩ := h
  have H1 := Lib.hid h1; have H2 := Lib.hid h2
  obtain ⟨-, A4, c4, rfl, -, -, -, -⟩ := h2.1
  obtain ⟨-, A3, c3, rfl, -, -, -, -⟩ := h1.1
  clear h1 h2
  have hw1 := ok.w1; have hw2 := ok.w2; have hh1 := ok.h1; have hh2 := ok.h2; have hx := ok.x; have hy := ok.y
  have HA := Lib.hid ok.a
  have hn0 := numL_le M.args 0; have hn1 := numL_le M.args 1
  obtain ⟨f, hf⟩ : ∃ f : Int → Nat, ∀ i, f i = numL M.args i.toNat := ⟨_, fun _ => rfl⟩
  have NF : ∀ (i : Int) (w : World), 0 ≤ i → Calls Tryd.prog 66 #[.string (bs M.args), .int .i64 i] w (fun e w' => e = .returned (.int .i64 (f i)) ∧ w' = w) := fun i w hi => by
    obtain ⟨k, rfl⟩ := Int.eq_ofNat_of_zero_le hi
    rw [hf]
    exact (number_any M.args k w HA.out ha).mono fun _ _ ⟨h1, h2⟩ => ⟨h1, h2.symm⟩
  have HNF := Lib.hid NF
  have e0 : f 0 = numL M.args 0 := hf 0
  have e1 : f 1 = numL M.args 1 := hf 1
  have HM : Hid (M.command 68 = { M with x := M.x - max (f 0) 1 }) := by (try rw [e0]); (try rw [e1]); exact Lib.hid rfl
  rw [← e0] at hn0
  rw [← e1] at hn1
  have HE0 := Lib.hid e0; have HE1 := Lib.hid e1
  clear NF ok ha hf e0 e1
  obtain ⟨n3, hn3⟩ : ∃ n : Nat, n = M.rows.length := ⟨_, rfl⟩
  obtain ⟨n4, hn4⟩ : ∃ n : Nat, n = M.kept.length := ⟨_, rfl⟩
  rw [← hn3] at H1 ⊢
  rw [← hn4] at H2 ⊢
  obtain ⟨W, hW⟩ : ∃ W, W = (w.alloc (.cells (M.vals (.slice A3 n3 c3) (.slice A4 n4 c4)) 31)).alloc (.cells #[.int .i64 0, .int .i64 0, .int .i64 0, .slice none 0 0, .slice none 0 0, .int .i64 0, .int .i64 0, .int .i64 0, .string ⟨#[]⟩] 31) := ⟨_, rfl⟩
  have hWx : W.heap[w.heap.size]? = some (.cells (M.vals (.slice A3 n3 c3) (.slice A4 n4 c4)) 31 (0, 0)) := by rw [hW]; exact alloc2_fst _ _ _
  have hWy : W.heap[w.heap.size + 1]? = some (.cells (zeroRef.vals nilS nilS) 31 (0, 0)) := by rw [hW]; exact alloc2_snd _ _ _
  have hWb : Below w.heap.size w W := by rw [hW]; exact below_alloc2 _ _ _
  have hWs : W.heap.size = w.heap.size + 2 := by rw [hW]; simp
  have k8 : W.cell? ⟨w.heap.size, 8, none⟩ = some (.string (bs M.args)) := cell_of_row _ _ _ _ _ _ hWx
  have HW := Lib.hid hW; have HX := Lib.hid hWx; have HY := Lib.hid hWy; have HB := Lib.hid hWb; have HS := Lib.hid hWs; have HN3 := Lib.hid hn3; have HN4 := Lib.hid hn4
  clear hW hWx hWy hWb hWs hn3 hn4
  go_enter Tryd.func48, Tryd.ntmps48
  go_upto_region 1 with fail
  rw [← HW.out]
  clear HW
  go_quiet ((go_at_call 66; exact Calls.quiet_of_same (HNF.out _ _ (by decide))))
  obtain ⟨W1, hW1⟩ : ∃ W1, W1 = W.drewN nq := ⟨_, rfl⟩
  rw [← hW1]
  have hx1 : W1.heap[w.heap.size]? = some (.cells (M.vals (.slice A3 n3 c3) (.slice A4 n4 c4)) 31 (0, 0)) := by rw [hW1]; exact HX.out
  have hy1 : W1.heap[w.heap.size + 1]? = some (.cells (zeroRef.vals nilS nilS) 31 (0, 0)) := by rw [hW1]; exact HY.out
  have hbW1 : Below w.heap.size w W1 := by rw [hW1]; exact below_dn HB.out nq
  have hs1 : W1.heap.size = w.heap.size + 2 := by rw [hW1]; exact HS.out
  have e0 : W1.cell? ⟨w.heap.size, 0, none⟩ = some (.int .i64 M.w) := cell_of_row _ _ _ _ _ _ hx1
  have e1 : W1.cell? ⟨w.heap.size, 1, none⟩ = some (.int .i64 M.h) := cell_of_row _ _ _ _ _ _ hx1
  have e2 : W1.cell? ⟨w.heap.size, 2, none⟩ = some (.int .i64 M.most) := cell_of_row _ _ _ _ _ _ hx1
  have e3 : W1.cell? ⟨w.heap.size, 3, none⟩ = some (.slice A3 n3 c3) := cell_of_row _ _ _ _ _ _ hx1
  have e4 : W1.cell? ⟨w.heap.size, 4, none⟩ = some (.slice A4 n4 c4) := cell_of_row _ _ _ _ _ _ hx1
  have e5 : W1.cell? ⟨w.heap.size, 5, none⟩ = some (.int .i64 M.x) := cell_of_row _ _ _ _ _ _ hx1
  have e6 : W1.cell? ⟨w.heap.size, 6, none⟩ = some (.int .i64 M.y) := cell_of_row _ _ _ _ _ _ hx1
  have e7 : W1.cell? ⟨w.heap.size, 7, none⟩ = some (.int .i64 M.begun) := cell_of_row _ _ _ _ _ _ hx1
  have e8 : W1.cell? ⟨w.heap.size, 8, none⟩ = some (.string (bs M.args)) := cell_of_row _ _ _ _ _ _ hx1
  have f5 : W1.frozen? ⟨w.heap.size, 5, none⟩ = false := frozen_of_row _ _ _ _ _ hx1
  have f6 : W1.frozen? ⟨w.heap.size, 6, none⟩ = false := frozen_of_row _ _ _ _ _ hx1
  have d0 : W1.cell? ⟨w.heap.size + 1, 0, none⟩ = some (.int .i64 0) := cell_of_row _ _ _ _ _ _ hy1
  have d1 : W1.cell? ⟨w.heap.size + 1, 1, none⟩ = some (.int .i64 0) := cell_of_row _ _ _ _ _ _ hy1
  have d2 : W1.cell? ⟨w.heap.size + 1, 2, none⟩ = some (.int .i64 0) := cell_of_row _ _ _ _ _ _ hy1
  have d3 : W1.cell? ⟨w.heap.size + 1, 3, none⟩ = some (.slice none 0 0) := cell_of_row _ _ _ _ _ _ hy1
  have d4 : W1.cell? ⟨w.heap.size + 1, 4, none⟩ = some (.slice none 0 0) := cell_of_row _ _ _ _ _ _ hy1
  have d5 : W1.cell? ⟨w.heap.size + 1, 5, none⟩ = some (.int .i64 0) := cell_of_row _ _ _ _ _ _ hy1
  have d6 : W1.cell? ⟨w.heap.size + 1, 6, none⟩ = some (.int .i64 0) := cell_of_row _ _ _ _ _ _ hy1
  have d7 : W1.cell? ⟨w.heap.size + 1, 7, none⟩ = some (.int .i64 0) := cell_of_row _ _ _ _ _ _ hy1
  have d8 : W1.cell? ⟨w.heap.size + 1, 8, none⟩ = some (.string ⟨#[]⟩) := cell_of_row _ _ _ _ _ _ hy1
  have z0 : W1.frozen? ⟨w.heap.size + 1, 0, none⟩ = false := frozen_of_row _ _ _ _ _ hy1
  have z1 : W1.frozen? ⟨w.heap.size + 1, 1, none⟩ = false := frozen_of_row _ _ _ _ _ hy1
  have z2 : W1.frozen? ⟨w.heap.size + 1, 2, none⟩ = false := frozen_of_row _ _ _ _ _ hy1
  have z3 : W1.frozen? ⟨w.heap.size + 1, 3, none⟩ = false := frozen_of_row _ _ _ _ _ hy1
  have z4 : W1.frozen? ⟨w.heap.size + 1, 4, none⟩ = false := frozen_of_row _ _ _ _ _ hy1
  have z5 : W1.frozen? ⟨w.heap.size + 1, 5, none⟩ = false := frozen_of_row _ _ _ _ _ hy1
  have z6 : W1.frozen? ⟨w.heap.size + 1, 6, none⟩ = false := frozen_of_row _ _ _ _ _ hy1
  have z7 : W1.frozen? ⟨w.heap.size + 1, 7, none⟩ = false := frozen_of_row _ _ _ _ _ hy1
  have z8 : W1.frozen? ⟨w.heap.size + 1, 8, none⟩ = false := frozen_of_row _ _ _ _ _ hy1
  have HX1 := Lib.hid hx1; have HY1 := Lib.hid hy1; have HB1 := Lib.hid hbW1; have HS1 := Lib.hid hs1
  clear hx1 hy1 hbW1 hs1 hW1 k8
  go_wp2_with fail
  rw [show max 0 ((M.x : Int) - max (f 0 : Int) 1) = ((M.x - max (f 0) 1 : Nat) : Int) from by omega]
  rw [HM.out]
  have h3 := (HB1.out.setCell (p := ⟨w.heap.size, 5, none⟩) (Nat.le_refl _) (.int .i64 ((M.x - max (f 0) 1 : Nat) : Int))).grown (grown_setCells _ (w.heap.size + 1) 0 (Ref.vals { M with x := M.x - max (f 0) 1 } (.slice A3 n3 c3) (.slice A4 n4 c4)).toList) (by have := HS1.out; simp; omega) (fun q hq => by injection hq with hq; omega)
  refine bodyPost_ret (v := .agg (Ref.vals { M with x := M.x - max (f 0) 1 } (.slice A3 n3 c3) (.slice A4 n4 c4))) (by simp [results, Tryd.results48, go_sem, Ref.vals, d0, d1, d2, d3, d4, d5, d6, d7, d8]) rfl ⟨_, rfl, ⟨_, _, rfl, ?_, ?_⟩, ?_⟩
  · show RdT _ _ _ M.rows.length (M.rows.map strV)
    rw [← HN3.out]
    exact H1.out.next h3
  · show RdT _ _ _ M.kept.length (M.kept.map strV)
    rw [← HN4.out]
    exact H2.out.next h3
  · exact h3
set_option maxRecDepth 100000 in
set_option maxHeartbeats 1600000 in
theorem rcmd_72 (v : Value) (M : Ref) (w : World) (h : RV w v M) (ok : M.Ok) (ha : M.args.length ≤ 100000) :
    Calls Tryd.prog 48 #[v, .int .u8 72] w (RVPost w (M.command 72)) := by
  obtain ⟨vr, vk, rfl, h1, h2⟩ := h
  have H1 := Lib.hid h1; have H2 := Lib.hid h2
  obtain ⟨-, A4, c4, rfl, -, -, -, -⟩ := h2.1
  obtain ⟨-, A3, c3, rfl, -, -, -, -⟩ := h1.1
  clear h1 h2
  have hw1 := ok.w1; have hw2 := ok.w2; have hh1 := ok.h1; have hh2 := ok.h2; have hx := ok.x; have hy := ok.y
  have HA := Lib.hid ok.a
  have hn0 := numL_le M.args 0; have hn1 := numL_le M.args 1
  obtain ⟨f, hf⟩ : ∃ f : Int → Nat, ∀ i, f i = numL M.args i.toNat := ⟨_, fun _ => rfl⟩
  have NF : ∀ (i : Int) (w : World), 0 ≤ i → Calls Tryd.prog 66 #[.string (bs M.args), .int .i64 i] w (fun e w' => e = .returned (.int .i64 (f i)) ∧ w' = w) := fun i w hi => by
    obtain ⟨k, rfl⟩ := Int.eq_ofNat_of_zero_le hi
    rw [hf]
    exact (number_any M.args k w HA.out ha).mono fun _ _ ⟨h1, h2⟩ => ⟨h1, h2.symm⟩
  have HNF := Lib.hid NF
  have e0 : f 0 = numL M.args 0 := hf 0
  have e1 : f 1 = numL M.args 1 := hf 1
  have HM : Hid (M.command 72 = { M with x := min M.w (max (f 1) 1) - 1, y := min M.h (max (f 0) 1) - 1 }) := by (try rw [e0]); (try rw [e1]); exact Lib.hid rfl
  rw [← e0] at hn0
  rw [← e1] at hn1
  have HE0 := Lib.hid e0; have HE1 := Lib.hid e1
  clear NF ok ha hf e0 e1
  obtain ⟨n3, hn3⟩ : ∃ n : Nat, n = M.rows.length := ⟨_, rfl⟩
  obtain ⟨n4, hn4⟩ : ∃ n : Nat, n = M.kept.length := ⟨_, rfl⟩
  rw [← hn3] at H1 ⊢
  rw [← hn4] at H2 ⊢
  obtain ⟨W, hW⟩ : ∃ W, W = (w.alloc (.cells (M.vals (.slice A3 n3 c3) (.slice A4 n4 c4)) 31)).alloc (.cells #[.int .i64 0, .int .i64 0, .int .i64 0, .slice none 0 0, .slice none 0 0, .int .i64 0, .int .i64 0, .int .i64 0, .string ⟨#[]⟩] 31) := ⟨_, rfl⟩
  have hWx : W.heap[w.heap.size]? = some (.cells (M.vals (.slice A3 n3 c3) (.slice A4 n4 c4)) 31 (0, 0)) := by rw [hW]; exact alloc2_fst _ _ _
  have hWy : W.heap[w.heap.size + 1]? = some (.cells (zeroRef.vals nilS nilS) 31 (0, 0)) := by rw [hW]; exact alloc2_snd _ _ _
  have hWb : Below w.heap.size w W := by rw [hW]; exact below_alloc2 _ _ _
  have hWs : W.heap.size = w.heap.size + 2 := by rw [hW]; simp
  have k8 : W.cell? ⟨w.heap.size, 8, none⟩ = some (.string (bs M.args)) := cell_of_row _ _ _ _ _ _ hWx
  have HW := Lib.hid hW; have HX := Lib.hid hWx; have HY := Lib.hid hWy; have HB := Lib.hid hWb; have HS := Lib.hid hWs; have HN3 := Lib.hid hn3; have HN4 := Lib.hid hn4
  clear hW hWx hWy hWb hWs hn3 hn4
  go_enter Tryd.func48, Tryd.ntmps48
  go_upto_region 1 with fail
  rw [← HW.out]
  clear HW
  go_quiet ((go_at_call 66; exact Calls.quiet_of_same (HNF.out _ _ (by decide))))
  obtain ⟨W1, hW1⟩ : ∃ W1, W1 = W.drewN nq := ⟨_, rfl⟩
  rw [← hW1]
  have hx1 : W1.heap[w.heap.size]? = some (.cells (M.vals (.slice A3 n3 c3) (.slice A4 n4 c4)) 31 (0, 0)) := by rw [hW1]; exact HX.out
  have hy1 : W1.heap[w.heap.size + 1]? = some (.cells (zeroRef.vals nilS nilS) 31 (0, 0)) := by rw [hW1]; exact HY.out
  have hbW1 : Below w.heap.size w W1 := by rw [hW1]; exact below_dn HB.out nq
  have hs1 : W1.heap.size = w.heap.size + 2 := by rw [hW1]; exact HS.out
  have e0 : W1.cell? ⟨w.heap.size, 0, none⟩ = some (.int .i64 M.w) := cell_of_row _ _ _ _ _ _ hx1
  have e1 : W1.cell? ⟨w.heap.size, 1, none⟩ = some (.int .i64 M.h) := cell_of_row _ _ _ _ _ _ hx1
  have e2 : W1.cell? ⟨w.heap.size, 2, none⟩ = some (.int .i64 M.most) := cell_of_row _ _ _ _ _ _ hx1
  have e3 : W1.cell? ⟨w.heap.size, 3, none⟩ = some (.slice A3 n3 c3) := cell_of_row _ _ _ _ _ _ hx1
  have e4 : W1.cell? ⟨w.heap.size, 4, none⟩ = some (.slice A4 n4 c4) := cell_of_row _ _ _ _ _ _ hx1
  have e5 : W1.cell? ⟨w.heap.size, 5, none⟩ = some (.int .i64 M.x) := cell_of_row _ _ _ _ _ _ hx1
  have e6 : W1.cell? ⟨w.heap.size, 6, none⟩ = some (.int .i64 M.y) := cell_of_row _ _ _ _ _ _ hx1
  have e7 : W1.cell? ⟨w.heap.size, 7, none⟩ = some (.int .i64 M.begun) := cell_of_row _ _ _ _ _ _ hx1
  have e8 : W1.cell? ⟨w.heap.size, 8, none⟩ = some (.string (bs M.args)) := cell_of_row _ _ _ _ _ _ hx1
  have f5 : W1.frozen? ⟨w.heap.size, 5, none⟩ = false := frozen_of_row _ _ _ _ _ hx1
  have f6 : W1.frozen? ⟨w.heap.size, 6, none⟩ = false := frozen_of_row _ _ _ _ _ hx1
  have d0 : W1.cell? ⟨w.heap.size + 1, 0, none⟩ = some (.int .i64 0) := cell_of_row _ _ _ _ _ _ hy1
  have d1 : W1.cell? ⟨w.heap.size + 1, 1, none⟩ = some (.int .i64 0) := cell_of_row _ _ _ _ _ _ hy1
  have d2 : W1.cell? ⟨w.heap.size + 1, 2, none⟩ = some (.int .i64 0) := cell_of_row _ _ _ _ _ _ hy1
  have d3 : W1.cell? ⟨w.heap.size + 1, 3, none⟩ = some (.slice none 0 0) := cell_of_row _ _ _ _ _ _ hy1
  have d4 : W1.cell? ⟨w.heap.size + 1, 4, none⟩ = some (.slice none 0 0) := cell_of_row _ _ _ _ _ _ hy1
  have d5 : W1.cell? ⟨w.heap.size + 1, 5, none⟩ = some (.int .i64 0) := cell_of_row _ _ _ _ _ _ hy1
  have d6 : W1.cell? ⟨w.heap.size + 1, 6, none⟩ = some (.int .i64 0) := cell_of_row _ _ _ _ _ _ hy1
  have d7 : W1.cell? ⟨w.heap.size + 1, 7, none⟩ = some (.int .i64 0) := cell_of_row _ _ _ _ _ _ hy1
  have d8 : W1.cell? ⟨w.heap.size + 1, 8, none⟩ = some (.string ⟨#[]⟩) := cell_of_row _ _ _ _ _ _ hy1
  have z0 : W1.frozen? ⟨w.heap.size + 1, 0, none⟩ = false := frozen_of_row _ _ _ _ _ hy1
  have z1 : W1.frozen? ⟨w.heap.size + 1, 1, none⟩ = false := frozen_of_row _ _ _ _ _ hy1
  have z2 : W1.frozen? ⟨w.heap.size + 1, 2, none⟩ = false := frozen_of_row _ _ _ _ _ hy1
  have z3 : W1.frozen? ⟨w.heap.size + 1, 3, none⟩ = false := frozen_of_row _ _ _ _ _ hy1
  have z4 : W1.frozen? ⟨w.heap.size + 1, 4, none⟩ = false := frozen_of_row _ _ _ _ _ hy1
  have z5 : W1.frozen? ⟨w.heap.size + 1, 5, none⟩ = false := frozen_of_row _ _ _ _ _ hy1
  have z6 : W1.frozen? ⟨w.heap.size + 1, 6, none⟩ = false := frozen_of_row _ _ _ _ _ hy1
  have z7 : W1.frozen? ⟨w.heap.size + 1, 7, none⟩ = false := frozen_of_row _ _ _ _ _ hy1
  have z8 : W1.frozen? ⟨w.heap.size + 1, 8, none⟩ = false := frozen_of_row _ _ _ _ _ hy1
  have HX1 := Lib.hid hx1; have HY1 := Lib.hid hy1; have HB1 := Lib.hid hbW1; have HS1 := Lib.hid hs1
  clear hx1 hy1 hbW1 hs1 hW1 k8
  go_wp2_with fail
  rw [show min (M.w : Int) (max (f 1 : Int) 1) - 1 = ((min M.w (max (f 1) 1) - 1 : Nat) : Int) from by omega, show min (M.h : Int) (max (f 0 : Int) 1) - 1 = ((min M.h (max (f 0) 1) - 1 : Nat) : Int) from by omega]
  rw [HM.out]
  have h3 := ((HB1.out.setCell (p := ⟨w.heap.size, 5, none⟩) (Nat.le_refl _) (.int .i64 ((min M.w (max (f 1) 1) - 1 : Nat) : Int))).setCell (p := ⟨w.heap.size, 6, none⟩) (Nat.le_refl _) (.int .i64 ((min M.h (max (f 0) 1) - 1 : Nat) : Int))).grown (grown_setCells _ (w.heap.size + 1) 0 (Ref.vals { M with x := min M.w (max (f 1) 1) - 1, y := min M.h (max (f 0) 1) - 1 } (.slice A3 n3 c3) (.slice A4 n4 c4)).toList) (by have := HS1.out; simp; omega) (fun q hq => by injection hq with hq; omega)
  refine bodyPost_ret (v := .agg (Ref.vals { M with x := min M.w (max (f 1) 1) - 1, y := min M.h (max (f 0) 1) - 1 } (.slice A3 n3 c3) (.slice A4 n4 c4))) (by simp [results, Tryd.results48, go_sem, Ref.vals, d0, d1, d2, d3, d4, d5, d6, d7, d8]) rfl ⟨_, rfl, ⟨_, _, rfl, ?_, ?_⟩, ?_⟩
  · show RdT _ _ _ M.rows.length (M.rows.map strV)
    rw [← HN3.out]
    exact H1.out.next h3
  · show RdT _ _ _ M.kept.length (M.kept.map strV)
    rw [← HN4.out]
    exact H2.out.next h3
  · exact h3
end Go.Proofs.YtiefpodmdpnppaaDoor
