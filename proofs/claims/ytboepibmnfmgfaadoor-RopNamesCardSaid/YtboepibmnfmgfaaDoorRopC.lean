/-
  WALKS of package rop (layer 18): Then, Bit.
-/
import Derived.Test.YtboepibmnfmgfaaDoorRopB
namespace Go.Proofs.YtboepibmnfmgfaaDoor
open Go.RowKit

def thenStep (a b : Int) (s d : Bool) (o : Int) : Int := if ropDoes b s (ropDoes a s d) then bits .or .i64 o (ropWeight s d) else o
def then1 (a b : Int) : Int := thenStep a b false true (thenStep a b false false 0)
def then2 (a b : Int) : Int := thenStep a b true true (thenStep a b true false (then1 a b))

theorem rop_then_no (a b : Int) (w : World) (hk : ropKnown a = false ∨ ropKnown b = false) :
    Calls Tryd.prog 11 #[.int .i64 a, .int .i64 b] w fun e w' =>
      e = .returned (.tuple #[.int .i64 0, .bool false]) ∧ w = w' := by
  rcases ha : ropKnown a with _ | _
  · go_enter Tryd.func11, Tryd.ntmps11
    go_wp2_with (go_at_call 22; refine (known_any _ _).mono ?_; rintro e w' ⟨rfl, rfl⟩)
    go_ret2
    exact ⟨rfl, rfl⟩
  · have hb : ropKnown b = false := by simpa [ha] using hk
    clear hk
    go_enter Tryd.func11, Tryd.ntmps11
    go_wp2_with (go_at_call 22; refine (known_any _ _).mono ?_; rintro e w' ⟨rfl, rfl⟩)
    go_ret2
    exact ⟨rfl, rfl⟩

theorem thenStep_t {a b : Int} {s d : Bool} {o o' : Int} (ho : o' = o) (h : ropDoes b s (ropDoes a s d) = true) : Value.int .i64 (bits .or .i64 o' (ropWeight s d)) = .int .i64 (thenStep a b s d o) := by
  rw [ho]; simp only [thenStep, h, if_true]
theorem thenStep_f {a b : Int} {s d : Bool} {o o' : Int} (ho : o' = o) (h : ropDoes b s (ropDoes a s d) = false) : Value.int .i64 o' = .int .i64 (thenStep a b s d o) := by
  rw [ho]; simp [thenStep, h]
theorem then1_eq (a b : Int) : thenStep a b false true (thenStep a b false false 0) = then1 a b := by rw [then1]
theorem then2_eq (a b : Int) : thenStep a b true true (thenStep a b true false (then1 a b)) = then2 a b := by rw [then2]

theorem drewN_cell {w : World} {a : Addr} {v : Value} (h : w.cell? a = some v) (k : Nat) : (w.drewN k).cell? a = some v := h

set_option maxRecDepth 100000 in
set_option maxHeartbeats 1000000 in
theorem rop_then_yes (a b : Int) (w : World) (ha : ropKnown a = true) (hb : ropKnown b = true) :
    Calls Tryd.prog 11 #[.int .i64 a, .int .i64 b] w fun e w' =>
      e = .returned (.tuple #[.int .i64 (then2 a b), .bool true]) ∧ Below w.heap.size w w' := by
  have i0 : ∀ w : World, (Instr.index 45 (.agg #[.bool false, .bool true]) (.int .i64 0)).run Tryd.prog w = .ok (.bool false) w := fun _ => by kernel_rfl
  have i1 : ∀ w : World, (Instr.index 45 (.agg #[.bool false, .bool true]) (.int .i64 1)).run Tryd.prog w = .ok (.bool true) w := fun _ => by kernel_rfl
  go_enter Tryd.func11, Tryd.ntmps11
  go_wp2_with (first | (go_at_call 22; refine (known_any _ _).mono ?_; rintro e w' ⟨rfl, rfl⟩) | (go_at_call 23; refine (function_yes _ _ (by assumption)).mono ?_; rintro e w' ⟨rfl, rfl⟩))
  go_loopw [8, 26] (fun o i wr => ((i = .int .i64 0 ∧ o = .int .i64 0) ∨ (i = .int .i64 1 ∧ o = .int .i64 (then1 a b)) ∨ (i = .int .i64 2 ∧ o = .int .i64 (then2 a b))) ∧ wr.cell? ⟨w.heap.size, 0, none⟩ = some (.int .i64 a) ∧ wr.cell? ⟨w.heap.size + 1, 0, none⟩ = some (.int .i64 b) ∧ Below w.heap.size w wr) (fun _ i _ => 2 - (intOf i).toNat)
  case atStart => exact ⟨Or.inl ⟨rfl, rfl⟩, by simp, by simp, ((Below.refl _ _).alloc (Nat.le_refl _) _).alloc (by simp) _⟩
  case round =>
    obtain ⟨hcase, hca, hcb, hbl⟩ := hrel
    rcases hcase with ⟨rfl, rfl⟩ | ⟨rfl, rfl⟩ | ⟨rfl, rfl⟩
    · go_wp2_with fail
      obtain ⟨wo, rfl⟩ : ∃ wo : World, wo = wr := ⟨_, rfl⟩
      go_loopw [8, 30] (fun o i wr => ((i = .int .i64 0 ∧ o = .int .i64 0) ∨ (i = .int .i64 1 ∧ o = .int .i64 (thenStep a b false false 0)) ∨ (i = .int .i64 2 ∧ o = .int .i64 (thenStep a b false true (thenStep a b false false 0)))) ∧ wr.cell? ⟨w.heap.size, 0, none⟩ = some (.int .i64 a) ∧ wr.cell? ⟨w.heap.size + 1, 0, none⟩ = some (.int .i64 b) ∧ Below w.heap.size w wr) (fun _ i _ => 2 - (intOf i).toNat)
      case atStart => exact ⟨Or.inl ⟨rfl, rfl⟩, hca, hcb, hbl⟩
      case round =>
        clear hca hcb hbl
        obtain ⟨hcase, hca, hcb, hbl⟩ := hrel
        rcases hcase with ⟨rfl, rfl⟩ | ⟨rfl, rfl⟩ | ⟨rfl, rfl⟩
        · go_wp2_with fail
          refine (function2_any _ _ a _ _ hca).mono ?_
          rintro e w' ⟨rfl, k1, rfl⟩
          go_wp2_with fail
          refine (function2_any _ _ b _ _ (drewN_cell hcb k1)).mono ?_
          rintro e w' ⟨rfl, k2, rfl⟩
          rcases hq : ropDoes b false (ropDoes a false false) with _ | _
          · go_wp2_with (go_at_call 24; refine (weight_any _ _ _).mono ?_; rintro e w' ⟨rfl, rfl⟩)
            go_roundw
            case rel => exact ⟨Or.inr (Or.inl ⟨rfl, thenStep_f rfl hq⟩), drewN_cell hca _, drewN_cell hcb _, below_drewN hbl _⟩
            case measure => simp [intOf]
          · go_wp2_with (go_at_call 24; refine (weight_any _ _ _).mono ?_; rintro e w' ⟨rfl, rfl⟩)
            go_roundw
            case rel => exact ⟨Or.inr (Or.inl ⟨rfl, thenStep_t rfl hq⟩), drewN_cell hca _, drewN_cell hcb _, below_drewN hbl _⟩
            case measure => simp [intOf]
        · generalize hO : ((thenStep a b false false 0) : Int) = O
          clear hO
          go_wp2_with fail
          refine (function2_any _ _ a _ _ hca).mono ?_
          rintro e w' ⟨rfl, k1, rfl⟩
          go_wp2_with fail
          refine (function2_any _ _ b _ _ (drewN_cell hcb k1)).mono ?_
          rintro e w' ⟨rfl, k2, rfl⟩
          rcases hq : ropDoes b false (ropDoes a false true) with _ | _
          · go_wp2_with (go_at_call 24; refine (weight_any _ _ _).mono ?_; rintro e w' ⟨rfl, rfl⟩)
            go_roundw
            case rel => exact ⟨Or.inr (Or.inr ⟨rfl, thenStep_f rfl hq⟩), drewN_cell hca _, drewN_cell hcb _, below_drewN hbl _⟩
            case measure => simp [intOf]
          · go_wp2_with (go_at_call 24; refine (weight_any _ _ _).mono ?_; rintro e w' ⟨rfl, rfl⟩)
            go_roundw
            case rel => exact ⟨Or.inr (Or.inr ⟨rfl, thenStep_t rfl hq⟩), drewN_cell hca _, drewN_cell hcb _, below_drewN hbl _⟩
            case measure => simp [intOf]
        · rw [then1_eq]
          go_wp2_with fail
          go_roundw
          case rel => exact ⟨Or.inr (Or.inl ⟨rfl, rfl⟩), hca, hcb, hbl⟩
          case measure => simp [intOf]
    · go_wp2_with fail
      obtain ⟨wo, rfl⟩ : ∃ wo : World, wo = wr := ⟨_, rfl⟩
      go_loopw [8, 30] (fun o i wr => ((i = .int .i64 0 ∧ o = .int .i64 (then1 a b)) ∨ (i = .int .i64 1 ∧ o = .int .i64 (thenStep a b true false (then1 a b))) ∨ (i = .int .i64 2 ∧ o = .int .i64 (thenStep a b true true (thenStep a b true false (then1 a b))))) ∧ wr.cell? ⟨w.heap.size, 0, none⟩ = some (.int .i64 a) ∧ wr.cell? ⟨w.heap.size + 1, 0, none⟩ = some (.int .i64 b) ∧ Below w.heap.size w wr) (fun _ i _ => 2 - (intOf i).toNat)
      case atStart => exact ⟨Or.inl ⟨rfl, rfl⟩, hca, hcb, hbl⟩
      case round =>
        clear hca hcb hbl
        obtain ⟨hcase, hca, hcb, hbl⟩ := hrel
        rcases hcase with ⟨rfl, rfl⟩ | ⟨rfl, rfl⟩ | ⟨rfl, rfl⟩
        · generalize hO : ((then1 a b) : Int) = O
          clear hO
          go_wp2_with fail
          refine (function2_any _ _ a _ _ hca).mono ?_
          rintro e w' ⟨rfl, k1, rfl⟩
          go_wp2_with fail
          refine (function2_any _ _ b _ _ (drewN_cell hcb k1)).mono ?_
          rintro e w' ⟨rfl, k2, rfl⟩
          rcases hq : ropDoes b true (ropDoes a true false) with _ | _
          · go_wp2_with (go_at_call 24; refine (weight_any _ _ _).mono ?_; rintro e w' ⟨rfl, rfl⟩)
            go_roundw
            case rel => exact ⟨Or.inr (Or.inl ⟨rfl, thenStep_f rfl hq⟩), drewN_cell hca _, drewN_cell hcb _, below_drewN hbl _⟩
            case measure => simp [intOf]
          · go_wp2_with (go_at_call 24; refine (weight_any _ _ _).mono ?_; rintro e w' ⟨rfl, rfl⟩)
            go_roundw
            case rel => exact ⟨Or.inr (Or.inl ⟨rfl, thenStep_t rfl hq⟩), drewN_cell hca _, drewN_cell hcb _, below_drewN hbl _⟩
            case measure => simp [intOf]
        · generalize hO : ((thenStep a b true false (then1 a b)) : Int) = O
          clear hO
          go_wp2_with fail
          refine (function2_any _ _ a _ _ hca).mono ?_
          rintro e w' ⟨rfl, k1, rfl⟩
          go_wp2_with fail
          refine (function2_any _ _ b _ _ (drewN_cell hcb k1)).mono ?_
          rintro e w' ⟨rfl, k2, rfl⟩
          rcases hq : ropDoes b true (ropDoes a true true) with _ | _
          · go_wp2_with (go_at_call 24; refine (weight_any _ _ _).mono ?_; rintro e w' ⟨rfl, rfl⟩)
            go_roundw
            case rel => exact ⟨Or.inr (Or.inr ⟨rfl, thenStep_f rfl hq⟩), drewN_cell hca _, drewN_cell hcb _, below_drewN hbl _⟩
            case measure => simp [intOf]
          · go_wp2_with (go_at_call 24; refine (weight_any _ _ _).mono ?_; rintro e w' ⟨rfl, rfl⟩)
            go_roundw
            case rel => exact ⟨Or.inr (Or.inr ⟨rfl, thenStep_t rfl hq⟩), drewN_cell hca _, drewN_cell hcb _, below_drewN hbl _⟩
            case measure => simp [intOf]
        · rw [then2_eq]
          go_wp2_with fail
          go_roundw
          case rel => exact ⟨Or.inr (Or.inr ⟨rfl, rfl⟩), hca, hcb, hbl⟩
          case measure => simp [intOf]
    · go_wp2_with fail
      go_ret2
      exact ⟨rfl, hbl⟩
end Go.Proofs.YtboepibmnfmgfaaDoor
