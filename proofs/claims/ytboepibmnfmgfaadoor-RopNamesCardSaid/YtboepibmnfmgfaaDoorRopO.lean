/-
  WALKS of the names: rop.Of, the reference's Names and Of; the statement RopNames.
-/
import Derived.Test.YtboepibmnfmgfaaDoorRopM
namespace Go.Proofs.YtboepibmnfmgfaaDoor
open Go.RowKit

theorem nm_inj_fin : ∀ i j : Fin 16, (nm i.val).toList = (nm j.val).toList → i = j := by decide +kernel
theorem nm_inj {i j : Nat} (hi : i < 16) (hj : j < 16) (h : (nm i).toList = (nm j).toList) : i = j := by
  have := nm_inj_fin ⟨i, hi⟩ ⟨j, hj⟩ h
  exact Fin.mk.inj_iff.1 this
theorem nm_ne_fin : ∀ i : Fin 16, (nm i.val).toList ≠ (⟨#[]⟩ : ByteArray).toList := by decide +kernel

theorem index_names (k : Nat) (hk : k < 16) (w : World) : (Instr.index 47 (.agg namesArr) (.int .i64 k)).run Tryd.prog w = .ok (.string (nm k)) w := by
  have h0 : ∀ w : World, (Instr.index 47 (.agg namesArr) (.int .i64 ((0 : Nat) : Int))).run Tryd.prog w = .ok (.string (nm 0)) w := fun _ => by kernel_rfl
  have h1 : ∀ w : World, (Instr.index 47 (.agg namesArr) (.int .i64 ((1 : Nat) : Int))).run Tryd.prog w = .ok (.string (nm 1)) w := fun _ => by kernel_rfl
  have h2 : ∀ w : World, (Instr.index 47 (.agg namesArr) (.int .i64 ((2 : Nat) : Int))).run Tryd.prog w = .ok (.string (nm 2)) w := fun _ => by kernel_rfl
  have h3 : ∀ w : World, (Instr.index 47 (.agg namesArr) (.int .i64 ((3 : Nat) : Int))).run Tryd.prog w = .ok (.string (nm 3)) w := fun _ => by kernel_rfl
  have h4 : ∀ w : World, (Instr.index 47 (.agg namesArr) (.int .i64 ((4 : Nat) : Int))).run Tryd.prog w = .ok (.string (nm 4)) w := fun _ => by kernel_rfl
  have h5 : ∀ w : World, (Instr.index 47 (.agg namesArr) (.int .i64 ((5 : Nat) : Int))).run Tryd.prog w = .ok (.string (nm 5)) w := fun _ => by kernel_rfl
  have h6 : ∀ w : World, (Instr.index 47 (.agg namesArr) (.int .i64 ((6 : Nat) : Int))).run Tryd.prog w = .ok (.string (nm 6)) w := fun _ => by kernel_rfl
  have h7 : ∀ w : World, (Instr.index 47 (.agg namesArr) (.int .i64 ((7 : Nat) : Int))).run Tryd.prog w = .ok (.string (nm 7)) w := fun _ => by kernel_rfl
  have h8 : ∀ w : World, (Instr.index 47 (.agg namesArr) (.int .i64 ((8 : Nat) : Int))).run Tryd.prog w = .ok (.string (nm 8)) w := fun _ => by kernel_rfl
  have h9 : ∀ w : World, (Instr.index 47 (.agg namesArr) (.int .i64 ((9 : Nat) : Int))).run Tryd.prog w = .ok (.string (nm 9)) w := fun _ => by kernel_rfl
  have h10 : ∀ w : World, (Instr.index 47 (.agg namesArr) (.int .i64 ((10 : Nat) : Int))).run Tryd.prog w = .ok (.string (nm 10)) w := fun _ => by kernel_rfl
  have h11 : ∀ w : World, (Instr.index 47 (.agg namesArr) (.int .i64 ((11 : Nat) : Int))).run Tryd.prog w = .ok (.string (nm 11)) w := fun _ => by kernel_rfl
  have h12 : ∀ w : World, (Instr.index 47 (.agg namesArr) (.int .i64 ((12 : Nat) : Int))).run Tryd.prog w = .ok (.string (nm 12)) w := fun _ => by kernel_rfl
  have h13 : ∀ w : World, (Instr.index 47 (.agg namesArr) (.int .i64 ((13 : Nat) : Int))).run Tryd.prog w = .ok (.string (nm 13)) w := fun _ => by kernel_rfl
  have h14 : ∀ w : World, (Instr.index 47 (.agg namesArr) (.int .i64 ((14 : Nat) : Int))).run Tryd.prog w = .ok (.string (nm 14)) w := fun _ => by kernel_rfl
  have h15 : ∀ w : World, (Instr.index 47 (.agg namesArr) (.int .i64 ((15 : Nat) : Int))).run Tryd.prog w = .ok (.string (nm 15)) w := fun _ => by kernel_rfl
  match k, hk with
  | 0, _ => exact h0 w
  | 1, _ => exact h1 w
  | 2, _ => exact h2 w
  | 3, _ => exact h3 w
  | 4, _ => exact h4 w
  | 5, _ => exact h5 w
  | 6, _ => exact h6 w
  | 7, _ => exact h7 w
  | 8, _ => exact h8 w
  | 9, _ => exact h9 w
  | 10, _ => exact h10 w
  | 11, _ => exact h11 w
  | 12, _ => exact h12 w
  | 13, _ => exact h13 w
  | 14, _ => exact h14 w
  | 15, _ => exact h15 w
  | n + 16, h => exact absurd h (by omega)

def OfPost (s : ByteArray) (w : World) (e : Ending) (w' : World) : Prop :=
  ((∃ k : Nat, k < 16 ∧ (nm k).toList = s.toList ∧ e = .returned (.tuple #[.int .i64 k, .bool true])) ∨ ((∀ k, k < 16 → (nm k).toList ≠ s.toList) ∧ e = .returned (.tuple #[.int .i64 0, .bool false]))) ∧ w = w'

set_option maxHeartbeats 400000 in
theorem of_any (s : ByteArray) (w : World) (hN : NamesIn w) : Calls Tryd.prog 20 #[.string s] w (OfPost s w) := by
  obtain ⟨tt, fr, hg⟩ := namesIn_heap hN
  clear hN
  go_enter Tryd.func20, Tryd.ntmps20
  go_wp2_with (refine wpList_load_row rfl 47 _ rfl 0 rfl tt _ fr _ hg Tryd.underlying47 rfl (by kernel_rfl) ?_)
  go_loop [7] (fun i => ∃ k : Nat, k ≤ 16 ∧ i = .int .i64 k ∧ Hid (∀ j, j < k → (nm j).toList ≠ s.toList)) (fun i => 16 - (intOf i).toNat)
  case atStart => exact ⟨0, by omega, rfl, fun j hj => absurd hj (by omega)⟩
  case round =>
    obtain ⟨k, hk, rfl, hno⟩ := hrel
    by_cases hlt : k < 16
    · have hix := index_names k hlt
      rcases he : ((nm k).toList == s.toList) with _ | _
      · go_wp2
        go_round
        case rel =>
          refine ⟨k + 1, by omega, by go_num, fun j hj => ?_⟩
          by_cases e : j = k
          · subst e; simpa using he
          · exact hno.out j (by omega)
        case measure => simp [intOf]; omega
      · go_wp2
        go_ret2
        exact ⟨Or.inl ⟨k, hlt, by simpa using he, rfl⟩, rfl⟩
    · obtain rfl : k = 16 := by omega
      go_wp2
      go_ret2
      exact ⟨Or.inr ⟨hno.out, rfl⟩, rfl⟩

def namesBlock : Obj := .cells namesArr 9
theorem refNames_any (w : World) :
    Calls Tryd.prog 19 #[] w fun e w' => e = .returned (.slice (some ⟨w.heap.size, 0, none⟩) 16 16) ∧ w.alloc namesBlock = w' := by
  go_enter Tryd.func19, Tryd.ntmps19
  go_wp2
  go_ret
  exact ⟨rfl, rfl⟩
theorem names_cell (w : World) (k : Nat) (hk : k < 16) : (w.alloc namesBlock).cell? ⟨w.heap.size, k, none⟩ = some (.string (nm k)) := by
  simp [namesBlock, namesArr_at k hk]

def RefOfPost (s : ByteArray) (w : World) (e : Ending) (w' : World) : Prop :=
  ((∃ k : Nat, k < 16 ∧ (nm k).toList = s.toList ∧ e = .returned (.int .i64 k)) ∨ ((∀ k, k < 16 → (nm k).toList ≠ s.toList) ∧ e = .returned (.int .i64 (-1)))) ∧ Below w.heap.size w w'

set_option maxHeartbeats 400000 in
theorem refOf_any (s : ByteArray) (w : World) : Calls Tryd.prog 21 #[.string s] w (RefOfPost s w) := by
  go_enter Tryd.func21, Tryd.ntmps21
  go_wp2_with (go_at_call 19; refine (refNames_any _).mono ?_; rintro e w' ⟨rfl, rfl⟩)
  go_loop [4] (fun i => ∃ k : Nat, k ≤ 16 ∧ i = .int .i64 k ∧ Hid (∀ j, j < k → (nm j).toList ≠ s.toList)) (fun i => 16 - (intOf i).toNat)
  case atStart => exact ⟨0, by omega, rfl, fun j hj => absurd hj (by omega)⟩
  case round =>
    obtain ⟨k, hk, rfl, hno⟩ := hrel
    by_cases hlt : k < 16
    · have hix := names_cell w k hlt
      rcases he : ((nm k).toList == s.toList) with _ | _
      · go_wp2
        go_round
        case rel =>
          refine ⟨k + 1, by omega, by go_num, fun j hj => ?_⟩
          by_cases e : j = k
          · subst e; simpa using he
          · exact hno.out j (by omega)
        case measure => simp [intOf]; omega
      · go_wp2
        go_ret
        exact ⟨Or.inl ⟨k, hlt, by simpa using he, rfl⟩, (Below.refl _ _).alloc (Nat.le_refl _) _⟩
    · obtain rfl : k = 16 := by omega
      go_wp2
      go_ret
      exact ⟨Or.inr ⟨hno.out, rfl⟩, (Below.refl _ _).alloc (Nat.le_refl _) _⟩

/- the three contracts, where the outcome is known -/
theorem of_yes {s : ByteArray} {k : Nat} (w : World) (hN : NamesIn w) (hk : k < 16) (h : (nm k).toList = s.toList) :
    Calls Tryd.prog 20 #[.string s] w fun e w' => e = .returned (.tuple #[.int .i64 k, .bool true]) ∧ w = w' := by
  refine (of_any s w hN).mono fun e w' hp => ⟨?_, hp.2⟩
  rcases hp.1 with ⟨j, hj, hs, he⟩ | ⟨hno, _⟩
  · rw [he, nm_inj hj hk (hs.trans h.symm)]
  · exact absurd h (hno k hk)
theorem of_no {s : ByteArray} (w : World) (hN : NamesIn w) (h : ∀ k, k < 16 → (nm k).toList ≠ s.toList) :
    Calls Tryd.prog 20 #[.string s] w fun e w' => e = .returned (.tuple #[.int .i64 0, .bool false]) ∧ w = w' := by
  refine (of_any s w hN).mono fun e w' hp => ⟨?_, hp.2⟩
  rcases hp.1 with ⟨j, hj, hs, _⟩ | ⟨_, he⟩
  · exact absurd hs (h j hj)
  · exact he
theorem refOf_yes {s : ByteArray} {k : Nat} (w : World) (hk : k < 16) (h : (nm k).toList = s.toList) :
    Calls Tryd.prog 21 #[.string s] w fun e w' => e = .returned (.int .i64 k) ∧ Below w.heap.size w w' := by
  refine (refOf_any s w).mono fun e w' hp => ⟨?_, hp.2⟩
  rcases hp.1 with ⟨j, hj, hs, he⟩ | ⟨hno, _⟩
  · rw [he, nm_inj hj hk (hs.trans h.symm)]
  · exact absurd h (hno k hk)
theorem refOf_no {s : ByteArray} (w : World) (h : ∀ k, k < 16 → (nm k).toList ≠ s.toList) :
    Calls Tryd.prog 21 #[.string s] w fun e w' => e = .returned (.int .i64 (-1)) ∧ Below w.heap.size w w' := by
  refine (refOf_any s w).mono fun e w' hp => ⟨?_, hp.2⟩
  rcases hp.1 with ⟨j, hj, hs, _⟩ | ⟨_, he⟩
  · exact absurd hs (h j hj)
  · exact he

set_option maxRecDepth 100000 in
set_option maxHeartbeats 1000000 in
theorem names_walk_long (n : Int) (s : ByteArray) (w : World) (hsz : s.size ≤ maxLen) (hl : 300 < s.size) (hN : NamesIn w) :
    Calls Tryd.prog 9 #[.int .i64 n, .string s] w (Law w) := by
  have HN := Lib.hid hN; clear hN
  unfold maxLen at hsz
  go_enter Tryd.func9, Tryd.ntmps9
  go_wp2_with fail
  refine (awake_any _ HN.out).mono ?_
  rintro e w1 ⟨rfl, h1⟩
  have HN1 := Lib.hid (namesIn_next HN.out h1)
  clear HN1
  go_wp2_with fail
  go_ret
  exact ⟨rfl, h1⟩

set_option maxRecDepth 100000 in
set_option maxHeartbeats 1000000 in
theorem names_walk_yy (n : Nat) (s : ByteArray) (w : World) (hsz : s.size ≤ maxLen) (hl : ¬ 300 < s.size) (hN : NamesIn w) (hn : n < 16) (k : Nat) (hk : k < 16) (hs : (nm k).toList = s.toList) :
    Calls Tryd.prog 9 #[.int .i64 n, .string s] w (Law w) := by
  have HN := Lib.hid hN; clear hN
  have HS := Lib.hid hs; clear hs
  unfold maxLen at hsz
  have hkn : ropKnown n = true := known_of hn
  have hself : ((nm n).toList == (nm n).toList) = true := by simp
  have hself2 : ((nm n).toList != (nm n).toList) = false := by simp
  go_enter Tryd.func9, Tryd.ntmps9
  go_wp2_with fail
  refine (awake_any _ HN.out).mono ?_
  rintro e w1 ⟨rfl, h1⟩
  have HN1 := Lib.hid (namesIn_next HN.out h1)
  go_wp2_with fail
  refine (name_yes n _ hn HN1.out).mono ?_
  rintro e w2 ⟨rfl, rfl⟩
  go_wp2_with fail
  refine (refIs_any _ _).mono ?_
  rintro e w2 ⟨rfl, rfl⟩
  go_wp2_with fail
  refine (refIs_any _ _).mono ?_
  rintro e w2 ⟨rfl, rfl⟩
  go_wp2_with fail
  refine (refNames_any _).mono ?_
  rintro e w2 ⟨rfl, rfl⟩
  have hix := names_cell w1 n hn
  have hb2 : Below w.heap.size w (w1.alloc namesBlock) := h1.alloc h1.size _
  have HN2 := Lib.hid (namesIn_next HN.out hb2)
  generalize w1.alloc namesBlock = w2 at hix hb2 HN2 ⊢
  clear h1 HN1
  go_wp2_with fail
  refine (of_yes _ HN2.out hk HS.out).mono ?_
  rintro e w3 ⟨rfl, rfl⟩
  go_wp2_with fail
  refine (refOf_yes _ hk HS.out).mono ?_
  rintro e w4 ⟨rfl, h4⟩
  have HN4 := Lib.hid (namesIn_next HN2.out h4)
  go_wp2_with fail
  refine (of_yes _ HN4.out hn rfl).mono ?_
  rintro e w5 ⟨rfl, rfl⟩
  go_wp2_with (go_at_call 14; refine (refIs_any _ _).mono ?_; rintro e w6 ⟨rfl, rfl⟩)
  go_ret
  exact ⟨rfl, below_next hb2 h4⟩

set_option maxRecDepth 100000 in
set_option maxHeartbeats 1000000 in
theorem names_walk_yn (n : Nat) (s : ByteArray) (w : World) (hsz : s.size ≤ maxLen) (hl : ¬ 300 < s.size) (hN : NamesIn w) (hn : n < 16) (hs : ∀ k, k < 16 → (nm k).toList ≠ s.toList) :
    Calls Tryd.prog 9 #[.int .i64 n, .string s] w (Law w) := by
  have HN := Lib.hid hN; clear hN
  have HS := Lib.hid hs; clear hs
  unfold maxLen at hsz
  have hkn : ropKnown n = true := known_of hn
  have hself : ((nm n).toList == (nm n).toList) = true := by simp
  have hself2 : ((nm n).toList != (nm n).toList) = false := by simp
  go_enter Tryd.func9, Tryd.ntmps9
  go_wp2_with fail
  refine (awake_any _ HN.out).mono ?_
  rintro e w1 ⟨rfl, h1⟩
  have HN1 := Lib.hid (namesIn_next HN.out h1)
  go_wp2_with fail
  refine (name_yes n _ hn HN1.out).mono ?_
  rintro e w2 ⟨rfl, rfl⟩
  go_wp2_with fail
  refine (refIs_any _ _).mono ?_
  rintro e w2 ⟨rfl, rfl⟩
  go_wp2_with fail
  refine (refIs_any _ _).mono ?_
  rintro e w2 ⟨rfl, rfl⟩
  go_wp2_with fail
  refine (refNames_any _).mono ?_
  rintro e w2 ⟨rfl, rfl⟩
  have hix := names_cell w1 n hn
  have hb2 : Below w.heap.size w (w1.alloc namesBlock) := h1.alloc h1.size _
  have HN2 := Lib.hid (namesIn_next HN.out hb2)
  generalize w1.alloc namesBlock = w2 at hix hb2 HN2 ⊢
  clear h1 HN1
  go_wp2_with fail
  refine (of_no _ HN2.out HS.out).mono ?_
  rintro e w3 ⟨rfl, rfl⟩
  go_wp2_with fail
  refine (refOf_no _ HS.out).mono ?_
  rintro e w4 ⟨rfl, h4⟩
  have HN4 := Lib.hid (namesIn_next HN2.out h4)
  go_wp2_with fail
  refine (of_yes _ HN4.out hn rfl).mono ?_
  rintro e w5 ⟨rfl, rfl⟩
  go_wp2_with (go_at_call 14; refine (refIs_any _ _).mono ?_; rintro e w6 ⟨rfl, rfl⟩)
  go_ret
  exact ⟨rfl, below_next hb2 h4⟩

set_option maxRecDepth 100000 in
set_option maxHeartbeats 1000000 in
theorem names_walk_ny (n : Int) (s : ByteArray) (w : World) (hsz : s.size ≤ maxLen) (hl : ¬ 300 < s.size) (hN : NamesIn w) (hn : ropKnown n = false) (k : Nat) (hk : k < 16) (hs : (nm k).toList = s.toList) :
    Calls Tryd.prog 9 #[.int .i64 n, .string s] w (Law w) := by
  have HN := Lib.hid hN; clear hN
  have HS := Lib.hid hs; clear hs
  unfold maxLen at hsz
  have HE : Hid (∀ k, k < 16 → (nm k).toList ≠ (⟨#[]⟩ : ByteArray).toList) := fun k hk => nm_ne_fin ⟨k, hk⟩
  go_enter Tryd.func9, Tryd.ntmps9
  go_wp2_with fail
  refine (awake_any _ HN.out).mono ?_
  rintro e w1 ⟨rfl, h1⟩
  have HN1 := Lib.hid (namesIn_next HN.out h1)
  go_wp2_with fail
  refine (name_no n _ hn).mono ?_
  rintro e w2 ⟨rfl, rfl⟩
  go_wp2_with fail
  refine (refIs_any _ _).mono ?_
  rintro e w2 ⟨rfl, rfl⟩
  go_wp2_with fail
  refine (refIs_any _ _).mono ?_
  rintro e w2 ⟨rfl, rfl⟩
  obtain ⟨w2, hw2⟩ : ∃ w2, w2 = w1 := ⟨_, rfl⟩
  subst hw2
  have hb2 := h1
  have HN2 := HN1
  clear h1 HN1
  go_wp2_with fail
  refine (of_yes _ HN2.out hk HS.out).mono ?_
  rintro e w3 ⟨rfl, rfl⟩
  go_wp2_with fail
  refine (refOf_yes _ hk HS.out).mono ?_
  rintro e w4 ⟨rfl, h4⟩
  have HN4 := Lib.hid (namesIn_next HN2.out h4)
  go_wp2_with fail
  refine (of_no _ HN4.out HE.out).mono ?_
  rintro e w5 ⟨rfl, rfl⟩
  go_wp2_with (go_at_call 14; refine (refIs_any _ _).mono ?_; rintro e w6 ⟨rfl, rfl⟩)
  go_ret
  exact ⟨rfl, below_next hb2 h4⟩

set_option maxRecDepth 100000 in
set_option maxHeartbeats 1000000 in
theorem names_walk_nn (n : Int) (s : ByteArray) (w : World) (hsz : s.size ≤ maxLen) (hl : ¬ 300 < s.size) (hN : NamesIn w) (hn : ropKnown n = false) (hs : ∀ k, k < 16 → (nm k).toList ≠ s.toList) :
    Calls Tryd.prog 9 #[.int .i64 n, .string s] w (Law w) := by
  have HN := Lib.hid hN; clear hN
  have HS := Lib.hid hs; clear hs
  unfold maxLen at hsz
  have HE : Hid (∀ k, k < 16 → (nm k).toList ≠ (⟨#[]⟩ : ByteArray).toList) := fun k hk => nm_ne_fin ⟨k, hk⟩
  go_enter Tryd.func9, Tryd.ntmps9
  go_wp2_with fail
  refine (awake_any _ HN.out).mono ?_
  rintro e w1 ⟨rfl, h1⟩
  have HN1 := Lib.hid (namesIn_next HN.out h1)
  go_wp2_with fail
  refine (name_no n _ hn).mono ?_
  rintro e w2 ⟨rfl, rfl⟩
  go_wp2_with fail
  refine (refIs_any _ _).mono ?_
  rintro e w2 ⟨rfl, rfl⟩
  go_wp2_with fail
  refine (refIs_any _ _).mono ?_
  rintro e w2 ⟨rfl, rfl⟩
  obtain ⟨w2, hw2⟩ : ∃ w2, w2 = w1 := ⟨_, rfl⟩
  subst hw2
  have hb2 := h1
  have HN2 := HN1
  clear h1 HN1
  go_wp2_with fail
  refine (of_no _ HN2.out HS.out).mono ?_
  rintro e w3 ⟨rfl, rfl⟩
  go_wp2_with fail
  refine (refOf_no _ HS.out).mono ?_
  rintro e w4 ⟨rfl, h4⟩
  have HN4 := Lib.hid (namesIn_next HN2.out h4)
  go_wp2_with fail
  refine (of_no _ HN4.out HE.out).mono ?_
  rintro e w5 ⟨rfl, rfl⟩
  go_wp2_with (go_at_call 14; refine (refIs_any _ _).mono ?_; rintro e w6 ⟨rfl, rfl⟩)
  go_ret
  exact ⟨rfl, below_next hb2 h4⟩

theorem names_walk (n : Int) (s : ByteArray) (w : World) (hw : (Lit.int .i64 n).wf = true) (hsz : s.size ≤ maxLen) (hN : NamesIn w) :
    Calls Tryd.prog 9 #[.int .i64 n, .string s] w (Law w) := by
  by_cases hl : 300 < s.size
  · exact names_walk_long n s w hsz hl hN
  by_cases hf : ∃ k, k < 16 ∧ (nm k).toList = s.toList
  · obtain ⟨k, hk, hs⟩ := hf
    rcases hn : ropKnown n with _ | _
    · exact names_walk_ny n s w hsz hl hN hn k hk hs
    · obtain ⟨m, hm, rfl⟩ := known_cast hn
      exact names_walk_yy m s w hsz hl hN hm k hk hs
  · have hs : ∀ k, k < 16 → (nm k).toList ≠ s.toList := fun k hk h => hf ⟨k, hk, h⟩
    rcases hn : ropKnown n with _ | _
    · exact names_walk_nn n s w hsz hl hN hn hs
    · obtain ⟨m, hm, rfl⟩ := known_cast hn
      exact names_walk_yn m s w hsz hl hN hm hs
end Go.Proofs.YtboepibmnfmgfaaDoor
