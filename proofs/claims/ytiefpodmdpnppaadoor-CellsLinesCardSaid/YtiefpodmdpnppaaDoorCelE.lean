/-
  WALKS of layer 56: keep.
-/
import Derived.Test.YtiefpodmdpnppaaDoorCelD
namespace Go.Proofs.YtiefpodmdpnppaaDoor
open Go.RowKit

def Scr.keep (S : Scr) (l : List UInt8) : Scr :=
  if S.most = 0 then S else if S.most ≤ S.kept.length then { S with kept := S.kept.tail ++ [l] } else { S with kept := S.kept ++ [l] }

/-- a store of other kept lines -/
theorem CBat.setKept {w : World} {B b : Nat} {S : Scr} {vc vk vk' : Value} (h : CBat w B b S vc vk) (ks : List (List UInt8)) (ho : Own w B 9 1 vk' ks.length (ks.map strV)) :
    CBat (w.setCell ⟨b, 6, none⟩ vk') B b { S with kept := ks } vc vk' := by
  refine ⟨?_, ?_, ?_⟩
  · rw [heap_setCell_same w b 6 _ _ _ h.blk]; rfl
  · exact own_ne h.cells h.blk (by decide) (grown_setCell w b 6 _)
  · exact own_ne ho h.blk (by decide) (grown_setCell w b 6 _)

def Scr.withKept (S : Scr) (ks : List (List UInt8)) : Scr := { S with kept := ks }
theorem build_one (w : World) (e : TypeId) (u : Value) : Rd (w.alloc (.cells #[u] e)) 1 (.slice (some ⟨w.heap.size, 0, none⟩) 1 1) 1 [u] := by
  refine ⟨by simp, _, 1, rfl, Nat.le_refl _, by decide, Or.inr ⟨_, _, rfl⟩, fun _ => ⟨_, _, rfl, by simp, fun j x hx => ?_⟩⟩
  rw [Nat.zero_add, cell_of_row _ _ _ _ _ _ (heap_alloc_new w _)]
  simpa using hx

theorem below_dn {B : Nat} {a w : World} (h : Below B a w) (n : Nat) : Below B a (w.drewN n) := h.trans ⟨rfl, rfl, rfl, Nat.le_refl _, fun _ _ => rfl⟩
theorem CBat.appKept {w w' : World} {B b : Nat} {S : Scr} {vc vk v0 v' : Value} (h : CBat w B b S vc vk) (hrow : AppRow w w' v0 9) (ks : List (List UInt8)) (ho : Own w' B 9 1 v' ks.length (ks.map strV)) :
    w'.cell? ⟨b, 6, none⟩ = some vk ∧ w'.frozen? ⟨b, 6, none⟩ = false ∧ CBat (w'.setCell ⟨b, 6, none⟩ v') B b (S.withKept ks) vc v' := by
  have hb : w'.heap[b]? = some (.cells (S.vals vc vk) 29 (0, 0)) := (hrow.block h.blk (by decide)).trans h.blk
  refine ⟨cell_of_row _ _ _ _ _ _ hb, frozen_of_row _ _ _ _ _ hb, ?_, ?_, ?_⟩
  · rw [heap_setCell_same w' b 6 _ _ _ hb]; rfl
  · exact own_ne (hrow.own h.cells (by decide)) hb (by decide) (grown_setCell w' b 6 _)
  · exact own_ne ho hb (by decide) (grown_setCell w' b 6 _)

theorem below_dset (w : World) (q : Nat) (p : Addr) (u : Value) (X : Obj) : Below (w.setCell p u).heap.size (w.setCell p u) (((w.drewN q).setCell p u).alloc X) := by
  have h : Below (w.setCell p u).heap.size (w.setCell p u) ((w.setCell p u).drewN q) := below_dn (Below.refl _ _) q
  exact h.alloc (Nat.le_refl _) X
theorem strV_one (ks : List (List UInt8)) : ∀ u ∈ ks.map strV, u.oneCell' = true := by
  intro u hu
  obtain ⟨l, _, rfl⟩ := List.mem_map.1 hu
  rfl

set_option maxRecDepth 100000 in
set_option maxHeartbeats 600000 in
theorem keep_walk (B b : Nat) (S : Scr) (s : ByteArray) (l : List UInt8) (w : World) (HS : Hid (Value.string s = strV l)) (h : CB w B b S) (hB : B ≤ w.heap.size) (hm : S.most ≤ 1000) (hk : S.kept.length ≤ S.most) :
    Calls Tryd.prog 52 #[.pointer (some ⟨b, 0, none⟩), .string s] w (CBPost B b w (S.keep l)) := by
  obtain ⟨vc, vk, h⟩ := h
  obtain ⟨i0, hi, hz0, hz1, hz2⟩ := info_parts infoS
  have HI := Lib.hid hi; have HZ0 := Lib.hid hz0; have HZ1 := Lib.hid hz1; have HZ2 := Lib.hid hz2
  clear hi hz0 hz1 hz2
  by_cases h0 : S.most = 0
  · rw [show S.keep l = S from by unfold Scr.keep; rw [if_pos h0]]
    have hc2 : w.cell? ⟨b, 2, none⟩ = some (.int .i64 0) := by rw [h.cell 2, ← Int.natCast_zero, ← h0]; rfl
    have H := Lib.hid h; clear h h0
    go_enter Tryd.func52, Tryd.ntmps52
    go_wp2_with fail
    go_end0
    exact ⟨rfl, ⟨_, _, H.out⟩, Bx.refl _ _ _⟩
  · obtain ⟨_, A, c, rfl, hnc, _, _, _⟩ := h.kept.rd
    have h0' : ¬ (S.most : Int) = 0 := by omega
    obtain ⟨m, hmm⟩ : ∃ m : Nat, m = S.most := ⟨_, rfl⟩
    obtain ⟨n, hn⟩ : ∃ n : Nat, n = S.kept.length := ⟨_, rfl⟩
    have hc2 : w.cell? ⟨b, 2, none⟩ = some (.int .i64 m) := by rw [h.cell 2, hmm]; rfl
    have hc6 : w.cell? ⟨b, 6, none⟩ = some (.slice A n c) := by rw [h.cell 6, hn]; rfl
    by_cases hlt : n < m
    · rw [show S.keep l = S.withKept (S.kept ++ [l]) from by unfold Scr.keep; rw [if_neg h0, if_neg (by omega)]; rfl]
      rw [← hmm] at h0' hm
      have HE := Lib.hid hn
      have HK := Lib.hid hk
      have H := Lib.hid h; clear h h0 hn hmm hk
      have hge : decide ((n : Int) ≥ (m : Int)) = false := by simp; omega
      go_enter Tryd.func52, Tryd.ntmps52
      go_wp2_with fail
      go_quiet (fail)
      go_wp2_with (at_builtin; refine wpList_app _ rfl (.tmp 31) (.tmp 33) 26 26 rfl B 9 i0 _ 1 16 Tryd.underlying26 HI.out HZ0.out HZ1.out HZ2.out rfl _ n (S.kept.map strV) rfl ?c1 _ rfl 1 [.string s] ?c2 ?c3 ?c4 ?c5 ?_)
      case c1 => rw [HE.out]; exact H.out.kept.next ((below_dn (Below.refl _ w) nq).alloc (Nat.le_refl _) _)
      case c2 => exact (build_one (w.drewN nq) 9 _).src _ Tryd.underlying26 (by simp [Value.oneCell'])
      case c3 => unfold maxLen; omega
      case c4 => omega
      case c5 => simp; omega
      intro v' w' hown hrow hb _
      have hbe : Bx B b w w' := (((Bx.refl B b w).dn nq).alloc hB (.cells #[.string s] 9)).trans (Bx.of hb)
      obtain ⟨q6, qf, hC⟩ := (H.out.next ((below_dn (Below.refl _ w) nq).alloc (Nat.le_refl _) (.cells #[.string s] 9))).appKept hrow (S.kept ++ [l]) (v' := v') (by rw [List.length_append, ← HE.out, List.map_append, List.map_cons, List.map_nil, ← HS.out]; exact hown)
      have HC := Lib.hid hC; have HB := Lib.hid hbe
      obtain ⟨_, A', c', rfl, _, _, _, _⟩ := hown.rd
      clear hown hrow hb hbe hC
      go_wp2_with fail
      go_end0
      exact ⟨rfl, ⟨_, _, HC.out⟩, HB.out.setB _ _⟩
    · rw [show S.keep l = S.withKept (S.kept.tail ++ [l]) from by unfold Scr.keep; rw [if_neg h0, if_pos (by omega)]; rfl]
      rw [← hmm] at h0' hm hk
      rw [← hn] at hk
      obtain ⟨v1, hsl, hown1⟩ := h.kept.from w Tryd.underlying26 Tryd.sizeOf9 1 (by omega)
      rw [← hn] at hsl
      have hset := h.setKept (S.kept.tail) (vk' := v1) (by rw [List.length_tail, List.map_tail, ← List.drop_one]; exact hown1)
      obtain ⟨_, A1, c1, rfl, _, _, _, _⟩ := hown1.rd
      have HE := Lib.hid hn
      have H := Lib.hid h
      have HT := Lib.hid hset
      have hf6 := h.frozen 6
      have hltb := h.lt
      obtain ⟨n1, hn1⟩ : ∃ n1, n1 = S.kept.length - 1 := ⟨_, rfl⟩
      rw [← hn1] at hsl HT
      have hn1b : n1 ≤ 1000 := by omega
      have HN := Lib.hid hn1
      have hc6' : (w.setCell ⟨b, 6, none⟩ (.slice A1 n1 c1)).cell? ⟨b, 6, none⟩ = some (.slice A1 n1 c1) := HT.out.cell 6
      have hf6' : (w.setCell ⟨b, 6, none⟩ (.slice A1 n1 c1)).frozen? ⟨b, 6, none⟩ = false := HT.out.frozen 6
      clear h h0 hn hmm hn1 hset hown1
      have hge : decide ((n : Int) ≥ (m : Int)) = true := by simp; omega
      simp only [Int.ofNat_one] at hsl
      go_enter Tryd.func52, Tryd.ntmps52
      go_wp2_with fail
      go_quiet (fail)
      go_wp2_with (at_builtin; refine wpList_app _ rfl (.tmp 31) (.tmp 33) 26 26 rfl B 9 i0 _ 1 16 Tryd.underlying26 HI.out HZ0.out HZ1.out HZ2.out rfl _ n1 ((S.kept.tail).map strV) rfl ?d1 _ rfl 1 [.string s] ?d2 ?d3 ?d4 ?d5 ?_)
      case d1 =>
        show Own (((w.setCell ⟨b, 6, none⟩ (.slice A1 n1 c1)).drewN nq).alloc _) B _ 1 (.slice A1 n1 c1) n1 _
        have := HT.out.kept
        rw [show ({ S with kept := S.kept.tail } : Scr).kept.length = n1 from by rw [HN.out]; exact List.length_tail] at this
        exact this.next (below_dset w nq _ _ _)
      case d2 =>
        have := (build_one ((w.drewN nq).setCell ⟨b, 6, none⟩ (.slice A1 n1 c1)) 9 (.string s)).src _ Tryd.underlying26 (by simp [Value.oneCell'])
        rw [show ((w.drewN nq).setCell ⟨b, 6, none⟩ (.slice A1 n1 c1)).heap.size = w.heap.size from by simp] at this
        exact this
      case d3 => unfold maxLen; omega
      case d4 => omega
      case d5 => simp; omega
      intro v' w' hown hrow hb _
      have hC0 : CBat (((w.drewN nq).setCell ⟨b, 6, none⟩ (.slice A1 n1 c1)).alloc (.cells #[.string s] 9)) B b { S with kept := S.kept.tail } vc (.slice A1 n1 c1) := HT.out.next (below_dset w nq _ _ _)
      have hbe : Bx B b w w' := ((((Bx.refl B b w).dn nq).setB 6 (.slice A1 n1 c1)).alloc (by simp; omega) (.cells #[.string s] 9)).trans (Bx.of hb)
      obtain ⟨q6, qf, hC⟩ := hC0.appKept hrow (S.kept.tail ++ [l]) (v' := v') (by rw [List.length_append, List.length_tail, ← HN.out, List.map_append, List.map_cons, List.map_nil, ← HS.out, List.map_tail]; exact hown)
      have HC := Lib.hid hC; have HB := Lib.hid hbe
      obtain ⟨_, A', c', rfl, _, _, _, _⟩ := hown.rd
      clear hown hrow hb hbe hC hC0 HT hc6' hf6'
      go_wp2_with fail
      go_end0
      exact ⟨rfl, ⟨_, _, HC.out⟩, HB.out.setB _ _⟩
end Go.Proofs.YtiefpodmdpnppaaDoor
