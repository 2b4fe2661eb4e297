/-
  WALKS of layer 56: scroll, lineEnd.
-/
import Derived.Test.YtiefpodmdpnppaaDoorCelE
import Derived.Lib.ConvBytes
import Derived.Lib.BufferRead
namespace Go.Proofs.YtiefpodmdpnppaaDoor
open Go.RowKit

theorem conv_own {w : World} {B : Nat} {v : Value} {l : List UInt8} (h : Own w B 5 1 v l.length (Lib.byteCells l)) (r : ByteArray) (hr : Value.string r = strV l) :
    (convert 24 9 v).run Tryd.prog w = .ok (.string r) w := by
  rw [hr]
  rcases h.2 with ⟨A, rfl, h0, hA⟩ | ⟨g, o, c, rfl, ho⟩
  · obtain rfl : l = [] := List.length_eq_zero_iff.1 h0
    rcases hA with rfl | ⟨b, o, rfl⟩
    · exact Lib.run_convert_nil_bytes w 24 9 5 0 Tryd.underlying24 Tryd.underlying5 Tryd.underlying9
    · exact run_convert_bytes_back w 24 9 5 ⟨b, o, none⟩ 0 [] Tryd.underlying24 Tryd.underlying5 Tryd.underlying9 (fun j hj => by simp at hj)
  · refine run_convert_bytes_back w 24 9 5 ⟨g, o, none⟩ c l Tryd.underlying24 Tryd.underlying5 Tryd.underlying9 ?_
    intro j hj
    rw [add_none]
    refine ho.holds j _ ?_
    unfold Lib.byteCells
    rw [List.getElem?_map, List.getElem?_eq_getElem hj]
    rfl

theorem OwnAt.setCells {w : World} {B : Nat} {e : TypeId} {g o n c : Nat} {xs : List Value} (h : OwnAt w B e 1 g o n c xs) (ys : List Value) (hm : ys.length ≤ n) :
    OwnAt (w.setCells g o ys) B e 1 g o n c (ys ++ xs.drop ys.length) := by
  have hle := h.le
  refine ⟨h.base, heap_setCells_kind g e _ _ _ h.kind, h.le, h.max, fun j hj => ?_, fun j u hu => ?_⟩
  · rw [World.frozen?_setCells]
    refine ⟨?_, (h.room j hj).2⟩
    by_cases hin : j < ys.length
    · rw [World.cell?_setCells_in g ys o w (fun q hq => (h.room q (by omega)).1) j hin]; rfl
    · rw [World.cell?_setCells_out g ys _ w _ (fun _ _ => by show o + j < _ ∨ _ ≤ o + j; omega)]
      exact (h.room j hj).1
  · by_cases hj : j < ys.length
    · rw [List.getElem?_append_left hj] at hu
      obtain ⟨hj2, hu2⟩ := List.getElem?_eq_some_iff.1 hu
      rw [World.cell?_setCells_in g ys o w (fun q hq => (h.room q (by omega)).1) j hj, hu2]
    · rw [List.getElem?_append_right (by omega), List.getElem?_drop] at hu
      rw [World.cell?_setCells_out g ys _ w _ (fun _ _ => by show o + j < _ ∨ _ ≤ o + j; omega)]
      exact h.holds j u (by rw [← hu]; congr 1; omega)

/-- COPY onto cells of the call's own -/
theorem run_copy_own {P : Program} (w : World) (B : Nat) (dT sT ty e : TypeId) (g o n c : Nat) (xs : List Value) (vs : Value) (m : Nat) (ys : List Value) (hu : P.underlying dT = some (.slice e)) (hz : (P.info? e).map (·.size) = some 1)
    (hd : OwnAt w B e 1 g o n c xs) (hs : Rd w 1 vs m ys) (hm : m ≤ n) (h1 : ∀ v ∈ ys, v.oneCell' = true) :
    (Builtin.copy_ #[dT, sT] ty #[.slice (some ⟨g, o, none⟩) n c, vs]).run P w = .ok (goInt m) (w.setCells g o ys) := by
  obtain ⟨hyl, A, c', rfl, _, _, _, hc⟩ := hs
  rw [Nat.mul_one] at hyl
  rcases Nat.eq_zero_or_pos m with h0 | h0
  · subst h0
    obtain rfl : ys = [] := List.eq_nil_of_length_eq_zero hyl
    exact run_copy_none w dT sT ty e _ _ n c 0 c' hu hz (by simp)
  · obtain ⟨b', o', rfl, _, hcell⟩ := hc h0
    have hle := hd.le
    have := run_copy_cells (P := P) w dT sT ty e g o n c ⟨b', o', none⟩ m c' ys hu hz (by rw [hyl]; exact (Nat.min_eq_left hm).symm) (fun j v hv => by rw [add_none]; exact hcell j v hv)
      (fun j hj => (hd.room j (by omega)).1) (fun j hj => (hd.room j (by omega)).2) h1
    rw [hyl] at this
    exact this

theorem wpList_copyrun {P : Program} {w : World} {ops : Array Oper} {rest : List Oper} {op : Oper} {a : Act} {Q : Exit → Act → World → Prop} (hgd : op.guard = none) (d s : Operand) (dT sT : TypeId)
    (ho : op.op = .call { callee := .builtin .copy, args := #[d, s], argTypes := #[dT, sT] }) (vd vs v : Value) (w' : World) (hd : a.eval d = vd) (hs : a.eval s = vs)
    (hr : (Builtin.copy_ #[dT, sT] op.type #[vd, vs]).run P w = .ok v w') (h : wpList P ops Q rest (a.put op.dst v) w') : wpList P ops Q (op :: rest) a w := by
  refine wpList_plain hgd fun K hK => ?_
  unfold Oper.wp execOp
  simp only [ho, resolve, invoke, builtin, Sem.run_bind, Sem.run_pure, Result.andThen_ok, List.map_toArray, List.map_cons, List.map_nil, hd, hs, hr]
  exact hK _ _ h

def Scr.withGrid (S : Scr) (g : List UInt8) : Scr := { S with grid := g }
theorem Scr.keep_grid (S : Scr) (l : List UInt8) : (S.keep l).grid = S.grid := by unfold Scr.keep; split; rfl; split <;> rfl
theorem Scr.keep_cols (S : Scr) (l : List UInt8) : (S.keep l).cols = S.cols := by unfold Scr.keep; split; rfl; split <;> rfl
theorem byte_one (l : List UInt8) : ∀ u ∈ Lib.byteCells l, u.oneCell' = true := by
  intro u hu
  unfold Lib.byteCells at hu
  obtain ⟨x, _, rfl⟩ := List.mem_map.1 hu
  rfl
/-- other cells -/
theorem CBat.setGrid {w : World} {B b : Nat} {S : Scr} {g o n c : Nat} {vk : Value} (h : CBat w B b S (.slice (some ⟨g, o, none⟩) n c) vk) (ho : OwnAt w B 5 1 g o n c (Lib.byteCells S.grid)) (hn : S.grid.length = n) (l : List UInt8) (hl : l.length ≤ n) :
    CBat (w.setCells g o (Lib.byteCells l)) B b (S.withGrid (l ++ S.grid.drop l.length)) (.slice (some ⟨g, o, none⟩) n c) vk := by
  have hgk := ho.kind
  obtain ⟨cur, fz, hcur⟩ := hgk
  have hbg : b ≠ g := by
    rintro rfl
    rw [h.blk] at hcur
    injection hcur with hcur
    injection hcur with _ ht
    exact absurd ht (by decide)
  have hlen : (l ++ S.grid.drop l.length).length = n := by rw [List.length_append, List.length_drop]; omega
  refine ⟨?_, ?_, ?_⟩
  · rw [(grown_setCells w g o _).block b h.lt (fun he => hbg (by injection he))]; exact h.blk
  · have hs := ho.setCells (Lib.byteCells l) (by rw [Lib.byteCells_length]; exact hl)
    refine ⟨by rw [Lib.byteCells_length, Nat.mul_one], Or.inr ⟨g, o, c, ?_, ?_⟩⟩
    · show _ = Value.slice _ (l ++ S.grid.drop l.length).length c
      rw [hlen]
    · show OwnAt _ _ _ _ _ _ (l ++ S.grid.drop l.length).length _ (Lib.byteCells (l ++ S.grid.drop l.length))
      rw [hlen, show Lib.byteCells (l ++ S.grid.drop l.length) = Lib.byteCells l ++ (Lib.byteCells S.grid).drop (Lib.byteCells l).length from by rw [Lib.byteCells_length]; unfold Lib.byteCells; rw [List.map_append, List.map_drop]]
      exact hs
  · exact own_ne h.kept hcur (by decide) (grown_setCells w g o _)
theorem scroll_grid (g : List UInt8) (k : Nat) (h : k ≤ g.length) : clearL (g.drop k ++ g.drop (g.length - k)) (g.length - k) g.length = g.drop k ++ List.replicate k 32 := by
  have hl : (g.drop k).length = g.length - k := List.length_drop
  have hl2 : (g.drop (g.length - k)).length ≤ k := by rw [List.length_drop]; omega
  unfold clearL
  have hd : (g.drop k ++ g.drop (g.length - k)).drop g.length = [] := List.drop_eq_nil_of_le (by rw [List.length_append]; omega)
  have ht : (g.drop k ++ g.drop (g.length - k)).take (g.length - k) = g.drop k := by rw [← hl]; exact List.take_left
  rw [Nat.max_eq_right (by omega), hd, ht, List.append_nil]
  congr 2; omega
theorem below_drew {B : Nat} {a w : World} (h : Below B a w) : Below B a w.drew := h.trans ⟨rfl, rfl, rfl, Nat.le_refl _, fun _ _ => rfl⟩
theorem below_of_drew {B : Nat} {a w : World} (h : Below B a.drew w) : Below B a w := Below.trans (b := a.drew) ⟨rfl, rfl, rfl, Nat.le_refl _, fun _ _ => rfl⟩ h
theorem below_self_drew (w : World) (B : Nat) : Below B w w.drew := below_drew (Below.refl _ _)
theorem below_cells {B : Nat} {a w : World} (h : Below B a w) (g o : Nat) (vs : List Value) (hg : B ≤ g) (hB : B ≤ w.heap.size) : Below B a (w.setCells g o vs) :=
  h.grown (grown_setCells w g o vs) hB (fun q hq => by injection hq with hq; omega)
/-- the first row leaves -/
def Scr.scroll (S : Scr) : Scr :=
  (S.keep (S.grid.take S.cols)).withGrid (S.grid.drop S.cols ++ List.replicate S.cols 32)

set_option maxRecDepth 100000 in
set_option maxHeartbeats 600000 in
theorem scroll_walk (B b : Nat) (S : Scr) (w : World) (h : CB w B b S) (hB : B ≤ w.heap.size) (ok : S.Ok) :
    Calls Tryd.prog 36 #[.pointer (some ⟨b, 0, none⟩)] w (CBPost B b w S.scroll) := by
  obtain ⟨vc, vk, h⟩ := h
  have hgl := ok.g
  have hcg : S.cols ≤ S.grid.length := by rw [hgl]; exact Nat.le_mul_of_pos_right _ ok.r1
  have hg2 : S.grid.length ≤ 8192 := by rw [hgl]; exact Nat.mul_le_mul ok.c2 ok.r2
  obtain ⟨v1, hs1, ho1⟩ := h.cells.upto w Tryd.underlying24 Tryd.sizeOf5 S.cols hcg
  have hl1 : (S.grid.take S.cols).length = S.cols := by rw [List.length_take]; omega
  have hcv := conv_own (w := w.drew) (l := S.grid.take S.cols) (by rw [hl1, show Lib.byteCells (S.grid.take S.cols) = (Lib.byteCells S.grid).take S.cols from List.map_take]; exact ho1.next ⟨rfl, rfl, rfl, Nat.le_refl _, fun _ _ => rfl⟩) ⟨(S.grid.take S.cols).toArray⟩ rfl
  obtain ⟨n, hn⟩ : ∃ n : Nat, n = S.grid.length := ⟨_, rfl⟩
  obtain ⟨k, hk⟩ : ∃ k : Nat, k = S.cols := ⟨_, rfl⟩
  have hc0 : w.cell? ⟨b, 0, none⟩ = some (.int .i64 k) := by rw [hk]; exact h.cell 0
  have hc5 : w.cell? ⟨b, 5, none⟩ = some vc := h.cell 5
  obtain ⟨r, hr⟩ : ∃ r : ByteArray, r = ⟨(S.grid.take S.cols).toArray⟩ := ⟨_, rfl⟩
  rw [← hr] at hcv
  have HR : Hid (Value.string r = strV (S.grid.take S.cols)) := by rw [hr]; exact Lib.hid rfl
  obtain ⟨_, A0, c0, rfl, _, _, _, _⟩ := h.cells.rd
  obtain ⟨_, A1, c1, rfl, _, _, _, _⟩ := ho1.rd
  rw [← hn] at hc5 hcg hg2 hs1
  rw [← hk] at hcg hs1 hcv
  have H := Lib.hid h
  have HO := Lib.hid ok
  have HN := Lib.hid hn
  have HK := Lib.hid hk
  clear h ok hr ho1 hl1 hgl hn hk
  go_enter Tryd.func36, Tryd.ntmps36
  go_wp2_with fail
  go_still_tail 11, (by kernel_rfl)
  change wpList _ _ _ _ _ w.drew
  go_wp2_with fail
  refine (keep_walk B b S r (S.grid.take S.cols) w.drew HR ⟨_, _, H.out.next ⟨rfl, rfl, rfl, Nat.le_refl _, fun _ _ => rfl⟩⟩ hB HO.out.m HO.out.k).mono ?_
  rintro e w1 ⟨rfl, ⟨vc1, vk1, h1⟩, hb1⟩
  have hlen1 : (S.keep (S.grid.take S.cols)).grid.length = n := by rw [Scr.keep_grid, HN.out]
  have hk0 : 0 < n := by have := HO.out.c1; rw [← HK.out] at this; omega
  obtain ⟨g, o, c, rfl, ho⟩ := h1.form (by omega)
  obtain ⟨v2, hs2, ho2⟩ := h1.cells.from w1 Tryd.underlying24 Tryd.sizeOf5 k (by omega)
  obtain ⟨_, A2, c2, rfl, _, _, _, _⟩ := ho2.rd
  rw [hlen1] at h1 ho hs2 ho2
  have hc0 : w1.cell? ⟨b, 0, none⟩ = some (.int .i64 k) := by
    have hcc := Scr.keep_cols S (S.grid.take S.cols)
    rw [h1.cell 0, HK.out]
    show some (Value.int .i64 ((S.keep (S.grid.take S.cols)).cols : Int)) = _
    rw [hcc]
  have hc5 : w1.cell? ⟨b, 5, none⟩ = some (.slice (some ⟨g, o, none⟩) n c) := h1.cell 5
  have hcp := run_copy_own w1.drew B 24 24 3 5 g o n c _ (.slice A2 (n - k) c2) (n - k) _ Tryd.underlying24 info8s (ho.keep rfl) (ho2.rd.next ⟨rfl, rfl, rfl, Nat.le_refl _, fun _ _ => rfl⟩) (by omega) (fun v hv => byte_one _ v (List.mem_of_mem_drop hv))
  have H1 := Lib.hid h1; have HO1 := Lib.hid ho; have HB := Lib.hid hb1
  clear h1 ho ho2 hb1 hlen1 hs1 hcv
  go_wp2_with fail
  go_still_tail 13, (by kernel_rfl)
  change wpList _ _ _ _ _ w1.drew
  refine wpList_copyrun rfl (.tmp 17) (.tmp 26) 24 24 rfl _ _ _ _ rfl rfl hcp ?_
  obtain ⟨w2, hw2⟩ : ∃ w2, w2 = w1.drew.setCells g o (List.drop k (Lib.byteCells (S.keep (List.take S.cols S.grid)).grid)) := ⟨_, rfl⟩
  rw [← hw2]
  have HW := Lib.hid hw2; clear hw2 hcp
  have h2 : CBat w2 B b ((S.keep (S.grid.take S.cols)).withGrid (S.grid.drop k ++ S.grid.drop (n - k))) (.slice (some ⟨g, o, none⟩) n c) vk1 := by
    have := (H1.out.next (w' := w1.drew) ⟨rfl, rfl, rfl, Nat.le_refl _, fun _ _ => rfl⟩).setGrid (HO1.out.keep rfl) (by rw [Scr.keep_grid, HN.out]) (S.grid.drop k) (by rw [List.length_drop, ← HN.out]; omega)
    rw [HW.out, show List.drop k (Lib.byteCells (S.keep (List.take S.cols S.grid)).grid) = Lib.byteCells (S.grid.drop k) from by rw [Scr.keep_grid]; exact List.map_drop.symm]
    rw [Scr.keep_grid, List.length_drop, ← HN.out] at this
    exact this
  have hlen2 : (S.grid.drop k ++ S.grid.drop (n - k)).length = n := by rw [List.length_append, List.length_drop, List.length_drop, ← HN.out]; omega
  have hb2 : Bx B b w w2 := by
    rw [HW.out]
    exact HB.out.of_drew.drew.cells g o _ HO1.out.base (Nat.le_trans hB HB.out.size)
  have hc0 : w2.cell? ⟨b, 0, none⟩ = some (.int .i64 k) := by
    have hcc := Scr.keep_cols S (S.grid.take S.cols)
    rw [h2.cell 0, HK.out]
    show some (Value.int .i64 ((S.keep (S.grid.take S.cols)).cols : Int)) = _
    rw [hcc]
  have hc5 : w2.cell? ⟨b, 5, none⟩ = some (.slice (some ⟨g, o, none⟩) n c) := h2.cell 5
  have H2 := Lib.hid h2; have HB2 := Lib.hid hb2; have HL2 := Lib.hid hlen2
  clear h2 hb2 hlen2 HW H1 HO1 HB
  have hwr : IntKind.i64.wrap ((n : Int) - (k : Int)) = (n : Int) - (k : Int) := IntWalk.i64_in _ (by omega)
  go_simp
  go_wp2_with fail
  go_still_tail 16, (by kernel_rfl)
  change wpList _ _ _ _ _ w2.drew
  go_wp2_with fail
  rw [show ((n : Int) - (k : Int)) = ((n - k : Nat) : Int) from by omega]
  refine (clear_walk B b (n - k) n _ w2.drew ⟨_, _, H2.out.next (below_self_drew _ _)⟩ (Nat.le_trans hB HB2.out.size) ?e1 (by omega) ?e2).mono ?_
  case e1 => show (S.grid.drop k ++ S.grid.drop (n - k)).length ≤ _; rw [HL2.out]; omega
  case e2 => show _ ≤ (S.grid.drop k ++ S.grid.drop (n - k)).length; rw [HL2.out]; exact Nat.le_refl _
  rintro e w3 ⟨rfl, h3, hb3⟩
  have H3 := Lib.hid h3; have HB3 := Lib.hid hb3
  clear h3 hb3 hwr
  go_wp2_with fail
  go_end0
  refine ⟨rfl, ?_, HB2.out.trans HB3.out.of_drew⟩
  have := H3.out
  unfold Scr.clear Scr.withGrid at this
  rw [HN.out, scroll_grid _ _ (by rw [← HN.out]; exact hcg), HK.out] at this
  exact this
end Go.Proofs.YtiefpodmdpnppaaDoor
