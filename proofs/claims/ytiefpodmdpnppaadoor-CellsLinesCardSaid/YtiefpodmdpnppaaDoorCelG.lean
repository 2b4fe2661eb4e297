/-
  WALKS of layer 56: lineEnd, blank.
-/
import Derived.Test.YtiefpodmdpnppaaDoorCelF
namespace Go.Proofs.YtiefpodmdpnppaaDoor
open Go.RowKit

theorem Own.heap {w w' : World} {B : Nat} {e : TypeId} {k n : Nat} {v : Value} {xs : List Value} (h : Own w B e k v n xs) (q : w'.heap = w.heap) : Own w' B e k v n xs := by
  refine ⟨h.1, ?_⟩
  rcases h.2 with h0 | ⟨g, o, c, hv, ho⟩
  · exact Or.inl h0
  · exact Or.inr ⟨g, o, c, hv, ho.keep (by rw [q])⟩
theorem CBat.heap {w w' : World} {B b : Nat} {S : Scr} {vc vk : Value} (h : CBat w B b S vc vk) (e : w'.heap = w.heap) : CBat w' B b S vc vk :=
  ⟨by rw [e]; exact h.blk, h.cells.heap e, h.kept.heap e⟩

def Scr.lineEnd (S : Scr) : Scr := if S.y + 1 < S.rows then { S with x := 0, y := S.y + 1 } else ({ S with x := 0 } : Scr).scroll

theorem Scr.Ok.keep {S : Scr} (ok : S.Ok) (l : List UInt8) : (S.keep l).Ok := by
  unfold Scr.keep
  split
  · exact ok
  · split
    · exact ⟨ok.c1, ok.c2, ok.r1, ok.r2, ok.m, ok.x, ok.y, ok.g, by have := ok.k; simp; omega, ok.s, ok.a, ok.b, ok.n⟩
    · exact ⟨ok.c1, ok.c2, ok.r1, ok.r2, ok.m, ok.x, ok.y, ok.g, by simp; omega, ok.s, ok.a, ok.b, ok.n⟩
theorem Scr.Ok.withGrid {S : Scr} (ok : S.Ok) (g : List UInt8) (h : g.length = S.grid.length) : (S.withGrid g).Ok :=
  ⟨ok.c1, ok.c2, ok.r1, ok.r2, ok.m, ok.x, ok.y, h.trans ok.g, ok.k, ok.s, ok.a, ok.b, ok.n⟩
theorem Scr.Ok.cg {S : Scr} (ok : S.Ok) : S.cols ≤ S.grid.length := by rw [ok.g]; exact Nat.le_mul_of_pos_right _ ok.r1
theorem Scr.Ok.g2 {S : Scr} (ok : S.Ok) : S.grid.length ≤ 8192 := by rw [ok.g]; exact Nat.mul_le_mul ok.c2 ok.r2
theorem Scr.Ok.scroll {S : Scr} (ok : S.Ok) : S.scroll.Ok :=
  (ok.keep _).withGrid _ (by rw [Scr.keep_grid]; have := ok.cg; simp; omega)
theorem Scr.Ok.pos {S : Scr} (ok : S.Ok) (x y : Nat) (hx : x ≤ S.cols) : ({ S with x := x, y := y } : Scr).Ok ↔ y < S.rows :=
  ⟨fun h => h.y, fun h => ⟨ok.c1, ok.c2, ok.r1, ok.r2, ok.m, hx, h, ok.g, ok.k, ok.s, ok.a, ok.b, ok.n⟩⟩
theorem Scr.Ok.lineEnd {S : Scr} (ok : S.Ok) : S.lineEnd.Ok := by
  unfold Scr.lineEnd
  split
  · exact (ok.pos 0 (S.y + 1) (Nat.zero_le _)).2 (by assumption)
  · exact Scr.Ok.scroll ((ok.pos 0 S.y (Nat.zero_le _)).2 ok.y)
theorem Scr.scroll_x (S : Scr) : S.scroll.x = S.x := by unfold Scr.scroll Scr.withGrid Scr.keep; split; rfl; split <;> rfl
theorem Scr.scroll_cols (S : Scr) : S.scroll.cols = S.cols := by unfold Scr.scroll Scr.withGrid Scr.keep; split; rfl; split <;> rfl
theorem Scr.lineEnd_x (S : Scr) : S.lineEnd.x = 0 := by unfold Scr.lineEnd; split; rfl; rw [Scr.scroll_x]
theorem Scr.lineEnd_cols (S : Scr) : S.lineEnd.cols = S.cols := by unfold Scr.lineEnd; split; rfl; rw [Scr.scroll_cols]

set_option maxRecDepth 100000 in
set_option maxHeartbeats 600000 in
theorem lineEnd_walk (B b : Nat) (S : Scr) (w : World) (h : CB w B b S) (hB : B ≤ w.heap.size) (ok : S.Ok) :
    Calls Tryd.prog 41 #[.pointer (some ⟨b, 0, none⟩)] w (CBPost B b w S.lineEnd) := by
  obtain ⟨vc, vk, h⟩ := h
  have hy := ok.y
  have hr := ok.r2
  have hc3 : w.cell? ⟨b, 3, none⟩ = some (.int .i64 S.x) := h.cell 3
  have hf3 := h.frozen 3
  have hc4 : w.cell? ⟨b, 4, none⟩ = some (.int .i64 S.y) := h.cell 4
  have hf4 := h.frozen 4
  have hc1 : w.cell? ⟨b, 1, none⟩ = some (.int .i64 S.rows) := h.cell 1
  have hwr : IntKind.i64.wrap ((S.y : Int) + 1) = (S.y : Int) + 1 := IntWalk.i64_in _ (by omega)
  have h1 := h.set 3 (.int .i64 0) (S' := { S with x := 0 }) rfl rfl rfl
  by_cases hlt : S.y + 1 < S.rows
  · have h2 := h1.set 4 (.int .i64 ((S.y + 1 : Nat) : Int)) (S' := { S with x := 0, y := S.y + 1 }) rfl rfl rfl
    rw [show S.lineEnd = { S with x := 0, y := S.y + 1 } from by unfold Scr.lineEnd; rw [if_pos hlt]]
    have H2 := Lib.hid h2
    clear h h1 h2 ok
    go_enter Tryd.func41, Tryd.ntmps41
    go_wp2_with fail
    go_quiet (fail)
    go_wp2_with fail
    go_end0
    exact ⟨rfl, ⟨_, _, H2.out.heap rfl⟩, (Bx.dn ((Bx.refl _ _ _).setB _ _) _).setB _ _⟩
  · rw [show S.lineEnd = ({ S with x := 0 } : Scr).scroll from by unfold Scr.lineEnd; rw [if_neg hlt]]
    have hok := (ok.pos 0 S.y (Nat.zero_le _)).2 ok.y
    have H1 := Lib.hid h1; have HO := Lib.hid hok
    clear h h1 ok hok
    go_enter Tryd.func41, Tryd.ntmps41
    go_wp2_with fail
    go_quiet (fail)
    go_wp2_with fail
    refine (scroll_walk B b _ _ (by exact ⟨_, _, H1.out.heap rfl⟩) (by simpa using hB) HO.out).mono ?_
    rintro e w3 ⟨rfl, h3, hb3⟩
    have H3 := Lib.hid h3; have HB3 := Lib.hid hb3
    clear h3 hb3
    go_wp2_with fail
    go_end0
    exact ⟨rfl, H3.out, (Bx.dn ((Bx.refl _ _ _).setB _ _) _).trans HB3.out⟩

/-- what J and K do to the cells from one up to another one -/
def Scr.blank (S : Scr) (n f t : Nat) : Scr :=
  if n = 0 then S.clear (S.y * S.cols + min S.x (S.cols - 1)) t else if n = 1 then S.clear f (S.y * S.cols + min S.x (S.cols - 1) + 1) else if n = 2 then S.clear f t else S

set_option maxRecDepth 100000 in
set_option maxHeartbeats 600000 in
theorem blank_walk (B b n f t : Nat) (S : Scr) (w : World) (h : CB w B b S) (hB : B ≤ w.heap.size) (ok : S.Ok) (hf : f ≤ 8192) (ht : t ≤ S.grid.length) :
    Calls Tryd.prog 60 #[.pointer (some ⟨b, 0, none⟩), .int .i64 n, .int .i64 f, .int .i64 t] w (CBPost B b w (S.blank n f t)) := by
  obtain ⟨vc, vk, h⟩ := h
  have hg2 := ok.g2
  obtain ⟨x, hx⟩ : ∃ x : Nat, x = S.x := ⟨_, rfl⟩
  obtain ⟨y, hy⟩ : ∃ y : Nat, y = S.y := ⟨_, rfl⟩
  obtain ⟨k, hk⟩ : ∃ k : Nat, k = S.cols := ⟨_, rfl⟩
  obtain ⟨p, hp⟩ : ∃ p : Nat, p = S.y * S.cols := ⟨_, rfl⟩
  have hpg : p + S.cols ≤ S.grid.length := by rw [hp, ok.g, ← Nat.succ_mul, Nat.mul_comm]; exact Nat.mul_le_mul (Nat.le_refl _) ok.y
  have hc3 : w.cell? ⟨b, 3, none⟩ = some (.int .i64 x) := by rw [hx]; exact h.cell 3
  have hc4 : w.cell? ⟨b, 4, none⟩ = some (.int .i64 y) := by rw [hy]; exact h.cell 4
  have hc0 : w.cell? ⟨b, 0, none⟩ = some (.int .i64 k) := by rw [hk]; exact h.cell 0
  have hw1 : IntKind.i64.wrap ((y : Int) * (k : Int)) = (p : Int) := by
    rw [IntWalk.i64_in _ (by rw [hy, hk, ← Int.natCast_mul, ← hp]; omega), hy, hk, ← Int.natCast_mul, ← hp]
  have hk1 : 1 ≤ k := by rw [hk]; exact ok.c1
  have hk2 : k ≤ 128 := by rw [hk]; exact ok.c2
  have hxk : x ≤ k := by rw [hx, hk]; exact ok.x
  have hw2 : IntKind.i64.wrap ((k : Int) - 1) = ((k - 1 : Nat) : Int) := by rw [IntWalk.i64_in _ (by omega)]; omega
  have hp2 : p ≤ 8192 := by omega
  have H := Lib.hid h; have HO := Lib.hid ok; have HX := Lib.hid hx; have HY := Lib.hid hy; have HK := Lib.hid hk; have HP := Lib.hid hp
  clear h ok hx hy hk hp
  go_enter Tryd.func60, Tryd.ntmps60
  go_wp2_with fail
  go_quiet (fail)
  go_wp2_with fail
  · have hn0 : n = 0 := by have : ((n : Int) == 0) = true := by assumption
                           simp at this; omega
    rw [show (p : Int) + min (x : Int) ((k - 1 : Nat) : Int) = ((p + min x (k - 1) : Nat) : Int) from by omega]
    refine (clear_walk B b ((p + min x (k - 1))) (t) S _ (by exact ⟨_, _, H.out.heap rfl⟩) (by exact hB) hg2 (by omega) (by have := HK.out; omega)).mono ?_
    rintro e w3 ⟨rfl, h3, hb3⟩
    have H3 := Lib.hid h3; have HB3 := Lib.hid hb3
    clear h3 hb3
    go_wp2_with fail
    go_end0
    exact ⟨rfl, by rw [show S.blank n f t = S.clear ((p + min x (k - 1))) (t) from by (try rw [HP.out, HX.out, HK.out]); rw [hn0]; rfl]; exact H3.out, ((Bx.refl _ _ _).dn _).trans HB3.out⟩
  · have hn1 : n = 1 := by have : ((n : Int) == 1) = true := by assumption
                           simp at this; omega
    rw [show (p : Int) + min (x : Int) ((k - 1 : Nat) : Int) + 1 = ((p + min x (k - 1) + 1 : Nat) : Int) from by omega]
    refine (clear_walk B b (f) ((p + min x (k - 1) + 1)) S _ (by exact ⟨_, _, H.out.heap rfl⟩) (by exact hB) hg2 (by omega) (by have := HK.out; omega)).mono ?_
    rintro e w3 ⟨rfl, h3, hb3⟩
    have H3 := Lib.hid h3; have HB3 := Lib.hid hb3
    clear h3 hb3
    go_wp2_with fail
    go_end0
    exact ⟨rfl, by rw [show S.blank n f t = S.clear (f) ((p + min x (k - 1) + 1)) from by (try rw [HP.out, HX.out, HK.out]); rw [hn1]; rfl]; exact H3.out, ((Bx.refl _ _ _).dn _).trans HB3.out⟩
  · have hn2 : n = 2 := by have : ((n : Int) == 2) = true := by assumption
                           simp at this; omega
    refine (clear_walk B b (f) (t) S _ (by exact ⟨_, _, H.out.heap rfl⟩) (by exact hB) hg2 (by omega) (by have := HK.out; omega)).mono ?_
    rintro e w3 ⟨rfl, h3, hb3⟩
    have H3 := Lib.hid h3; have HB3 := Lib.hid hb3
    clear h3 hb3
    go_wp2_with fail
    go_end0
    exact ⟨rfl, by rw [show S.blank n f t = S.clear (f) (t) from by (try rw [HP.out, HX.out, HK.out]); rw [hn2]; rfl]; exact H3.out, ((Bx.refl _ _ _).dn _).trans HB3.out⟩
  · have hn0 : ¬ n = 0 := by have : ((n : Int) == 0) = false := by assumption
                             simp at this; omega
    have hn1 : ¬ n = 1 := by have : ((n : Int) == 1) = false := by assumption
                             simp at this; omega
    have hn2 : ¬ n = 2 := by have : ((n : Int) == 2) = false := by assumption
                             simp at this; omega
    go_end0
    exact ⟨rfl, ⟨_, _, by rw [show S.blank n f t = S from by unfold Scr.blank; rw [if_neg hn0, if_neg hn1, if_neg hn2]]; exact H.out.heap rfl⟩, (Bx.refl _ _ _).dn _⟩
end Go.Proofs.YtiefpodmdpnppaaDoor
