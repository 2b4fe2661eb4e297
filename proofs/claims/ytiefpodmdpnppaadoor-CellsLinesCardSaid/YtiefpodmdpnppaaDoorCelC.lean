/-
  A SCREEN, plainly; how it lies in memory; WALKS: blanks, New, clear.
-/
import Derived.Test.YtiefpodmdpnppaaDoorCelB
namespace Go.Proofs.YtiefpodmdpnppaaDoor
open Go.RowKit

theorem blanks_any (n : Nat) (w : World) (h1 : 1 ≤ n) (hn : n ≤ 8192) :
    Calls Tryd.prog 37 #[.int .i64 n] w (OwnPost w 5 n (List.replicate n blankV)) := by
  go_enter Tryd.func37, Tryd.ntmps37
  go_wp2_with fail
  refine (repeat_blank w.heap.size n _ (by simp) (by simp) h1 hn).mono ?_
  rintro e w1 ⟨v, rfl, hown, hb⟩
  have hb1 : Below w.heap.size w w1 := below_next ((Below.refl _ _).alloc (Nat.le_refl _) _) hb
  have hown1 : Own w1 w.heap.size 5 1 v n (List.replicate n blankV) := Own.base hown (by simp)
  go_wp2_with fail
  go_ret
  exact ⟨v, rfl, hown1, hb1⟩

/-- A SCREEN -/
structure Scr where
  cols : Nat
  rows : Nat
  most : Nat
  x : Nat
  y : Nat
  grid : List UInt8
  kept : List (List UInt8)
  st : Nat
  n0 : Nat
  n1 : Nat
  num : Nat

def strV (l : List UInt8) : Value := .string ⟨l.toArray⟩
/-- its fields, as values; vc, vk: its two slices -/
def Scr.vals (S : Scr) (vc vk : Value) : Array Value :=
  #[.int .i64 S.cols, .int .i64 S.rows, .int .i64 S.most, .int .i64 S.x, .int .i64 S.y, vc, vk, .int .i64 S.st, .int .i64 S.n0, .int .i64 S.n1, .int .i64 S.num]
structure Scr.Ok (S : Scr) : Prop where
  c1 : 1 ≤ S.cols
  c2 : S.cols ≤ 128
  r1 : 1 ≤ S.rows
  r2 : S.rows ≤ 64
  m : S.most ≤ 1000
  x : S.x ≤ S.cols
  y : S.y < S.rows
  g : S.grid.length = S.cols * S.rows
  k : S.kept.length ≤ S.most
  s : S.st ≤ 2
  a : S.n0 ≤ 999
  b : S.n1 ≤ 999
  n : S.num ≤ 2

/-- A SCREEN AS A VALUE: its slices read so -/
def CV (w : World) (v : Value) (S : Scr) : Prop :=
  ∃ vc vk, v = .agg (S.vals vc vk) ∧ Rd w 1 vc S.grid.length (Lib.byteCells S.grid) ∧ Rd w 1 vk S.kept.length (S.kept.map strV) ∧ (∀ c, vc = .slice none S.grid.length c → c = 0) ∧ (∀ c, vk = .slice none S.kept.length c → c = 0)
theorem CV.next {w w' : World} {v : Value} {S : Scr} (h : CV w v S) (hb : Below w.heap.size w w') : CV w' v S := by
  obtain ⟨vc, vk, hv, h1, h2, h3, h4⟩ := h
  exact ⟨vc, vk, hv, h1.next hb, h2.next hb, h3, h4⟩

/-- what reads so, in a row of a kind -/
def RdT (w : World) (e : TypeId) (v : Value) (n : Nat) (xs : List Value) : Prop :=
  Rd w 1 v n xs ∧ (0 < n → ∀ g, v.ownBlock = some g → ∃ cur fz, w.heap[g]? = some (.cells cur e fz))
theorem block_lt {w : World} {g : Nat} {o : Obj} (h : w.heap[g]? = some o) : g < w.heap.size := by
  rcases Nat.lt_or_ge g w.heap.size with hlt | hge
  · exact hlt
  · rw [Array.getElem?_eq_none hge] at h; cases h
theorem RdT.next {w w' : World} {e : TypeId} {n : Nat} {v : Value} {xs : List Value} (h : RdT w e v n xs) (hb : Below w.heap.size w w') : RdT w' e v n xs := by
  refine ⟨h.1.next hb, fun hn g hg => ?_⟩
  obtain ⟨cur, fz, hk⟩ := h.2 hn g hg
  exact ⟨cur, fz, (hb.block g (block_lt hk)).trans hk⟩
theorem Own.rdt {w : World} {B : Nat} {e : TypeId} {v : Value} {n : Nat} {xs : List Value} (h : Own w B e 1 v n xs) : RdT w e v n xs := by
  refine ⟨h.rd, fun hn g hg => ?_⟩
  obtain ⟨g', cur, fz, hg', _, hk⟩ := h.kind hn
  rw [hg] at hg'
  injection hg' with hg'
  subst hg'
  exact ⟨cur, fz, hk⟩
/-- a write into a row of another kind -/
theorem RdT.ne {w w' : World} {e t : TypeId} {n r : Nat} {v : Value} {xs : List Value} {cs : Array Value} {fz : Nat × Nat} (h : RdT w e v n xs) (hr : w.heap[r]? = some (.cells cs t fz)) (hne : e ≠ t) (hg : w.grownBy w' (some r)) : RdT w' e v n xs := by
  rcases Nat.eq_zero_or_pos n with h0 | hn
  · obtain ⟨h1, A, c, hv, h2, h3, h4, h5⟩ := h.1
    exact ⟨⟨h1, A, c, hv, h2, h3, h4, fun hn => absurd hn (by omega)⟩, fun hn => absurd hn (by omega)⟩
  · obtain ⟨h1, A, c, hv, h2, h3, h4, h5⟩ := h.1
    obtain ⟨b, o, hA, hlt, hc⟩ := h5 hn
    obtain ⟨cur, fz', hk⟩ := h.2 hn b (by rw [hv, hA]; rfl)
    have hbr : b ≠ r := by
      rintro rfl
      rw [hk] at hr
      injection hr with hr
      injection hr with _ ht
      exact hne ht
    have hblk : w'.heap[b]? = w.heap[b]? := hg.block b hlt (fun he => hbr (by injection he))
    refine ⟨⟨h1, A, c, hv, h2, h3, h4, fun _ => ⟨b, o, hA, Nat.lt_of_lt_of_le hlt hg.size, fun j u hu => (World.cell?_of_block (a := ⟨b, o + j, none⟩) hblk).trans (hc j u hu)⟩⟩, fun _ g hg' => ?_⟩
    rw [hv, hA] at hg'
    injection hg' with hg'
    subst hg'
    exact ⟨cur, fz', hblk.trans hk⟩
theorem RdT.nil (w : World) (e : TypeId) : RdT w e (.slice none 0 0) 0 [] := ⟨Rd.nil _ _, fun h => absurd h (by omega)⟩
/-- A SCREEN AS A VALUE, the kinds of its rows known -/
def CK (w : World) (v : Value) (S : Scr) : Prop :=
  ∃ vc vk, v = .agg (S.vals vc vk) ∧ RdT w 5 vc S.grid.length (Lib.byteCells S.grid) ∧ RdT w 9 vk S.kept.length (S.kept.map strV) ∧ (∀ c, vc = .slice none S.grid.length c → c = 0) ∧ (∀ c, vk = .slice none S.kept.length c → c = 0)
theorem CK.cv {w : World} {v : Value} {S : Scr} (h : CK w v S) : CV w v S := by
  obtain ⟨vc, vk, hv, h1, h2, h3, h4⟩ := h
  exact ⟨vc, vk, hv, h1.1, h2.1, h3, h4⟩
theorem CK.next {w w' : World} {v : Value} {S : Scr} (h : CK w v S) (hb : Below w.heap.size w w') : CK w' v S := by
  obtain ⟨vc, vk, hv, h1, h2, h3, h4⟩ := h
  exact ⟨vc, vk, hv, h1.next hb, h2.next hb, h3, h4⟩
theorem CK.ne {w w' : World} {t : TypeId} {r : Nat} {cs : Array Value} {fz : Nat × Nat} {v : Value} {S : Scr} (h : CK w v S) (hr : w.heap[r]? = some (.cells cs t fz)) (h5 : 5 ≠ t) (h9 : 9 ≠ t) (hg : w.grownBy w' (some r)) : CK w' v S := by
  obtain ⟨vc, vk, hv, h1, h2, h3, h4⟩ := h
  exact ⟨vc, vk, hv, h1.ne hr h5 hg, h2.ne hr h9 hg, h3, h4⟩

/-- below block B, and but for block b, all is as it was -/
structure Bx (B b : Nat) (w w' : World) : Prop where
  os : w'.os = w.os
  tape : w'.tape = w.tape
  output : w'.output = w.output
  size : w.heap.size ≤ w'.heap.size
  block : ∀ k, k < B → k ≠ b → w'.heap[k]? = w.heap[k]?
theorem Bx.refl (B b : Nat) (w : World) : Bx B b w w := ⟨rfl, rfl, rfl, Nat.le_refl _, fun _ _ _ => rfl⟩
theorem Bx.trans {B b : Nat} {w v u : World} (h : Bx B b w v) (k : Bx B b v u) : Bx B b w u :=
  ⟨k.os.trans h.os, k.tape.trans h.tape, k.output.trans h.output, Nat.le_trans h.size k.size, fun i hi hn => (k.block i hi hn).trans (h.block i hi hn)⟩
theorem Bx.of {B b : Nat} {w w' : World} (h : Below B w w') : Bx B b w w' := ⟨h.os, h.tape, h.output, h.size, fun k hk _ => h.block k hk⟩
theorem Bx.below {B b A : Nat} {w w' : World} (h : Bx B b w w') (h1 : A ≤ B) (h2 : A ≤ b) : Below A w w' := ⟨h.os, h.tape, h.output, h.size, fun k hk => h.block k (by omega) (by omega)⟩
theorem Bx.setB {B b : Nat} {a w : World} (h : Bx B b a w) (j : Nat) (u : Value) : Bx B b a (w.setCell ⟨b, j, none⟩ u) :=
  h.trans ⟨rfl, rfl, rfl, by simp [World.setCell], fun _ _ hn => Below.heap_setCell _ _ _ _ hn⟩
theorem Bx.setG {B b : Nat} {a w : World} (h : Bx B b a w) {p : Addr} (hp : B ≤ p.block) (u : Value) : Bx B b a (w.setCell p u) :=
  h.trans (Bx.of ((Below.refl _ _).setCell hp u))
theorem Bx.alloc {B b : Nat} {a w : World} (h : Bx B b a w) (hB : B ≤ w.heap.size) (o : Obj) : Bx B b a (w.alloc o) := h.trans (Bx.of ((Below.refl _ _).alloc hB o))
theorem Bx.dn {B b : Nat} {a w : World} (h : Bx B b a w) (n : Nat) : Bx B b a (w.drewN n) := h.trans ⟨rfl, rfl, rfl, Nat.le_refl _, fun _ _ _ => rfl⟩
theorem Bx.drew {B b : Nat} {a w : World} (h : Bx B b a w) : Bx B b a w.drew := h.trans ⟨rfl, rfl, rfl, Nat.le_refl _, fun _ _ _ => rfl⟩
theorem Bx.of_drew {B b : Nat} {a w : World} (h : Bx B b a.drew w) : Bx B b a w := Bx.trans (v := a.drew) ⟨rfl, rfl, rfl, Nat.le_refl _, fun _ _ _ => rfl⟩ h
theorem Bx.cells {B b : Nat} {a w : World} (h : Bx B b a w) (g o : Nat) (vs : List Value) (hg : B ≤ g) (hB : B ≤ w.heap.size) : Bx B b a (w.setCells g o vs) :=
  h.trans (Bx.of ((Below.refl _ _).grown (grown_setCells w g o vs) hB (fun q hq => by injection hq with hq; omega)))

/-- A SCREEN BEHIND A POINTER: in block b, all of it the call's own (from block B on) -/
structure CBat (w : World) (B b : Nat) (S : Scr) (vc vk : Value) : Prop where
  blk : w.heap[b]? = some (.cells (S.vals vc vk) 29 (0, 0))
  cells : Own w B 5 1 vc S.grid.length (Lib.byteCells S.grid)
  kept : Own w B 9 1 vk S.kept.length (S.kept.map strV)
def CB (w : World) (B b : Nat) (S : Scr) : Prop := ∃ vc vk, CBat w B b S vc vk

theorem CBat.lt {w : World} {B b : Nat} {S : Scr} {vc vk : Value} (h : CBat w B b S vc vk) : b < w.heap.size := by
  have hk := h.blk
  rcases Nat.lt_or_ge b w.heap.size with hlt | hge
  · exact hlt
  · rw [Array.getElem?_eq_none hge] at hk; cases hk
theorem CBat.cell {w : World} {B b : Nat} {S : Scr} {vc vk : Value} (h : CBat w B b S vc vk) (j : Nat) : w.cell? ⟨b, j, none⟩ = (S.vals vc vk)[j]? := cell_of_row _ _ _ _ _ _ h.blk
theorem CBat.frozen {w : World} {B b : Nat} {S : Scr} {vc vk : Value} (h : CBat w B b S vc vk) (j : Nat) : w.frozen? ⟨b, j, none⟩ = false := frozen_of_row _ _ _ _ _ h.blk
theorem CBat.next {w w' : World} {B b : Nat} {S : Scr} {vc vk : Value} (h : CBat w B b S vc vk) (hb : Below w.heap.size w w') : CBat w' B b S vc vk :=
  ⟨(hb.block b h.lt).trans h.blk, h.cells.next hb, h.kept.next hb⟩
/-- the block is none of a row of another kind -/
theorem own_ne {w : World} {B : Nat} {e : TypeId} {k n : Nat} {v : Value} {xs : List Value} {b : Nat} {cs : Array Value} {t : TypeId} {fz : Nat × Nat} (h : Own w B e k v n xs) (hb : w.heap[b]? = some (.cells cs t fz)) (hne : e ≠ t)
    {w' : World} (hg : w.grownBy w' (some b)) : Own w' B e k v n xs := by
  refine ⟨h.1, ?_⟩
  rcases h.2 with h0 | ⟨g, o, c, hv, ho⟩
  · exact Or.inl h0
  · refine Or.inr ⟨g, o, c, hv, ho.keep (hg.block g ho.lt ?_)⟩
    intro he
    injection he with he
    subst he
    obtain ⟨cur, fz', hk⟩ := ho.kind
    rw [hb] at hk
    injection hk with hk
    injection hk with _ ht
    exact hne ht.symm
theorem grown_setCell (w : World) (b j : Nat) (u : Value) : w.grownBy (w.setCell ⟨b, j, none⟩ u) (some b) :=
  ⟨rfl, rfl, rfl, by simp [World.setCell], fun k _ hk => Below.heap_setCell _ _ _ _ (fun e => hk (by rw [e]))⟩
/-- a store into a field -/
theorem CBat.set {w : World} {B b : Nat} {S S' : Scr} {vc vk : Value} (h : CBat w B b S vc vk) (j : Nat) (u : Value) (hv : (S.vals vc vk).setIfInBounds j u = S'.vals vc vk) (hg : S'.grid = S.grid) (hk : S'.kept = S.kept) :
    CBat (w.setCell ⟨b, j, none⟩ u) B b S' vc vk := by
  refine ⟨?_, ?_, ?_⟩
  · rw [heap_setCell_same w b j _ _ _ h.blk, hv]
  · rw [hg]; exact own_ne h.cells h.blk (by decide) (grown_setCell w b j u)
  · rw [hk]; exact own_ne h.kept h.blk (by decide) (grown_setCell w b j u)
end Go.Proofs.YtiefpodmdpnppaaDoor
