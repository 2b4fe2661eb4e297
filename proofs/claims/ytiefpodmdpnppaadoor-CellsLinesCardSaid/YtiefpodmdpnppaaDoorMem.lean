/-
  SLICES: what a slice reads as; a slice of the call's own; append, clone, cut. Of no program.
-/
import Derived.WalkKit
import Derived.Deep.AppendSrc
import Derived.Deep.Upon
import Derived.Lib.Hide
namespace Go.Proofs.YtiefpodmdpnppaaDoor
open Go.RowKit

theorem below_next {a w w' : World} (h : Below a.heap.size a w) (h2 : Below w.heap.size w w') : Below a.heap.size a w' := h.trans (h2.mono h.size)
theorem below_base {B : Nat} {a w w' : World} (h : Below B a w) (h2 : Below w.heap.size w w') (hB : B ≤ a.heap.size) : Below B a w' := h.trans (h2.mono (Nat.le_trans hB h.size))

theorem add_none (b o j : Nat) : (⟨b, o, none⟩ : Addr).add j = ⟨b, o + j, none⟩ := by
  unfold Addr.add
  by_cases h : j = 0
  · simp [h]
  · simp [h]

/-- WHAT A SLICE READS AS: n elements of k cells each -/
def Rd (w : World) (k : Nat) (v : Value) (n : Nat) (xs : List Value) : Prop :=
  xs.length = n * k ∧ ∃ A c, v = .slice A n c ∧ n ≤ c ∧ c ≤ maxLen ∧ (A = none ∨ ∃ b o, A = some ⟨b, o, none⟩) ∧
    (0 < n → ∃ b o, A = some ⟨b, o, none⟩ ∧ b < w.heap.size ∧ ∀ j u, xs[j]? = some u → w.cell? ⟨b, o + j, none⟩ = some u)
theorem Rd.next {w w' : World} {k n : Nat} {v : Value} {xs : List Value} (h : Rd w k v n xs) (hb : Below w.heap.size w w') : Rd w' k v n xs := by
  obtain ⟨h1, A, c, hv, h2, h3, h4, h5⟩ := h
  refine ⟨h1, A, c, hv, h2, h3, h4, fun hn => ?_⟩
  obtain ⟨b, o, hA, hlt, hc⟩ := h5 hn
  exact ⟨b, o, hA, Nat.lt_of_lt_of_le hlt hb.size, fun j u hu => (hb.cell (p := ⟨b, o + j, none⟩) hlt).trans (hc j u hu)⟩
theorem Rd.nil (w : World) (k : Nat) : Rd w k (.slice none 0 0) 0 [] :=
  ⟨by simp, none, 0, rfl, Nat.le_refl _, Nat.zero_le _, Or.inl rfl, fun h => absurd h (by omega)⟩

structure OwnAt (w : World) (B : Nat) (e : TypeId) (k g o n c : Nat) (xs : List Value) : Prop where
  base : B ≤ g
  kind : ∃ cur fz, w.heap[g]? = some (.cells cur e fz)
  le : n ≤ c
  max : c ≤ maxLen
  room : ∀ j, j < c * k → (w.cell? ⟨g, o + j, none⟩).isSome = true ∧ w.frozen? ⟨g, o + j, none⟩ = false
  holds : ∀ j u, xs[j]? = some u → w.cell? ⟨g, o + j, none⟩ = some u
theorem OwnAt.lt {w : World} {B : Nat} {e : TypeId} {k g o n c : Nat} {xs : List Value} (h : OwnAt w B e k g o n c xs) : g < w.heap.size := by
  obtain ⟨cur, fz, hk⟩ := h.kind
  rcases Nat.lt_or_ge g w.heap.size with hlt | hge
  · exact hlt
  · rw [Array.getElem?_eq_none hge] at hk; cases hk
theorem OwnAt.keep {w w' : World} {B : Nat} {e : TypeId} {k g o n c : Nat} {xs : List Value} (h : OwnAt w B e k g o n c xs) (hb : w'.heap[g]? = w.heap[g]?) : OwnAt w' B e k g o n c xs := by
  refine ⟨h.base, by obtain ⟨cur, fz, hk⟩ := h.kind; exact ⟨cur, fz, hb.trans hk⟩, h.le, h.max, fun j hj => ?_, fun j u hu => ?_⟩
  · rw [World.cell?_of_block (a := ⟨g, o + j, none⟩) hb, World.frozen?_of_block (a := ⟨g, o + j, none⟩) hb]; exact h.room j hj
  · rw [World.cell?_of_block (a := ⟨g, o + j, none⟩) hb]; exact h.holds j u hu

/-- A SLICE OF THE CALL's OWN (from block B on): its cells may be written -/
def Own (w : World) (B : Nat) (e : TypeId) (k : Nat) (v : Value) (n : Nat) (xs : List Value) : Prop :=
  xs.length = n * k ∧ ((∃ A, v = .slice A 0 0 ∧ n = 0 ∧ (A = none ∨ ∃ b o, A = some ⟨b, o, none⟩)) ∨ ∃ g o c, v = .slice (some ⟨g, o, none⟩) n c ∧ OwnAt w B e k g o n c xs)
theorem Own.nil (w : World) (B : Nat) (e : TypeId) (k : Nat) : Own w B e k (.slice none 0 0) 0 [] := ⟨by simp, Or.inl ⟨none, rfl, rfl, Or.inl rfl⟩⟩
theorem Own.next {w w' : World} {B : Nat} {e : TypeId} {k n : Nat} {v : Value} {xs : List Value} (h : Own w B e k v n xs) (hb : Below w.heap.size w w') : Own w' B e k v n xs := by
  refine ⟨h.1, ?_⟩
  rcases h.2 with h0 | ⟨g, o, c, hv, ho⟩
  · exact Or.inl h0
  · exact Or.inr ⟨g, o, c, hv, ho.keep (hb.block g ho.lt)⟩
theorem Own.base {w : World} {B B' : Nat} {e : TypeId} {k n : Nat} {v : Value} {xs : List Value} (h : Own w B e k v n xs) (hB : B' ≤ B) : Own w B' e k v n xs := by
  refine ⟨h.1, ?_⟩
  rcases h.2 with h0 | ⟨g, o, c, hv, ho⟩
  · exact Or.inl h0
  · exact Or.inr ⟨g, o, c, hv, Nat.le_trans hB ho.base, ho.kind, ho.le, ho.max, ho.room, ho.holds⟩
theorem Own.rd {w : World} {B : Nat} {e : TypeId} {k n : Nat} {v : Value} {xs : List Value} (h : Own w B e k v n xs) : Rd w k v n xs := by
  refine ⟨h.1, ?_⟩
  rcases h.2 with ⟨A, hv, h0, hA⟩ | ⟨g, o, c, hv, ho⟩
  · exact ⟨A, 0, by rw [h0]; exact hv, by omega, Nat.zero_le _, hA, fun hn => absurd hn (by omega)⟩
  · exact ⟨_, c, hv, ho.le, ho.max, Or.inr ⟨g, o, rfl⟩, fun _ => ⟨g, o, rfl, ho.lt, ho.holds⟩⟩
theorem Own.far {w w' : World} {B : Nat} {e : TypeId} {k n : Nat} {v : Value} {xs : List Value} {row : Option Nat} (h : Own w B e k v n xs) (hg : w.grownBy w' row) (hne : ∀ g, v.ownBlock = some g → some g ≠ row) : Own w' B e k v n xs := by
  refine ⟨h.1, ?_⟩
  rcases h.2 with h0 | ⟨g, o, c, hv, ho⟩
  · exact Or.inl h0
  · exact Or.inr ⟨g, o, c, hv, ho.keep (hg.block g ho.lt (hne g (by rw [hv]; rfl)))⟩
theorem Own.kind {w : World} {B : Nat} {e : TypeId} {k n : Nat} {v : Value} {xs : List Value} (h : Own w B e k v n xs) (hn : 0 < n) : ∃ g cur fz, v.ownBlock = some g ∧ B ≤ g ∧ w.heap[g]? = some (.cells cur e fz) := by
  rcases h.2 with ⟨A, hv, h0, _⟩ | ⟨g, o, c, hv, ho⟩
  · omega
  · obtain ⟨cur, fz, hk⟩ := ho.kind
    exact ⟨g, cur, fz, by rw [hv]; rfl, ho.base, hk⟩

theorem heap_setCells_kind (g : Nat) (e : TypeId) : ∀ (vs : List Value) (o : Nat) (w : World), (∃ cur fz, w.heap[g]? = some (.cells cur e fz)) → ∃ cur fz, (w.setCells g o vs).heap[g]? = some (.cells cur e fz)
  | [], _, _, h => h
  | v :: r, o, w, ⟨cur, fz, h⟩ => by
    refine heap_setCells_kind g e r (o + 1) _ ⟨cur.setIfInBounds o v, fz, ?_⟩
    simp [World.setCell, Array.getElem?_modify, h]
theorem tape_setCells (g : Nat) : ∀ (vs : List Value) (o : Nat) (w : World), (w.setCells g o vs).tape = w.tape
  | [], _, _ => rfl
  | v :: r, o, w => by rw [World.setCells, tape_setCells g r (o + 1)]; rfl
theorem size_setCells (g : Nat) : ∀ (vs : List Value) (o : Nat) (w : World), (w.setCells g o vs).heap.size = w.heap.size
  | [], _, _ => rfl
  | v :: r, o, w => by rw [World.setCells, size_setCells g r (o + 1)]; simp [World.setCell]
theorem grown_setCells (w : World) (g o : Nat) (vs : List Value) : w.grownBy (w.setCells g o vs) (some g) :=
  ⟨World.os_setCells w g o vs, tape_setCells g vs o w, World.output_setCells w g o vs, by rw [size_setCells]; exact Nat.le_refl _, fun i hi hne => World.heap_setCells_other w g o vs hi (fun e => hne (by rw [e]))⟩

/-- what an append changes: nothing of what was there, or the slice's own row -/
def AppRow (w w' : World) (v : Value) (e : TypeId) : Prop := w.grownBy w' none ∨ ∃ g cur fz, v.ownBlock = some g ∧ w.heap[g]? = some (.cells cur e fz) ∧ w.grownBy w' (some g)
/-- a block of another kind stays -/
theorem AppRow.block {w w' : World} {v : Value} {e : TypeId} (h : AppRow w w' v e) {b : Nat} {cs : Array Value} {t : TypeId} {fz : Nat × Nat} (hb : w.heap[b]? = some (.cells cs t fz)) (hne : e ≠ t) : w'.heap[b]? = w.heap[b]? := by
  have hlt : b < w.heap.size := by
    rcases Nat.lt_or_ge b w.heap.size with hlt | hge
    · exact hlt
    · rw [Array.getElem?_eq_none hge] at hb; cases hb
  rcases h with h | ⟨g, cur, fz', _, hk, h⟩
  · exact h.block b hlt (by simp)
  · refine h.block b hlt (fun he => ?_)
    injection he with he
    subst he
    rw [hb] at hk
    injection hk with hk
    injection hk with _ ht
    exact hne ht.symm
theorem AppRow.own {w w' : World} {v : Value} {e : TypeId} (h : AppRow w w' v e) {B : Nat} {e' : TypeId} {k n : Nat} {u : Value} {xs : List Value} (ho : Own w B e' k u n xs) (hne : e ≠ e') : Own w' B e' k u n xs := by
  refine ⟨ho.1, ?_⟩
  rcases ho.2 with h0 | ⟨g, o, c, hv, ho⟩
  · exact Or.inl h0
  · obtain ⟨cur, fz, hk⟩ := ho.kind
    exact Or.inr ⟨g, o, c, hv, ho.keep (h.block hk hne)⟩

section
variable {P : Program} (w : World)

/-- APPEND to a slice of the call's own, of whatever is appended -/
theorem run_app (B : Nat) (t tx ty e : TypeId) (i : TypeInfo) (z : Value) (k bytes : Nat) (ht : P.underlying t = some (.slice e)) (hi : P.info? e = some i) (hz : i.zero = some z)
    (hsize : i.size = k) (hby : i.bytes = bytes) (hzs : z.cells.size = k)
    (v : Value) (n : Nat) (xs : List Value) (hown : Own w B e k v n xs) (x : Value) (m : Nat) (news : List Value) (hs : Src P k tx x m news w)
    (h63 : n + m ≤ maxLen) (hbytes : (n + m) * bytes ≤ 140737488355328) (hB : B ≤ w.heap.size) :
    ∃ v' w', (Builtin.append_ #[t, tx] ty #[v, x]).run P w = .ok v' w' ∧ Own w' B e k v' (n + m) (xs ++ news) ∧ AppRow w w' v e ∧ Below B w w' ∧ (v'.ownBlock = v.ownBlock ∨ v'.ownBlock = some w.heap.size) := by
  subst hsize
  subst hby
  have hsmall : ((n + m : Nat) : Int) ≤ 9223372036854775807 := by simp only [maxLen] at h63; omega
  have hlen : (xs ++ news).length = (n + m) * i.size := by rw [List.length_append, hown.1, hs.newsLen, Nat.add_mul]
  have grow : ∀ (base : Option Addr) (c : Nat), c < n + m → (Builtin.firstCells i.size n (.slice base n c)).run P w.drew = .ok xs.toArray w.drew → v = .slice base n c →
      ∃ v' w', (Builtin.append_ #[t, tx] ty #[v, x]).run P w = .ok v' w' ∧ Own w' B e i.size v' (n + m) (xs ++ news) ∧ AppRow w w' v e ∧ Below B w w' ∧ (v'.ownBlock = v.ownBlock ∨ v'.ownBlock = some w.heap.size) := by
    intro base c hc hold hv
    have hr := run_append_grow_src (P := P) w t tx ty e i z ht hi hz base n c xs hold x m news hs hc hsmall (growslice_fits hc hbytes)
    rw [hv]
    have hge := grownCap_ge w (n + m) c e
    have hcm := grownCap_le_maxLen w (n + m) c e h63
    generalize grownCap w (n + m) c e = gc at hr hge hcm
    refine ⟨_, _, hr, ⟨hlen, Or.inr ⟨w.heap.size, 0, gc, rfl, ?_⟩⟩, Or.inl ⟨rfl, rfl, rfl, by simp, fun j hj _ => Below.heap_alloc w.drew _ j hj⟩, ⟨rfl, rfl, rfl, by simp, fun j hj => Below.heap_alloc w.drew _ j (Nat.lt_of_lt_of_le hj hB)⟩, Or.inr rfl⟩
    have hnew : (w.drew.alloc (.cells ((xs ++ news).toArray ++ Builtin.zeroCells z.cells (gc - (n + m))) e)).heap[w.heap.size]? = some (.cells ((xs ++ news).toArray ++ Builtin.zeroCells z.cells (gc - (n + m))) e (0, 0)) := heap_alloc_new w.drew _
    have hsz : ((xs ++ news).toArray ++ Builtin.zeroCells z.cells (gc - (n + m))).size = gc * i.size := by
      rw [Array.size_append, List.size_toArray, hlen, size_zeroCells, hzs, ← Nat.add_mul]; congr 1; omega
    refine ⟨hB, ⟨_, _, hnew⟩, hge, hcm, fun j hj => ?_, fun j u hu => ?_⟩
    · rw [Nat.zero_add]
      refine ⟨?_, frozen_of_row _ _ _ _ _ hnew⟩
      rw [cell_of_row _ _ _ _ _ _ hnew, Array.getElem?_eq_getElem (by omega)]
      rfl
    · rw [Nat.zero_add, cell_of_row _ _ _ _ _ _ hnew, Array.getElem?_append_left (by rw [List.size_toArray]; exact (List.getElem?_eq_some_iff.1 hu).1), List.getElem?_toArray]
      exact hu
  rcases hown.2 with ⟨A, hv, h0, hA⟩ | ⟨g, o, c, hv, ho⟩
  · subst h0
    have hx : xs = [] := List.eq_nil_of_length_eq_zero (by simpa using hown.1)
    subst hx
    by_cases hm : m = 0
    · subst hm
      have hn : news = [] := List.eq_nil_of_length_eq_zero (by simpa using hs.newsLen)
      subst hn
      refine ⟨v, w, ?_, ⟨by simp, Or.inl ⟨A, hv, rfl, hA⟩⟩, Or.inl ⟨rfl, rfl, rfl, Nat.le_refl _, fun _ _ _ => rfl⟩, Below.refl _ _, Or.inl rfl⟩
      subst hv
      rcases hA with rfl | ⟨b, oo, rfl⟩
      · rcases hs.kind with ⟨e', hk⟩ | hk <;> simp [Builtin.append_, run_underlying ht, run_underlying hk, sizeOf, typeInfo, hi, hs.len, hs.cells]
      · have := run_append_room_src (P := P) w t tx ty e i ht hi b oo 0 0 x 0 [] hs (by omega) (fun j hj => by simp at hj) (fun j hj => by simp at hj)
        simpa [World.setCells] using this
    · refine grow A 0 (by omega) ?_ hv
      rcases hA with rfl | ⟨b, oo, rfl⟩
      · simpa using run_firstCells_none (P := P) w.drew i.size 0 0 0
      · exact run_firstCells_some (P := P) w.drew i.size 0 ⟨b, oo, none⟩ 0 0 [] (by simp) (fun j u hu => by simp at hu)
  · by_cases hroom : n + m ≤ c
    · have hpos : ∀ j, j < news.length → n * i.size + j < c * i.size := by
        intro j hj
        have h1 : n * i.size + news.length ≤ c * i.size := by rw [hs.newsLen, ← Nat.add_mul]; exact Nat.mul_le_mul_right _ hroom
        omega
      have hr := run_append_room_src (P := P) w t tx ty e i ht hi g o n c x m news hs hroom
        (fun j hj => by rw [Nat.add_assoc]; exact (ho.room _ (hpos j hj)).1) (fun j hj => by rw [Nat.add_assoc]; exact (ho.room _ (hpos j hj)).2)
      rw [hv]
      refine ⟨_, _, hr, ⟨hlen, Or.inr ⟨g, o, c, rfl, ?_⟩⟩, Or.inr (by obtain ⟨cur, fz, hk⟩ := ho.kind; exact ⟨g, cur, fz, rfl, hk, grown_setCells w g _ _⟩), ?_, Or.inl rfl⟩
      · refine ⟨ho.base, heap_setCells_kind g e _ _ _ ho.kind, hroom, ho.max, fun j hj => ?_, fun j u hu => ?_⟩
        · rw [World.frozen?_setCells]
          refine ⟨?_, (ho.room j hj).2⟩
          by_cases hin : n * i.size ≤ j ∧ j < n * i.size + news.length
          · have hh := World.cell?_setCells_in g news (o + n * i.size) w (fun q hq => by rw [Nat.add_assoc]; exact (ho.room _ (hpos q hq)).1) (j - n * i.size) (by omega)
            rw [show o + n * i.size + (j - n * i.size) = o + j by omega] at hh
            rw [hh]; rfl
          · rw [World.cell?_setCells_out g news _ w _ (fun _ _ => by show o + j < _ ∨ _ ≤ o + j; omega)]
            exact (ho.room j hj).1
        · by_cases hj : j < xs.length
          · rw [List.getElem?_append_left hj] at hu
            rw [World.cell?_setCells_out g news _ w _ (fun _ _ => by show o + j < _ ∨ _ ≤ o + j; rw [hown.1] at hj; omega)]
            exact ho.holds j u hu
          · rw [List.getElem?_append_right (by omega)] at hu
            obtain ⟨hj2, hu2⟩ := List.getElem?_eq_some_iff.1 hu
            have hh := World.cell?_setCells_in g news (o + n * i.size) w (fun q hq => by rw [Nat.add_assoc]; exact (ho.room _ (hpos q hq)).1) (j - xs.length) hj2
            have e : o + n * i.size + (j - xs.length) = o + j := by rw [hown.1] at hj ⊢; omega
            rw [e] at hh
            rw [hh, hu2]
      · exact (Below.refl B w).grown (grown_setCells w g _ _) hB (fun q hq => by cases hq; exact ho.base)
    · refine grow _ c (by omega) ?_ hv
      exact run_firstCells_some (P := P) w.drew i.size n ⟨g, o, none⟩ n c xs hown.1 (fun j u hu => by rw [add_none]; exact ho.holds j u hu)

theorem wpList_app {ops : Array Oper} {rest : List Oper} {op : Oper} {a : Act} {Q : Exit → Act → World → Prop} (hgd : op.guard = none) (s x : Operand) (t tx : TypeId)
    (ho : op.op = .call { callee := .builtin .append, args := #[s, x], argTypes := #[t, tx] })
    (B : Nat) (e : TypeId) (i : TypeInfo) (z : Value) (k bytes : Nat) (ht : P.underlying t = some (.slice e)) (hi : P.info? e = some i) (hz : i.zero = some z)
    (hsize : i.size = k) (hby : i.bytes = bytes) (hzs : z.cells.size = k)
    (v : Value) (n : Nat) (xs : List Value) (hv : a.eval s = v) (hown : Own w B e k v n xs) (xv : Value) (hx : a.eval x = xv) (m : Nat) (news : List Value) (hs : Src P k tx xv m news w)
    (h63 : n + m ≤ maxLen) (hbytes : (n + m) * bytes ≤ 140737488355328) (hB : B ≤ w.heap.size)
    (h : ∀ v' w', Own w' B e k v' (n + m) (xs ++ news) → AppRow w w' v e → Below B w w' → (v'.ownBlock = v.ownBlock ∨ v'.ownBlock = some w.heap.size) → wpList P ops Q rest (a.put op.dst v') w') : wpList P ops Q (op :: rest) a w := by
  refine wpList_plain hgd fun K hK => ?_
  obtain ⟨v', w', hr, h2, h3, h4, h5⟩ := run_app (P := P) w B t tx op.type e i z k bytes ht hi hz hsize hby hzs v n xs hown xv m news hs h63 hbytes hB
  unfold Oper.wp execOp
  simp only [ho, resolve, invoke, builtin, Sem.run_bind, Sem.run_pure, Result.andThen_ok, List.map_toArray, List.map_cons, List.map_nil, hv, hx, hr]
  exact hK _ _ (h v' w' h2 h3 h4 h5)

/-- what is appended, read off a slice -/
theorem Rd.src {k n : Nat} {v : Value} {xs : List Value} {tx e' : TypeId} (h : Rd w k v n xs) (hk : P.underlying tx = some (.slice e')) (h1 : ∀ u ∈ xs, u.oneCell' = true) : Src P k tx v n xs w := by
  obtain ⟨hl, A, c, rfl, hle, hmx, hA, hc⟩ := h
  rcases Nat.eq_zero_or_pos n with h0 | h0
  · subst h0
    obtain rfl : xs = [] := List.eq_nil_of_length_eq_zero (by simpa using hl)
    rcases hA with rfl | ⟨b, o, rfl⟩
    · exact Src.ofNil w hk c
    · exact Src.ofSlice w hk ⟨b, o, none⟩ 0 c [] (by simp) (fun j u hu => by simp at hu) h1
  · obtain ⟨b, o, rfl, _, hcell⟩ := hc h0
    exact Src.ofSlice w hk ⟨b, o, none⟩ n c xs hl (fun j u hu => by rw [add_none]; exact hcell j u hu) h1

/-- CUTTING a slice of the call's own -/
theorem Own.from {B : Nat} {e t : TypeId} {v : Value} {n : Nat} {xs : List Value} (h : Own w B e 1 v n xs) (ht : P.underlying t = some (.slice e)) (hz : ∀ w, (Go.sizeOf e).run P w = .ok 1 w) (l : Nat) (hl : l ≤ n) :
    ∃ v', (∀ W, (Instr.slice t v (some (.int .i64 (l : Int))) none none).run P W = .ok v' W) ∧ Own w B e 1 v' (n - l) (xs.drop l) := by
  have ht' : P.underlying t = some (.slice (P.elem t)) := by simp [Program.elem, ht]
  have he : P.elem t = e := by simp [Program.elem, ht]
  have hlen : (xs.drop l).length = (n - l) * 1 := by rw [List.length_drop, h.1]; omega
  rcases h.2 with ⟨A, hv, h0, hA⟩ | ⟨g, o, c, hv, ho⟩
  · subst h0
    obtain rfl : l = 0 := by omega
    refine ⟨.slice A 0 0, fun W => ?_, hlen, Or.inl ⟨A, rfl, rfl, hA⟩⟩
    rw [hv, run_slice_l W t _ _ _ ht' .i64 _ (by omega) (by omega), he, hz]
    simp [Result.andThen, sliced]
  · have hle := ho.le
    by_cases hc : c = l
    · subst hc
      refine ⟨.slice (some ⟨g, o, none⟩) 0 0, fun W => ?_, hlen, Or.inl ⟨_, rfl, by omega, Or.inr ⟨_, _, rfl⟩⟩⟩
      rw [hv, run_slice_l W t _ _ _ ht' .i64 _ (by omega) (by omega), he, hz]
      simp [Result.andThen, sliced]
      omega
    · refine ⟨.slice (some ⟨g, o + l, none⟩) (n - l) (c - l), fun W => ?_, hlen, Or.inr ⟨g, o + l, c - l, rfl, ho.base, ho.kind, by omega, by have := ho.max; omega, fun j hj => ?_, fun j u hu => ?_⟩⟩
      · rw [hv, run_slice_l W t _ _ _ ht' .i64 _ (by omega) (by omega), he, hz]
        by_cases h0 : l = 0
        · subst h0
          simp [Result.andThen, sliced, Addr.add, hc]
        · simp [Result.andThen, sliced, Addr.add, hc, h0]
      · rw [Nat.add_assoc]; exact ho.room (l + j) (by omega)
      · rw [Nat.add_assoc]; exact ho.holds (l + j) u (by rw [← List.getElem?_drop]; exact hu)
theorem Own.upto {B : Nat} {e t : TypeId} {v : Value} {n : Nat} {xs : List Value} (h : Own w B e 1 v n xs) (ht : P.underlying t = some (.slice e)) (hz : ∀ w, (Go.sizeOf e).run P w = .ok 1 w) (l : Nat) (hl : l ≤ n) :
    ∃ v', (∀ W, (Instr.slice t v none (some (.int .i64 (l : Int))) none).run P W = .ok v' W) ∧ Own w B e 1 v' l (xs.take l) := by
  have ht' : P.underlying t = some (.slice (P.elem t)) := by simp [Program.elem, ht]
  have he : P.elem t = e := by simp [Program.elem, ht]
  have hlen : (xs.take l).length = l * 1 := by rw [List.length_take, h.1]; omega
  rcases h.2 with ⟨A, hv, h0, hA⟩ | ⟨g, o, c, hv, ho⟩
  · subst h0
    obtain rfl : l = 0 := by omega
    refine ⟨.slice A 0 0, fun W => ?_, hlen, Or.inl ⟨A, rfl, rfl, hA⟩⟩
    rw [hv, run_slice_h W t _ _ _ ht' .i64 _ (by omega) (by omega), he, hz]
    simp [Result.andThen, sliced]
  · have hle := ho.le
    refine ⟨.slice (some ⟨g, o, none⟩) l c, fun W => ?_, hlen, Or.inr ⟨g, o, c, rfl, ho.base, ho.kind, by omega, ho.max, ho.room, fun j u hu => ho.holds j u ?_⟩⟩
    · rw [hv, run_slice_h W t _ _ _ ht' .i64 _ (by omega) (by omega), he, hz]
      by_cases hc : c = 0
      · simp [Result.andThen, sliced, hc]
      · simp [Result.andThen, sliced, Addr.add]
    · rw [List.getElem?_take] at hu
      split at hu
      · exact hu
      · cases hu
end
end Go.Proofs.YtiefpodmdpnppaaDoor
