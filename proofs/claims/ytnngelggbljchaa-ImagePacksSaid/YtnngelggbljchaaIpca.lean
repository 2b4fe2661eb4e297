/-
  The proof's lemmas, part 1.
-/
import Derived.WalkKit
import Derived.Below
import Derived.Laws.StructEq
import Derived.Lib.FrozenHead
import Derived.IntWalk
import Derived.Laws.BytesString
import Derived.Laws.Append
import Derived.TacticsIn
import Derived.RangeFuncRecord
import Derived.Orders
namespace Go.Proofs.Ytnngelggbljchaa
set_option linter.unusedSimpArgs false
set_option linter.unusedVariables false
section
open Go.RowKit
inductive T where
  | v (x : Value)
  | agg (cs : List T)
  | tup (cs : List T)
  | clo (f : FuncId) (fs cs : List T)
  | ptr (b o : Nat)
  | slc (b o n z : Nat) (c : Option Nat)
  | iptr (cs : List T) (o : Nat)
  | islc (cs : List T) (n : Nat) (c : Option Nat)
  | yl (b : Nat)
  | mp (ks : List Value) (ts : List T)
  | om (b : Nat)
structure Mp where
  β : Nat → Option (Option (Nat × Nat))
  X : Nat → Prop
  w : World
def Mp.imm (M : Mp) (B : Nat) (a : Array Value) : Prop := ¬ M.X B ∧ ∃ e f, M.w.heap[B]? = some (.cells a e f)
def mapIs (es : Array MapEntry) (n : Nat) (ks us : List Value) : Prop :=
  (∃ es' : List MapEntry, es'.Perm es.toList ∧ es'.map (·.key) = ks ∧ es'.map (·.val) = us) ∧ ks.Nodup ∧ (es.toList.map (·.born)).Nodup ∧ ∀ e ∈ es.toList, e.born < n
mutual
def Rep (M : Mp) : T → Value → Prop
  | .v x, u => u = x
  | .agg cs, u => ∃ us : List Value, u = .agg us.toArray ∧ RepL M cs us
  | .tup cs, u => ∃ us : List Value, u = .tuple us.toArray ∧ RepL M cs us
  | .clo f fs cs, u => ∃ us ws : List Value, u = .func (.func f) us.toArray ws.toArray ∧ RepL M fs us ∧ RepL M cs ws
  | .ptr b o, u => ∃ B O, M.β b = some (some (B, O)) ∧ u = .pointer (some ⟨B, O + o, none⟩)
  | .slc b o n z c, u => (M.β b = some none ∧ n = 0 ∧ o = 0 ∧ (∀ q, c = some q → q = 0) ∧ ∃ A, u = .slice A 0 0) ∨ ∃ B O k, M.β b = some (some (B, O)) ∧ u = .slice (some ⟨B, O + o, none⟩) n k ∧ n ≤ k ∧ k ≤ maxLen ∧ (∀ q, c = some q → k = q) ∧ ∃ e s, M.w.shape? B = some (e, s) ∧ O + o + k * z ≤ s
  | .iptr cs o, u => ∃ B O a, u = .pointer (some ⟨B, O + o, none⟩) ∧ M.imm B a ∧ RepA M cs a O
  | .islc cs n c, u => ∃ A k, u = .slice A n k ∧ n ≤ k ∧ k ≤ maxLen ∧ (∀ q, c = some q → k = q) ∧ ((cs = [] ∧ n = 0) ∨ ∃ B O a, A = some ⟨B, O, none⟩ ∧ M.imm B a ∧ RepA M cs a O)
  | .yl b, u => ∃ B O, M.β b = some (some (B, O)) ∧ u = .func (.yield B) #[] #[]
  | .mp ks ts, u => ∃ r es n us, u = .map (some r) ∧ ¬ M.X r ∧ M.w.heap[r]? = some (.map es n) ∧ mapIs es n ks us ∧ RepL M ts us
  | .om b, u => ∃ B O, M.β b = some (some (B, O)) ∧ u = .map (some B)
def RepL (M : Mp) : List T → List Value → Prop
  | [], us => us = []
  | t :: ts, us => ∃ u r, us = u :: r ∧ Rep M t u ∧ RepL M ts r
def RepA (M : Mp) : List T → Array Value → Nat → Prop
  | [], _, _ => True
  | t :: ts, a, j => ∃ u, a[j]? = some u ∧ Rep M t u ∧ RepA M ts a (j + 1)
end
mutual
def T.pure : T → Bool
  | .v _ => true
  | .agg cs => T.pureL cs
  | .tup cs => T.pureL cs
  | .clo _ fs cs => T.pureL fs && T.pureL cs
  | .ptr _ _ => false
  | .slc _ _ _ _ _ => false
  | .iptr cs _ => T.pureL cs
  | .islc cs _ _ => T.pureL cs
  | .yl _ => false
  | .mp _ ts => T.pureL ts
  | .om _ => false
def T.pureL : List T → Bool
  | [] => true
  | t :: ts => T.pure t && T.pureL ts
end
structure Stays (M M' : Mp) : Prop where
  at_ : ∀ b p, M.β b = some p → M'.β b = some p
  obj : ∀ B o, ¬ M.X B → M.w.heap[B]? = some o → (∀ d, o ≠ .deferred d) → ¬ M'.X B ∧ M'.w.heap[B]? = some o
  shape : ∀ B s, M.w.shape? B = some s → M'.w.shape? B = some s
theorem Stays.imm {M M' : Mp} (h : Stays M M') (B : Nat) (a : Array Value) (hi : M.imm B a) : M'.imm B a := by
  obtain ⟨h1, e, f, h2⟩ := hi
  obtain ⟨h3, h4⟩ := h.obj B _ h1 h2 (fun d => by simp)
  exact ⟨h3, e, f, h4⟩
theorem Stays.refl (M : Mp) : Stays M M := ⟨fun _ _ h => h, fun _ _ h k _ => ⟨h, k⟩, fun _ _ h => h⟩
theorem Stays.trans {a b c : Mp} (h : Stays a b) (k : Stays b c) : Stays a c := ⟨fun x p q => k.at_ x p (h.at_ x p q), fun x p q r e => let ⟨h1, h2⟩ := h.obj x p q r e; k.obj x p h1 h2 e, fun x p q => k.shape x p (h.shape x p q)⟩
mutual
theorem Rep.stays {M M' : Mp} (h : Stays M M') : ∀ (t : T) (u : Value), Rep M t u → Rep M' t u
  | .v _, _, r => r
  | .agg cs, _, ⟨us, h1, h2⟩ => ⟨us, h1, RepL.stays h cs us h2⟩
  | .tup cs, _, ⟨us, h1, h2⟩ => ⟨us, h1, RepL.stays h cs us h2⟩
  | .clo _ fs cs, _, ⟨us, ws, h1, h2, h3⟩ => ⟨us, ws, h1, RepL.stays h fs us h2, RepL.stays h cs ws h3⟩
  | .ptr _ _, _, ⟨B, O, h1, h2⟩ => ⟨B, O, h.at_ _ _ h1, h2⟩
  | .slc _ _ _ _ _, _, .inl ⟨h1, h2⟩ => .inl ⟨h.at_ _ _ h1, h2⟩
  | .slc _ _ _ _ _, _, .inr ⟨B, O, k, h1, h2, h3, h4, h5, e, s, h6, h7⟩ => .inr ⟨B, O, k, h.at_ _ _ h1, h2, h3, h4, h5, e, s, h.shape _ _ h6, h7⟩
  | .iptr cs _, _, ⟨B, O, a, h1, h2, h3⟩ => ⟨B, O, a, h1, h.imm _ _ h2, RepA.stays h cs a O h3⟩
  | .islc _ _ _, _, ⟨A, k, h1, h2, h3, h4, .inl h5⟩ => ⟨A, k, h1, h2, h3, h4, .inl h5⟩
  | .islc cs _ _, _, ⟨A, k, h1, h2, h3, h4, .inr ⟨B, O, a, h5, h6, h7⟩⟩ => ⟨A, k, h1, h2, h3, h4, .inr ⟨B, O, a, h5, h.imm _ _ h6, RepA.stays h cs a O h7⟩⟩
  | .yl _, _, ⟨B, O, h1, h2⟩ => ⟨B, O, h.at_ _ _ h1, h2⟩
  | .mp _ ts, _, ⟨r, es, n, us, h1, h2, h3, h4, h5⟩ => ⟨r, es, n, us, h1, (h.obj _ _ h2 h3 (fun d => by simp)).1, (h.obj _ _ h2 h3 (fun d => by simp)).2, h4, RepL.stays h ts us h5⟩
  | .om _, _, ⟨B, O, h1, h2⟩ => ⟨B, O, h.at_ _ _ h1, h2⟩
theorem RepL.stays {M M' : Mp} (h : Stays M M') : ∀ (ts : List T) (us : List Value), RepL M ts us → RepL M' ts us
  | [], _, r => r
  | t :: ts, _, ⟨u, r, h1, h2, h3⟩ => ⟨u, r, h1, Rep.stays h t u h2, RepL.stays h ts r h3⟩
theorem RepA.stays {M M' : Mp} (h : Stays M M') : ∀ (ts : List T) (a : Array Value) (j : Nat), RepA M ts a j → RepA M' ts a j
  | [], _, _, _ => trivial
  | t :: ts, a, j, ⟨u, h1, h2, h3⟩ => ⟨u, h1, Rep.stays h t u h2, RepA.stays h ts a (j + 1) h3⟩
end
structure StaysI (M M' : Mp) : Prop where
  obj : ∀ B o, ¬ M.X B → M.w.heap[B]? = some o → (∀ d, o ≠ .deferred d) → ¬ M'.X B ∧ M'.w.heap[B]? = some o
theorem StaysI.imm {M M' : Mp} (h : StaysI M M') (B : Nat) (a : Array Value) (hi : M.imm B a) : M'.imm B a := by
  obtain ⟨h1, e, f, h2⟩ := hi
  obtain ⟨h3, h4⟩ := h.obj B _ h1 h2 (fun d => by simp)
  exact ⟨h3, e, f, h4⟩
mutual
theorem Rep.staysI {M M' : Mp} (h : StaysI M M') : ∀ (t : T) (u : Value), t.pure = true → Rep M t u → Rep M' t u
  | .v _, _, _, r => r
  | .agg cs, _, p, ⟨us, h1, h2⟩ => ⟨us, h1, RepL.staysI h cs us (by simpa only [T.pure] using p) h2⟩
  | .tup cs, _, p, ⟨us, h1, h2⟩ => ⟨us, h1, RepL.staysI h cs us (by simpa only [T.pure] using p) h2⟩
  | .clo _ fs cs, _, p, ⟨us, ws, h1, h2, h3⟩ => by
    simp only [T.pure, Bool.and_eq_true] at p
    exact ⟨us, ws, h1, RepL.staysI h fs us p.1 h2, RepL.staysI h cs ws p.2 h3⟩
  | .ptr _ _, _, p, _ => by simp only [T.pure] at p; cases p
  | .slc _ _ _ _ _, _, p, _ => by simp only [T.pure] at p; cases p
  | .iptr cs _, _, p, ⟨B, O, a, h1, h2, h3⟩ => ⟨B, O, a, h1, h.imm _ _ h2, RepA.staysI h cs a O (by simpa only [T.pure] using p) h3⟩
  | .islc _ _ _, _, _, ⟨A, k, h1, h2, h3, h4, .inl h5⟩ => ⟨A, k, h1, h2, h3, h4, .inl h5⟩
  | .islc cs _ _, _, p, ⟨A, k, h1, h2, h3, h4, .inr ⟨B, O, a, h5, h6, h7⟩⟩ => ⟨A, k, h1, h2, h3, h4, .inr ⟨B, O, a, h5, h.imm _ _ h6, RepA.staysI h cs a O (by simpa only [T.pure] using p) h7⟩⟩
  | .yl _, _, p, _ => by simp only [T.pure] at p; cases p
  | .mp _ ts, _, p, ⟨r, es, n, us, h1, h2, h3, h4, h5⟩ => ⟨r, es, n, us, h1, (h.obj _ _ h2 h3 (fun d => by simp)).1, (h.obj _ _ h2 h3 (fun d => by simp)).2, h4, RepL.staysI h ts us (by simpa only [T.pure] using p) h5⟩
  | .om _, _, p, _ => by simp only [T.pure] at p; cases p
theorem RepL.staysI {M M' : Mp} (h : StaysI M M') : ∀ (ts : List T) (us : List Value), T.pureL ts = true → RepL M ts us → RepL M' ts us
  | [], _, _, r => r
  | t :: ts, _, p, ⟨u, r, h1, h2, h3⟩ => by
    simp only [T.pureL, Bool.and_eq_true] at p
    exact ⟨u, r, h1, Rep.staysI h t u p.1 h2, RepL.staysI h ts r p.2 h3⟩
theorem RepA.staysI {M M' : Mp} (h : StaysI M M') : ∀ (ts : List T) (a : Array Value) (j : Nat), T.pureL ts = true → RepA M ts a j → RepA M' ts a j
  | [], _, _, _, _ => trivial
  | t :: ts, a, j, p, ⟨u, h1, h2, h3⟩ => by
    simp only [T.pureL, Bool.and_eq_true] at p
    exact ⟨u, h1, Rep.staysI h t u p.1 h2, RepA.staysI h ts a (j + 1) p.2 h3⟩
end

/- rows of cells -/
theorem RepL.length {M : Mp} : ∀ {ts : List T} {us : List Value}, RepL M ts us → us.length = ts.length
  | [], _, h => by cases h; rfl
  | _ :: ts, _, ⟨_, _, h1, _, h3⟩ => by subst h1; simp [RepL.length h3]
theorem RepL.get {M : Mp} : ∀ {ts : List T} {us : List Value}, RepL M ts us → ∀ (i : Nat) (t : T), ts[i]? = some t → ∃ u, us[i]? = some u ∧ Rep M t u
  | [], _, _, i, t, h => by simp at h
  | x :: ts, _, ⟨u, r, h1, h2, h3⟩, 0, t, h => by subst h1; simp at h; subst h; exact ⟨u, rfl, h2⟩
  | x :: ts, _, ⟨u, r, h1, h2, h3⟩, i + 1, t, h => by subst h1; simp at h ⊢; exact RepL.get h3 i t h
theorem RepA.get {M : Mp} : ∀ {ts : List T} {a : Array Value} {j : Nat}, RepA M ts a j → ∀ (i : Nat) (t : T), ts[i]? = some t → ∃ u, a[j + i]? = some u ∧ Rep M t u
  | [], _, _, _, i, t, h => by simp at h
  | x :: ts, a, j, ⟨u, h1, h2, h3⟩, 0, t, h => by simp at h; subst h; exact ⟨u, h1, h2⟩
  | x :: ts, a, j, ⟨u, h1, h2, h3⟩, i + 1, t, h => by
    simp at h
    have := RepA.get h3 i t h
    rwa [show j + 1 + i = j + (i + 1) from by omega] at this
theorem repA_of {M : Mp} : ∀ {ts : List T} {a : Array Value} {j : Nat}, (∀ (i : Nat) (t : T), ts[i]? = some t → ∃ u, a[j + i]? = some u ∧ Rep M t u) → RepA M ts a j
  | [], _, _, _ => trivial
  | x :: ts, a, j, h => by
    obtain ⟨u, h1, h2⟩ := h 0 x rfl
    refine ⟨u, h1, h2, repA_of fun i t ht => ?_⟩
    have := h (i + 1) t (by simpa using ht)
    rwa [show j + 1 + i = j + (i + 1) from by omega]
theorem repL_of {M : Mp} : ∀ {ts : List T} {us : List Value}, us.length = ts.length → (∀ (i : Nat) (t : T), ts[i]? = some t → ∃ u, us[i]? = some u ∧ Rep M t u) → RepL M ts us
  | [], us, hl, _ => by cases us; rfl; simp at hl
  | x :: ts, us, hl, h => by
    cases us with
    | nil => simp at hl
    | cons y r =>
      obtain ⟨u, h1, h2⟩ := h 0 x rfl
      simp at h1; subst h1
      exact ⟨y, r, rfl, h2, repL_of (by simpa using hl) fun i t ht => by have := h (i + 1) t (by simpa using ht); simpa using this⟩
theorem RepL.toA {M : Mp} {ts : List T} {us : List Value} (h : RepL M ts us) : RepA M ts us.toArray 0 :=
  repA_of fun i t ht => by obtain ⟨u, h1, h2⟩ := h.get i t ht; exact ⟨u, by simpa using h1, h2⟩
theorem RepL.toArr {M : Mp} {ts : List T} {a : Array Value} (h : RepL M ts a.toList) : RepA M ts a 0 :=
  repA_of fun i t ht => by obtain ⟨u, h1, h2⟩ := h.get i t ht; exact ⟨u, by simpa using h1, h2⟩
theorem RepA.toL {M : Mp} {ts : List T} {a : Array Value} {j : Nat} (h : RepA M ts a j) : RepL M ts ((a.toList.drop j).take ts.length) := by
  have hlen : ∀ i, i < ts.length → j + i < a.size := fun i hi => by
    obtain ⟨u, h1, -⟩ := h.get i _ (List.getElem?_eq_getElem hi)
    exact (Array.getElem?_eq_some_iff.1 h1).1
  refine repL_of ?_ fun i t ht => ?_
  · rw [List.length_take, List.length_drop]
    rcases Nat.eq_zero_or_pos ts.length with h0 | h0
    · omega
    · have := hlen (ts.length - 1) (by omega)
      simp; omega
  · obtain ⟨u, h1, h2⟩ := h.get i t ht
    have hi : i < ts.length := (List.getElem?_eq_some_iff.1 ht).1
    exact ⟨u, by rw [List.getElem?_take, if_pos hi, List.getElem?_drop]; simpa using h1, h2⟩
theorem RepL.append {M : Mp} : ∀ {ts ss : List T} {us ws : List Value}, RepL M ts us → RepL M ss ws → RepL M (ts ++ ss) (us ++ ws)
  | [], _, _, _, h, k => by cases h; exact k
  | _ :: _, _, _, _, ⟨u, r, h1, h2, h3⟩, k => by subst h1; exact ⟨u, _, rfl, h2, RepL.append h3 k⟩
theorem RepA.size {M : Mp} {ts : List T} {a : Array Value} {j : Nat} (h : RepA M ts a j) (h0 : 0 < ts.length) : j + ts.length ≤ a.size := by
  obtain ⟨u, h1, -⟩ := h.get (ts.length - 1) _ (List.getElem?_eq_getElem (by omega))
  have := (Array.getElem?_eq_some_iff.1 h1).1
  omega
theorem RepA.sub {M : Mp} {ts ss : List T} {a : Array Value} {j k : Nat} (h : RepA M ts a j) (hs : ∀ (i : Nat) (t : T), ss[i]? = some t → ts[k + i]? = some t) : RepA M ss a (j + k) :=
  repA_of fun i t ht => by
    obtain ⟨u, h1, h2⟩ := h.get (k + i) t (hs i t ht)
    exact ⟨u, by rwa [← Nat.add_assoc] at h1, h2⟩
theorem pureL_get : ∀ {ts : List T}, T.pureL ts = true → ∀ (i : Nat) (t : T), ts[i]? = some t → t.pure = true
  | [], _, i, t, h => by simp at h
  | x :: ts, p, 0, t, h => by simp at h; subst h; simp only [T.pureL, Bool.and_eq_true] at p; exact p.1
  | x :: ts, p, i + 1, t, h => by simp only [T.pureL, Bool.and_eq_true] at p; exact pureL_get p.2 i t (by simpa using h)
theorem pureL_of : ∀ {ts : List T}, (∀ t ∈ ts, t.pure = true) → T.pureL ts = true
  | [], _ => rfl
  | x :: ts, h => by simp only [T.pureL, Bool.and_eq_true]; exact ⟨h x (List.mem_cons_self ..), pureL_of fun t ht => h t (List.mem_cons_of_mem _ ht)⟩
theorem repL_v {M : Mp} : ∀ (vs : List Value), RepL M (vs.map T.v) vs
  | [] => rfl
  | v :: vs => ⟨v, vs, rfl, rfl, repL_v vs⟩
end
section
open Go.RowKit
inductive Kd where
  | bool | int (k : IntKind) | str | ptr (e : Nat) | sl (e : Nat) | arr (n e : Nat) | st (fs : List (Nat × Nat)) | fn | mp (k e : Nat) | oth
def Kd.agg : Kd → Bool | .arr _ _ => true | .st _ => true | _ => false
structure TyI where
  sz : Nat
  by_ : Nat
  zero : List T
  k : Kd
  eqok : Bool
def kdOk : TypeDesc → Kd → Prop
  | .bool, .bool => True
  | .int k, .int k' => k = k'
  | .string, .str => True
  | .pointer e, .ptr e' => e = e'
  | .slice e, .sl e' => e = e'
  | .array n e, .arr n' e' => n = n' ∧ e = e'
  | .struct fs, .st l => l = fs.toList.map fun f => (f.offset, f.type)
  | .func _ _ _, .fn => True
  | .map k e, .mp k' e' => k = k' ∧ e = e'
  | .struct _, .oth => False
  | .array _ _, .oth => False
  | _, .oth => True
  | _, _ => False
abbrev Tab := Nat → Option TyI
def _root_.Go.Value.isAggB : Value → Bool | .agg _ => true | _ => false
structure TyOk (P : Program) (t : TypeId) (i : TyI) : Prop where
  info : ∃ I, P.info? t = some I ∧ I.size = i.sz ∧ I.bytes = i.by_ ∧ ∃ z, I.zero = some z ∧ z.cells.toList.map T.v = i.zero
  kind : ∃ D, P.underlying t = some D ∧ kdOk D i.k
  zlen : i.zero.length = i.sz
  flds : ∀ fs, P.underlying t = some (.struct fs) → (fs.toList.all fun f => (P.info? f.type).isSome) = true
  aggz : i.k.agg = false → i.sz = 1
  zagg : ∃ I z, P.info? t = some I ∧ I.zero = some z ∧ z.isAggB = i.k.agg
  eq_ : i.eqok = true → P.stoodInHeld t = false ∧ P.eqGuardType P.depth t = false ∧ ∃ fs, P.underlying t = some (.struct fs) ∧ ∀ f ∈ fs.toList, f.name ≠ "_"
def TabOk (P : Program) (tab : Tab) : Prop := ∀ t i, tab t = some i → TyOk P t i
def T.ofV : Value → T
  | .agg cs => .agg (cs.toList.map .v)
  | .tuple cs => .tup (cs.toList.map .v)
  | x => .v x
def flat : T → List T
  | .agg cs => cs
  | .v (.agg cs) => cs.toList.map .v
  | t => [t]
def cellB : T → Bool
  | .agg _ => false
  | .tup _ => false
  | .v (.agg _) => false
  | .v (.tuple _) => false
  | _ => true
abbrev Look := Nat → Option (List T)
abbrev EnvF := Operand → Option T
def partT (i : TyI) (cs : List T) (o : Nat) : Option T := if i.k.agg then (if o + i.sz ≤ cs.length then some (.agg ((cs.drop o).take i.sz)) else none) else cs[o]?
def mLoad (tab : Tab) (look : Look) (t : Nat) (a : T) : Option T :=
  match tab t with
  | none => none
  | some i =>
    match a with
    | .ptr b o => match look b with | some cs => partT i cs o | none => none
    | .iptr cs o => partT i cs o
    | _ => none
def putL (cs : List T) (o : Nat) (xs : List T) : List T := cs.take o ++ xs ++ cs.drop (o + xs.length)
def fillT (place : Nat → Option (Nat × Nat)) (cells : List T) : List (Nat × T) → Option (List T)
  | [] => some cells
  | (i, t) :: r =>
    match place i with
    | none => none
    | some (o, s) => if (flat t).length = s ∧ o + s ≤ cells.length then fillT place (putL cells o (flat t)) r else none
def optL (ρ : EnvF) : List Operand → Option (List T)
  | [] => some []
  | x :: r => match ρ x with | none => none | some t => match optL ρ r with | none => none | some ts => some (t :: ts)
def optP (ρ : EnvF) : List (Nat × Operand) → Option (List (Nat × T))
  | [] => some []
  | (i, x) :: r => match ρ x with | none => none | some t => match optP ρ r with | none => none | some ts => some ((i, t) :: ts)
def zeros (c : Nat) : List T → List T
  | [x] => List.replicate c x
  | z => (List.replicate c z).flatten
def stPlace (tab : Tab) (fs : List (Nat × Nat)) (j : Nat) : Option (Nat × Nat) :=
  match fs[j]? with
  | none => none
  | some p => match tab p.2 with | none => none | some q => some (p.1, q.sz)
def mBuild (tab : Tab) (t : Nat) (ps : List (Nat × T)) : Option T :=
  match tab t with
  | none => none
  | some i =>
    match i.k with
    | .st fs => match fillT (stPlace tab fs) i.zero ps with | some cs => some (.agg cs) | none => none
    | .arr _ e => match tab e with | some j => (match fillT (fun q => some (q * j.sz, j.sz)) i.zero ps with | some cs => some (.agg cs) | none => none) | none => none
    | _ => none
def mBuildSlice (tab : Tab) (nx t len : Nat) (ps : List (Nat × T)) : Option (T × Option (Nat × List T)) :=
  match tab t with
  | none => none
  | some i =>
    match i.k with
    | .sl e =>
      match tab e with
      | some j => if len * j.sz ≤ 2 ^ 24 ∧ len ≤ 2 ^ 24 then (match fillT (fun q => some (q * j.sz, j.sz)) (zeros len j.zero) ps with | some cs => some (.slc nx 0 len j.sz (some len), some (e, cs)) | none => none) else none
      | none => none
    | _ => none
def mMakeSlice (tab : Tab) (nx t : Nat) (l c : T) : Option (T × Option (Nat × List T)) :=
  match l, c with
  | .v (.int .i64 n), .v (.int .i64 m) =>
    match tab t with
    | none => none
    | some i =>
      match i.k with
      | .sl e =>
        match tab e with
        | some j => if 0 ≤ n ∧ n ≤ m ∧ m ≤ 2 ^ 47 ∧ j.by_ * m ≤ 2 ^ 48 then some (.slc nx 0 n.toNat j.sz (some m.toNat), some (e, zeros m.toNat j.zero)) else none
        | none => none
      | _ => none
  | _, _ => none
def bitV (op : BinOp) (k : IntKind) (x y : Int) : Int :=
  let a := BitVec.ofInt k.bits x
  let b := BitVec.ofInt k.bits y
  match op with
  | .and => k.wrap (a &&& b).toNat
  | .or => k.wrap (a ||| b).toNat
  | .xor => k.wrap (a ^^^ b).toNat
  | _ => k.wrap (a &&& ~~~b).toNat
def binInt (op : BinOp) (k : IntKind) (a b : Int) : Option Value :=
  match op with
  | .add => some (.int k (k.wrap (a + b)))
  | .sub => some (.int k (k.wrap (a - b)))
  | .mul => some (.int k (k.wrap (a * b)))
  | .quo => if b = 0 then none else some (.int k (k.wrap (a.tdiv b)))
  | .rem => if b = 0 then none else some (.int k (a.tmod b))
  | .and => some (.int k (bitV .and k a b))
  | .or => some (.int k (bitV .or k a b))
  | .xor => some (.int k (bitV .xor k a b))
  | .andNot => some (.int k (bitV .andNot k a b))
  | .eql => some (.bool (a == b))
  | .neq => some (.bool (a != b))
  | .lss => some (.bool (a < b))
  | .leq => some (.bool (a ≤ b))
  | .gtr => some (.bool (a > b))
  | .geq => some (.bool (a ≥ b))
  | _ => none
def binStr (op : BinOp) (x y : ByteArray) : Option Value :=
  match op with
  | .add => if x.size + y.size < 2 ^ 63 then some (.string (x ++ y)) else none
  | .eql => some (.bool (x.toList == y.toList))
  | .neq => some (.bool (!(x.toList == y.toList)))
  | _ => none
def tyInt (tab : Tab) (t : Nat) : Bool := match tab t with | some i => (match i.k with | .int _ => true | _ => false) | none => false
def tyBool (tab : Tab) (t : Nat) : Bool := match tab t with | some i => (match i.k with | .bool => true | _ => false) | none => false
def tyStr (tab : Tab) (t : Nat) : Bool := match tab t with | some i => (match i.k with | .str => true | _ => false) | none => false
def eqSt (tab : Tab) : List (Nat × Nat) → Nat → List T → List T → Option Bool
  | [], _, [], [] => some true
  | (o, t) :: fs, n, .v (.int k a) :: r, .v (.int k' b) :: s => if o = n ∧ k = k' ∧ tyInt tab t = true then (match eqSt tab fs (n + 1) r s with | some q => some (a == b && q) | none => none) else none
  | (o, t) :: fs, n, .v (.bool a) :: r, .v (.bool b) :: s => if o = n ∧ tyBool tab t = true then (match eqSt tab fs (n + 1) r s with | some q => some (a == b && q) | none => none) else none
  | (o, t) :: fs, n, .v (.string a) :: r, .v (.string b) :: s => if o = n ∧ tyStr tab t = true then (match eqSt tab fs (n + 1) r s with | some q => some (a.toList == b.toList && q) | none => none) else none
  | _, _, _, _ => none
def mEq (tab : Tab) (t : Nat) (a b : T) : Option Bool :=
  match a, b with
  | .v (.bool x), .v (.bool y) => match tab t with | some i => (match i.k with | .bool => some (x == y) | _ => none) | none => none
  | .slc _ _ n _ _, .v (.slice none _ _) => match tab t with | some i => (match i.k with | .sl _ => if 0 < n then some false else none | _ => none) | none => none
  | .islc (_ :: _) _ _, .v (.slice none _ _) => match tab t with | some i => (match i.k with | .sl _ => some false | _ => none) | none => none
  | .v (.slice none _ _), .v (.slice none _ _) => match tab t with | some i => (match i.k with | .sl _ => some true | _ => none) | none => none
  | .v (.slice (some _) _ _), .v (.slice none _ _) => match tab t with | some i => (match i.k with | .sl _ => some false | _ => none) | none => none
  | .agg xs, .agg ys => match tab t with | some i => (match i.k with | .st fs => if i.eqok then eqSt tab fs 0 xs ys else none | _ => none) | none => none
  | .clo _ _ _, .v .nilFunc => match tab t with | some i => (match i.k with | .fn => some false | _ => none) | none => none
  | .v .nilFunc, .v .nilFunc => match tab t with | some i => (match i.k with | .fn => some true | _ => none) | none => none
  | _, _ => none
def mBin (tab : Tab) (op : BinOp) (t : Nat) (a b : T) : Option T :=
  match op, a, b with
  | .shl, .v (.int k x), .v (.int _ y) => if y < 0 then none else some (.v (.int k (k.wrap (x * 2 ^ (min y.toNat k.bits)))))
  | .shr, .v (.int k x), .v (.int _ y) => if y < 0 then none else some (.v (.int k (x.fdiv (2 ^ (min y.toNat k.bits)))))
  | op, .v (.int k x), .v (.int k' y) => if k = k' then (binInt op k x y).map .v else none
  | op, .v (.string x), .v (.string y) => (binStr op x y).map .v
  | .eql, a, b => match mEq tab t a b with | some q => some (.v (.bool q)) | none => none
  | .neq, a, b => match mEq tab t a b with | some q => some (.v (.bool (!q))) | none => none
  | _, _, _ => none
def mUn (op : UnOp) (a : T) : Option T :=
  match op, a with
  | .neg, .v (.int k n) => some (.v (.int k (k.wrap (0 - n))))
  | .not, .v (.bool b) => some (.v (.bool (!b)))
  | _, _ => none
def bytesT : List T → Option (List UInt8)
  | [] => some []
  | .v (.int .u8 n) :: r => match bytesT r with | some l => some (UInt8.ofNat n.toNat :: l) | none => none
  | _ :: _ => none
def mConv (tab : Tab) (look : Look) (src dst : Nat) (a : T) : Option T :=
  match tab src, tab dst with
  | some i, some j =>
    match i.k, j.k, a with
    | .int _, .int k, .v (.int _ n) => some (.v (.int k (k.wrap n)))
    | .str, .str, .v (.string s) => some (.v (.string s))
    | .sl e, .str, .v (.slice none _ _) => match tab e with | some q => (match q.k with | .int .u8 => some (.v (.string .empty)) | _ => none) | none => none
    | .sl e, .str, .slc b o n _ _ => match tab e with | some q => (match q.k, look b with | .int .u8, some cs => if o + n ≤ cs.length then (match bytesT ((cs.drop o).take n) with | some l => some (.v (.string ⟨l.toArray⟩)) | none => none) else none | _, _ => none) | none => none
    | .sl e, .str, .islc cs n _ => match tab e with | some q => (match q.k with | .int .u8 => if n ≤ cs.length then (match bytesT (cs.take n) with | some l => some (.v (.string ⟨l.toArray⟩)) | none => none) else none | _ => none) | none => none
    | _, _, _ => none
  | _, _ => none
def mField (tab : Tab) (s : Nat) (a : T) (f : Nat) : Option T :=
  match tab s, a with
  | some i, .agg cs => match i.k with | .st fs => (match fs[f]? with | some p => (match tab p.2 with | some j => partT j cs p.1 | none => none) | none => none) | _ => none
  | _, _ => none
def mFieldAddr (tab : Tab) (s : Nat) (a : T) (f : Nat) : Option T :=
  match tab s with
  | none => none
  | some i =>
    match i.k with
    | .st fs =>
      match fs[f]? with
      | none => none
      | some p =>
        match tab p.2 with
        | none => none
        | some j =>
          if j.sz = 0 then none else
          match a with
          | .ptr b o => some (.ptr b (o + p.1))
          | .iptr cs o => some (.iptr cs (o + p.1))
          | _ => none
    | _ => none
def mIndexAddr (tab : Tab) (t : Nat) (a ix : T) : Option T :=
  match ix, tab t with
  | .v (.int _ n), some i =>
    match i.k, a with
    | .sl e, .slc b o l z _ => match tab e with | some j => if j.sz = z ∧ 0 ≤ n ∧ n < (l : Int) then some (.ptr b (o + n.toNat * z)) else none | none => none
    | .sl e, .islc cs l _ => match tab e with | some j => if 0 ≤ n ∧ n < (l : Int) then some (.iptr cs (n.toNat * j.sz)) else none | none => none
    | .arr l e, .ptr b o => match tab e with | some j => if 0 ≤ n ∧ n < (l : Int) then some (.ptr b (o + n.toNat * j.sz)) else none | none => none
    | .arr l e, .iptr cs o => match tab e with | some j => if 0 ≤ n ∧ n < (l : Int) then some (.iptr cs (o + n.toNat * j.sz)) else none | none => none
    | _, _ => none
  | _, _ => none
def mIndex (tab : Tab) (t : Nat) (a ix : T) : Option T :=
  match ix, tab t with
  | .v (.int _ n), some i =>
    match i.k, a with
    | .arr l e, .agg cs => match tab e with | some j => if 0 ≤ n ∧ n < (l : Int) then partT j cs (n.toNat * j.sz) else none | none => none
    | .str, .v (.string s) => if 0 ≤ n then (match s[n.toNat]? with | some b => some (.v (.int .u8 b.toNat)) | none => none) else none
    | _, _ => none
  | _, _ => none
def optI : Option Operand → EnvF → Option (Option Int)
  | none, _ => some none
  | some x, ρ => match ρ x with | some (.v (.int _ n)) => some (some n) | _ => none
def mSlice (tab : Tab) (look : Look) (t : Nat) (a : T) (lo hi mx : Option Int) : Option T :=
  match tab t with
  | none => none
  | some i =>
    match i.k, a with
    | .str, .v (.string s) =>
      if mx.isSome then none else
      let h := hi.getD s.size
      let l := lo.getD 0
      if 0 ≤ l ∧ l ≤ h ∧ h ≤ s.size then some (.v (.string (s.extract l.toNat h.toNat))) else none
    | .sl e, .v (.slice none 0 0) =>
      match tab e with
      | none => none
      | some _ =>
      if mx.getD 0 = 0 ∧ hi.getD 0 = 0 ∧ lo.getD 0 = 0 ∧ (mx.isSome → hi.isSome) then some (.v (.slice none 0 0)) else none
    | .sl e, .slc b o n z c =>
      match tab e with
      | none => none
      | some j =>
        if j.sz = z then
          let h := hi.getD n
          let l := lo.getD 0
          match mx with
          | none => if 0 ≤ l ∧ l ≤ h ∧ h ≤ (n : Int) then (if l = 0 ∨ l < n then some (.slc b (o + l.toNat * z) (h - l).toNat z (c.map fun q => q - l.toNat)) else some (.islc [] 0 none)) else none
          | some m => if hi.isSome ∧ 0 ≤ l ∧ l ≤ h ∧ h ≤ m ∧ m ≤ (n : Int) ∧ (l = 0 ∨ l < m) then some (.slc b (o + l.toNat * z) (h - l).toNat z (some (m - l).toNat)) else none
        else none
    | .sl e, .islc cs n c =>
      match tab e with
      | none => none
      | some j =>
        let h := hi.getD n
        let l := lo.getD 0
        match mx with
        | none => if 0 ≤ l ∧ l ≤ h ∧ h ≤ (n : Int) then (if l = 0 ∨ l < n then some (.islc (cs.drop (l.toNat * j.sz)) (h - l).toNat (c.map fun q => q - l.toNat)) else some (.islc [] 0 none)) else none
        | some m => if hi.isSome ∧ 0 ≤ l ∧ l ≤ h ∧ h ≤ m ∧ m ≤ (n : Int) ∧ (l = 0 ∨ l < m) then some (.islc (cs.drop (l.toNat * j.sz)) (h - l).toNat (some (m - l).toNat)) else none
    | .arr n e, .ptr b o =>
      match tab e with
      | none => none
      | some j =>
        match look b with
        | none => none
        | some cs =>
        if mx.isSome then none else
        let h := hi.getD n
        let l := lo.getD 0
        if 0 ≤ l ∧ l ≤ h ∧ h ≤ (n : Int) ∧ l < n ∧ n ≤ 2 ^ 47 ∧ 0 < j.sz ∧ o + n * j.sz ≤ cs.length then some (.slc b (o + l.toNat * j.sz) (h - l).toNat j.sz (some (n - l.toNat))) else none
    | _, _ => none
def mLen (tab : Tab) (t : Nat) (a : T) : Option Int :=
  match tab t with
  | none => none
  | some i =>
    match i.k, a with
    | .str, .v (.string s) => some s.size
    | .arr n _, _ => some n
    | .sl _, .v (.slice _ n _) => some n
    | .sl _, .slc _ _ n _ _ => some n
    | .sl _, .islc _ n _ => some n
    | _, _ => none
def mMin (q : Bool) (x : Int) : List T → Option Int
  | [] => some x
  | .v (.int .i64 y) :: r => mMin q (if q then (if y < x then y else x) else (if y > x then y else x)) r
  | _ => none
def mMins (q : Bool) : List T → Option Int
  | .v (.int .i64 x) :: r => mMin q x r
  | _ => none
/- maps that are looked at -/
def likeK : Kd → Value → Value → Option Bool
  | .int _, .int k a, .int k' b => if k = k' then some (a == b) else none
  | .str, .string a, .string b => some (a == b)
  | .bool, .bool a, .bool b => some (a == b)
  | _, _, _ => none
def keyKd : Kd → Bool
  | .int _ => true
  | .str => true
  | .bool => true
  | _ => false
def mFind (k : Kd) (kv : Value) : List Value → List T → Option T
  | x :: ks, t :: ts => if likeK k kv x = some true then some t else mFind k kv ks ts
  | _, _ => none
def zeroT (i : TyI) : Option T := if i.k.agg then some (.agg i.zero) else match i.zero with | [x] => some x | _ => none
def mLook2 (tab : Tab) (t : Nat) (ks : List Value) (ts : List T) (kv : Value) (ok : Bool) : Option T :=
  match tab t with
  | some i =>
    match i.k with
    | .mp kt et =>
      match tab kt, tab et with
      | some j, some z =>
        if (ks.all fun x => (likeK j.k kv x).isSome) && keyKd j.k then
          match mFind j.k kv ks ts with
          | some r => some (if ok then .tup [r, .v (.bool true)] else r)
          | none => match zeroT z with | some r => some (if ok then .tup [r, .v (.bool false)] else r) | none => none
        else none
      | _, _ => none
    | _ => none
  | none => none
def mLookup (tab : Tab) (t : Nat) (a b : T) (ok : Bool) : Option T :=
  match a, b with
  | .mp ks ts, .v kv => mLook2 tab t ks ts kv ok
  | .v (.map none), .v kv => mLook2 tab t [] [] kv ok
  | _, _ => none
def opM (tab : Tab) (look : Look) (nx : Nat) (ρ : EnvF) (op : Op) : Option (T × Option (Nat × List T)) :=
  match op with
  | .move x => match ρ x with | some t => some (t, none) | none => none
  | .assign x => match ρ x with | some t => some (t, none) | none => none
  | .pick c a b => match ρ c, ρ a, ρ b with
    | some (.v (.bool q)), some (.v (.bool x)), some (.v (.bool y)) => some (.v (.bool (if q then x else y)), none)
    | some (.v (.bool true)), some t, _ => some (t, none)
    | some (.v (.bool false)), _, some t => some (t, none)
    | _, _, _ => none
  | .alloc e => match tab e with | some i => some (.ptr nx 0, some (e, i.zero)) | none => none
  | .box e x => match ρ x with | some t => some (.ptr nx 0, some (e, flat t)) | none => none
  | .build t ps => match optP ρ ps.toList with | some l => (match mBuild tab t l with | some r => some (r, none) | none => none) | none => none
  | .buildSlice t len ps => match optP ρ ps.toList with | some l => mBuildSlice tab nx t len l | none => none
  | .load t a => match ρ a with | some x => (match mLoad tab look t x with | some r => some (r, none) | none => none) | none => none
  | .nilCheck x => match ρ x with | some (.ptr b o) => some (.ptr b o, none) | some (.iptr cs o) => some (.iptr cs o, none) | some (.clo f a b) => some (.clo f a b, none) | _ => none
  | .binOp op t x y _ => match ρ x, ρ y with | some a, some b => (match mBin tab op t a b with | some r => some (r, none) | none => none) | _, _ => none
  | .unOp op _ x => match ρ x with | some a => (match mUn op a with | some r => some (r, none) | none => none) | none => none
  | .convert s d x => match ρ x with | some a => (match mConv tab look s d a with | some r => some (r, none) | none => none) | none => none
  | .makeFunc (.func f) fs cs => match optL ρ fs.toList, optL ρ cs.toList with | some a, some b => some (.clo f a b, none) | _, _ => none
  | .makeSlice t l c => match ρ l, ρ c with | some a, some b => mMakeSlice tab nx t a b | _, _ => none
  | .slice t x lo hi mx => match ρ x, optI lo ρ, optI hi ρ, optI mx ρ with | some a, some l, some h, some m => (match mSlice tab look t a l h m with | some r => some (r, none) | none => none) | _, _, _, _ => none
  | .fieldAddr s x f => match ρ x with | some a => (match mFieldAddr tab s a f with | some r => some (r, none) | none => none) | none => none
  | .field s x f => match ρ x with | some a => (match mField tab s a f with | some r => some (r, none) | none => none) | none => none
  | .indexAddr t x i => match ρ x, ρ i with | some a, some b => (match mIndexAddr tab t a b with | some r => some (r, none) | none => none) | _, _ => none
  | .index t x i => match ρ x, ρ i with | some a, some b => (match mIndex tab t a b with | some r => some (r, none) | none => none) | _, _ => none
  | .extract x i => match ρ x with | some (.tup ts) => (match ts[i]? with | some t => some (t, none) | none => none) | _ => none
  | .call ⟨.builtin .len, args, ats⟩ => match args.toList, ats.toList with
    | [x], [t] => match ρ x with | some a => (match mLen tab t a with | some n => some (.v (.int .i64 n), none) | none => none) | none => none
    | _, _ => none
  | .call ⟨.builtin .min, args, _⟩ => match optL ρ args.toList with | some l => (match mMins true l with | some n => some (.v (.int .i64 n), none) | none => none) | none => none
  | .call ⟨.builtin .max, args, _⟩ => match optL ρ args.toList with | some l => (match mMins false l with | some n => some (.v (.int .i64 n), none) | none => none) | none => none
  | .lookup t m k ok => match ρ m, ρ k with | some a, some b => (match mLookup tab t a b ok with | some r => some (r, none) | none => none) | _, _ => none
  | _ => none
end
section
open Go.RowKit
section
variable {P : Program} {tab : Tab} {M : Mp}
theorem cell_at {w : World} {B : Nat} {a : Array Value} {e : TypeId} {f : Nat × Nat} (h : w.heap[B]? = some (.cells a e f)) (j : Nat) : w.cell? ⟨B, j, none⟩ = a[j]? := by
  simp [World.cell?, h]
theorem add_at (B o i : Nat) : (⟨B, o, none⟩ : Addr).add i = ⟨B, o + i, none⟩ := by unfold Addr.add; split <;> simp_all
theorem rep_ofV (x : Value) : Rep M (T.ofV x) x := by
  cases x <;> first
    | exact rfl
    | exact ⟨_, rfl, repL_v _⟩
theorem rep_flat {t : T} {u : Value} (h : Rep M t u) : RepL M (flat t) u.cells.toList := by
  cases t with
  | v x => obtain rfl := h; cases u <;> first | exact ⟨_, _, rfl, rfl, rfl⟩ | exact repL_v _
  | agg cs => obtain ⟨us, rfl, h2⟩ := h; simpa [flat, Value.cells] using h2
  | tup cs => obtain ⟨us, rfl, h2⟩ := h; exact ⟨_, _, rfl, ⟨us, rfl, h2⟩, rfl⟩
  | clo f a b => obtain ⟨us, ws, rfl, h2, h3⟩ := h; exact ⟨_, _, rfl, ⟨us, ws, rfl, h2, h3⟩, rfl⟩
  | ptr b o => obtain ⟨B, O, h1, rfl⟩ := h; exact ⟨_, _, rfl, ⟨B, O, h1, rfl⟩, rfl⟩
  | slc b o n z c =>
    rcases h with ⟨h1, h2, h3, h4, A, rfl⟩ | ⟨B, O, k, h1, rfl, h2⟩
    · exact ⟨_, _, rfl, .inl ⟨h1, h2, h3, h4, A, rfl⟩, rfl⟩
    · exact ⟨_, _, rfl, .inr ⟨B, O, k, h1, rfl, h2⟩, rfl⟩
  | iptr cs o => obtain ⟨B, O, a, rfl, h2⟩ := h; exact ⟨_, _, rfl, ⟨B, O, a, rfl, h2⟩, rfl⟩
  | islc cs n c => obtain ⟨A, k, rfl, h2⟩ := h; exact ⟨_, _, rfl, ⟨A, k, rfl, h2⟩, rfl⟩
  | yl b => obtain ⟨B, O, h1, rfl⟩ := h; exact ⟨_, _, rfl, ⟨B, O, h1, rfl⟩, rfl⟩
  | mp ks ts => obtain ⟨r, es, n, us, rfl, h2⟩ := h; exact ⟨_, _, rfl, ⟨r, es, n, us, rfl, h2⟩, rfl⟩
  | om b => obtain ⟨B, O, h1, rfl⟩ := h; exact ⟨_, _, rfl, ⟨B, O, h1, rfl⟩, rfl⟩
theorem rep_cell {t : T} {u : Value} (h : Rep M t u) (hc : cellB t = true) : u.oneCell' = true ∧ u.cells = #[u] := by
  cases t with
  | v x => obtain rfl := h; cases u <;> simp_all [cellB, Value.oneCell', Value.cells]
  | agg cs => simp [cellB] at hc
  | tup cs => simp [cellB] at hc
  | clo f a b => obtain ⟨us, ws, rfl, h2, h3⟩ := h; exact ⟨rfl, rfl⟩
  | ptr b o => obtain ⟨B, O, h1, rfl⟩ := h; exact ⟨rfl, rfl⟩
  | slc b o n z c => rcases h with ⟨-, -, -, -, A, rfl⟩ | ⟨B, O, k, h1, rfl, h2⟩ <;> exact ⟨rfl, rfl⟩
  | iptr cs o => obtain ⟨B, O, a, rfl, h2⟩ := h; exact ⟨rfl, rfl⟩
  | islc cs n c => obtain ⟨A, k, rfl, h2⟩ := h; exact ⟨rfl, rfl⟩
  | yl b => obtain ⟨B, O, h1, rfl⟩ := h; exact ⟨rfl, rfl⟩
  | mp ks ts => obtain ⟨r, es, n, us, rfl, h2⟩ := h; exact ⟨rfl, rfl⟩
  | om b => obtain ⟨B, O, h1, rfl⟩ := h; exact ⟨rfl, rfl⟩

/- the table's facts -/
theorem TyOk.size_ {t : TypeId} {i : TyI} (h : TyOk P t i) (w : World) : (sizeOf t).run P w = .ok i.sz w := by
  obtain ⟨I, h1, h2, -⟩ := h.info
  simp [sizeOf, typeInfo, h1, h2]
theorem TyOk.info_ {t : TypeId} {i : TyI} (h : TyOk P t i) (w : World) : ∃ I, (typeInfo t).run P w = .ok I w ∧ I.bytes = i.by_ := by
  obtain ⟨I, h1, h2, h3, -⟩ := h.info
  exact ⟨I, by simp [typeInfo, h1], h3⟩
theorem TyOk.zero_ {t : TypeId} {i : TyI} (h : TyOk P t i) (w : World) : ∃ z, (zeroValue t).run P w = .ok z w ∧ z.cells.toList.map T.v = i.zero ∧ z.cells.size = i.sz := by
  obtain ⟨I, h1, h2, h3, z, h4, h5⟩ := h.info
  refine ⟨z, by simp [zeroValue, typeInfo, h1, h4], h5, ?_⟩
  have := h.zlen
  rw [← h5] at this
  simpa using this
theorem TyOk.agg_ {t : TypeId} {i : TyI} (h : TyOk P t i) (w : World) : (isAgg t).run P w = .ok i.k.agg w := by
  obtain ⟨D, h1, h2⟩ := h.kind
  unfold isAgg
  rw [Sem.run_bind, run_underlying h1, Result.andThen_ok]
  revert h2
  cases D <;> cases i.k <;> intro h2 <;> first | rfl | (simp [kdOk] at h2; done)
def LookAt (M : Mp) (look : Look) : Prop := ∀ b B O cells, M.β b = some (some (B, O)) → look b = some cells → ∃ a e fz, M.w.heap[B]? = some (.cells a e fz) ∧ RepA M cells a O
theorem load_part {t : TypeId} {i : TyI} (h : TyOk P t i) {B O o : Nat} {a : Array Value} {e : TypeId} {f : Nat × Nat} {cs : List T} {r : T} (hb : M.w.heap[B]? = some (.cells a e f)) (ha : RepA M cs a O) (hp : partT i cs o = some r) :
    ∃ u, (Instr.loadAt t (.pointer (some ⟨B, O + o, none⟩))).run P M.w = .ok u M.w ∧ Rep M r u := by
  unfold partT at hp
  have hl : (Instr.loadAt t (.pointer (some ⟨B, O + o, none⟩))).run P M.w = (loadVar t ⟨B, O + o, none⟩).run P M.w := by
    unfold Instr.loadAt; rw [Sem.run_bind]; rfl
  rw [hl]
  unfold loadVar
  rw [Sem.run_bind, h.agg_, Result.andThen_ok]
  cases hk : i.k.agg with
  | true =>
    rw [hk] at hp
    simp only [if_true] at hp ⊢
    split at hp
    · rename_i hle
      injection hp with hp; subst hp
      have hs : RepA M ((cs.drop o).take i.sz) a (O + o) := ha.sub fun j t ht => by
        rw [List.getElem?_take] at ht
        split at ht
        · simpa using ht
        · cases ht
      have hlen : ((cs.drop o).take i.sz).length = i.sz := by simp; omega
      have hL := hs.toL
      have hlen2 := hL.length
      rw [hlen] at hL hlen2
      refine ⟨.agg ((a.toList.drop (O + o)).take i.sz).toArray, ?_, _, rfl, hL⟩
      have := run_loadCells_list (P := P) M.w ⟨B, O + o, none⟩ ((a.toList.drop (O + o)).take i.sz) (fun j v hj => by
        rw [add_at, cell_at hb]
        rw [List.getElem?_take] at hj
        split at hj
        · simpa using hj
        · cases hj)
      rw [hlen2] at this
      simp only [Sem.run_bind, h.size_, Result.andThen_ok, this, Sem.run_pure]
    · cases hp
  | false =>
    rw [hk] at hp
    simp only [Bool.false_eq_true, if_false] at hp ⊢
    obtain ⟨u, h1, h2⟩ := ha.get o r hp
    exact ⟨u, by simp [cell_at hb, h1], h2⟩
theorem mLoad_ok (hT : TabOk P tab) {look : Look} (hL : LookAt M look) {t : TypeId} {x r : T} {u : Value} (hx : Rep M x u) (h : mLoad tab look t x = some r) : ∃ v, (Instr.loadAt t u).run P M.w = .ok v M.w ∧ Rep M r v := by
  unfold mLoad at h
  split at h
  · cases h
  · rename_i i hi
    have hok := hT t i hi
    split at h
    · rename_i b o
      split at h
      · rename_i cs hc
        obtain ⟨B, O, h1, rfl⟩ := hx
        obtain ⟨a, e, fz, h2, h3⟩ := hL b B O cs h1 hc
        exact load_part hok h2 h3 h
      · cases h
    · obtain ⟨B, O, a, rfl, ⟨-, e, f, h2⟩, h3⟩ := hx
      exact load_part hok h2 h3 h
    · cases h

/- putting parts together -/
theorem foldl_set_get (off : Nat) : ∀ (l : List Value) (n : Nat) (cs : Array Value) (k : Nat), off + n + l.length ≤ cs.size →
    ((l.zipIdx n).foldl (fun cs (c, j) => cs.setIfInBounds (off + j) c) cs)[k]? = if off + n ≤ k ∧ k < off + n + l.length then l[k - (off + n)]? else cs[k]?
  | [], n, cs, k, _ => by
    rw [if_neg (by simp)]; rfl
  | x :: l, n, cs, k, h => by
    simp only [List.zipIdx_cons, List.foldl_cons]
    rw [foldl_set_get off l (n + 1) _ k (by simp at h ⊢; omega)]
    simp only [List.length_cons] at h ⊢
    by_cases h1 : off + (n + 1) ≤ k ∧ k < off + (n + 1) + l.length
    · rw [if_pos h1, if_pos (by omega), show k - (off + n) = (k - (off + (n + 1))) + 1 from by omega]; rfl
    · rw [if_neg h1]
      by_cases h2 : k = off + n
      · subst h2
        have hlt : off + n < cs.size := by omega
        rw [if_pos (by omega), Nat.sub_self]
        simp [hlt]
      · rw [if_neg (by omega), Array.getElem?_setIfInBounds_ne (by omega)]
theorem putL_get (cs xs : List T) (o : Nat) (h : o + xs.length ≤ cs.length) (k : Nat) : (putL cs o xs)[k]? = if o ≤ k ∧ k < o + xs.length then xs[k - o]? else cs[k]? := by
  unfold putL
  by_cases h1 : k < o
  · rw [if_neg (by omega), List.append_assoc, List.getElem?_append_left (by simp; omega), List.getElem?_take, if_pos h1]
  · rw [List.append_assoc, List.getElem?_append_right (by simp; omega)]
    have hl : (cs.take o).length = o := by simp; omega
    rw [hl]
    by_cases h2 : k < o + xs.length
    · rw [if_pos (by omega), List.getElem?_append_left (by omega)]
    · rw [if_neg (by omega), List.getElem?_append_right (by omega), List.getElem?_drop]
      congr 1; omega
theorem putL_length (cs xs : List T) (o : Nat) (h : o + xs.length ≤ cs.length) : (putL cs o xs).length = cs.length := by
  unfold putL; simp; omega
def Pairs (M : Mp) : List (Nat × T) → List (Nat × Value) → Prop
  | [], qs => qs = []
  | p :: ps, qs => ∃ q r, qs = q :: r ∧ p.1 = q.1 ∧ Rep M p.2 q.2 ∧ Pairs M ps r
theorem foldl_set_size (off : Nat) : ∀ (l : List (Value × Nat)) (cs : Array Value), (l.foldl (fun cs (c, j) => cs.setIfInBounds (off + j) c) cs).size = cs.size
  | [], _ => rfl
  | x :: l, cs => by rw [List.foldl_cons, foldl_set_size off l]; simp
theorem fill_ok {place : Nat → Option (Nat × Nat)} : ∀ (ps : List (Nat × T)) (qs : List (Nat × Value)) (cs : List T) (a : Array Value) (r : List T), RepL M cs a.toList →
    Pairs M ps qs → fillT place cs ps = some r → ∃ b, Instr.fill place a qs = some b ∧ RepL M r b.toList
  | [], _, cs, a, r, ha, hq, h => by
    obtain rfl := hq
    simp only [fillT] at h; injection h with h; subst h; exact ⟨a, rfl, ha⟩
  | (i, t) :: ps, _, cs, a, r, ha, ⟨(i', v), qs, hq, h1, h2, h3⟩, h => by
    subst hq
    obtain rfl : i = i' := h1
    have h2 : Rep M t v := h2
    unfold fillT at h
    unfold Instr.fill
    split at h
    · cases h
    · rename_i o s hp
      rw [hp]
      split at h
      · rename_i hc
        have hf := rep_flat h2
        have hfl := hf.length
        have hal := ha.length
        simp only [Array.length_toList] at hfl hal
        have hcond : (decide (v.cells.size ≠ s) || decide (o + v.cells.size > a.size)) = false := by simp; omega
        simp only [hcond, Bool.false_eq_true, if_false]
        refine fill_ok ps qs _ _ r ?_ h3 h
        have hg := fun k => foldl_set_get o v.cells.toList 0 a k (by simp; omega)
        simp only [Nat.add_zero, Array.length_toList] at hg
        rw [← Array.foldl_toList, Array.toList_zipIdx]
        refine repL_of ?_ fun k t2 ht => ?_
        · rw [putL_length _ _ _ (by omega), Array.length_toList, foldl_set_size]; omega
        · rw [putL_get _ _ _ (by omega)] at ht
          simp only [Array.getElem?_toList]
          rw [hg]
          by_cases hk : o ≤ k ∧ k < o + (flat t).length
          · rw [if_pos hk] at ht
            rw [if_pos (by omega)]
            obtain ⟨u, e1, e2⟩ := hf.get _ _ ht
            exact ⟨u, by simpa using e1, e2⟩
          · rw [if_neg hk] at ht
            rw [if_neg (by omega)]
            obtain ⟨u, e1, e2⟩ := ha.get _ _ ht
            exact ⟨u, by simpa using e1, e2⟩
      · cases h
theorem mapM_places {fs : Array Field} {w : World} (hf : ∀ f ∈ fs.toList, ∃ s, (sizeOf f.type).run P w = .ok s w) :
    ∃ pl : Array (Nat × Nat), (fs.mapM fun f => do pure (f.offset, ← sizeOf f.type) : Sem (Array (Nat × Nat))).run P w = .ok pl w ∧ pl.size = fs.size ∧ ∀ (j : Nat) (f : Field), fs[j]? = some f → ∀ s, (sizeOf f.type).run P w = .ok s w → pl[j]? = some (f.offset, s) := by
  obtain ⟨l⟩ := fs
  have key : ∀ l : List Field, (∀ f ∈ l, ∃ s, (sizeOf f.type).run P w = .ok s w) → ∃ pl : List (Nat × Nat), (l.mapM fun f => do pure (f.offset, ← sizeOf f.type) : Sem (List (Nat × Nat))).run P w = .ok pl w ∧ pl.length = l.length ∧ ∀ (j : Nat) (f : Field), l[j]? = some f → ∀ s, (sizeOf f.type).run P w = .ok s w → pl[j]? = some (f.offset, s) := by
    intro l
    induction l with
    | nil => exact fun _ => ⟨[], rfl, rfl, fun j f h => by simp at h⟩
    | cons f l ih =>
      intro h
      obtain ⟨s, hs⟩ := h f (List.mem_cons_self ..)
      obtain ⟨pl, h1, h2, h3⟩ := ih fun g hg => h g (List.mem_cons_of_mem _ hg)
      refine ⟨(f.offset, s) :: pl, ?_, by simp [h2], fun j g hj s' hs' => ?_⟩
      · simp only [List.mapM_cons, Sem.run_bind, hs, Result.andThen_ok, Sem.run_pure, h1]
      · cases j with
        | zero => simp at hj; subst hj; rw [hs] at hs'; injection hs' with e; subst e; rfl
        | succ j => simp at hj ⊢; exact h3 j g hj s' hs'
  obtain ⟨pl, h1, h2, h3⟩ := key l hf
  refine ⟨pl.toArray, ?_, by simpa using h2, fun j f hj s hs => by simpa using h3 j f (by simpa using hj) s hs⟩
  rw [Array.mapM_eq_mapM_toList, Sem.run_map, h1, Result.andThen_ok]
theorem fillT_places {pl pl' : Nat → Option (Nat × Nat)} : ∀ (ps : List (Nat × T)) (cs r : List T), (∀ i p, pl i = some p → pl' i = some p) → fillT pl cs ps = some r → fillT pl' cs ps = some r
  | [], _, _, _, h => h
  | (i, t) :: ps, cs, r, hp, h => by
    unfold fillT at h ⊢
    split at h
    · cases h
    · rename_i o s he
      rw [hp _ _ he]
      split at h
      · rename_i hc
        simp only [hc, and_self, if_true]
        exact fillT_places ps _ r hp h
      · cases h
theorem rep_zero (z : Array Value) : RepL M (z.toList.map T.v) z.toList := repL_v _
theorem mBuild_ok (hT : TabOk P tab) {t : TypeId} {ps : List (Nat × T)} {qs : List (Nat × Value)} {r : T} (hp : Pairs M ps qs) (h : mBuild tab t ps = some r) :
    ∃ u, (Instr.build t qs.toArray).run P M.w = .ok u M.w ∧ Rep M r u := by
  unfold mBuild at h
  split at h
  · cases h
  · rename_i i hi
    have hok := hT t i hi
    obtain ⟨z, hz1, hz2, hz3⟩ := hok.zero_ M.w
    obtain ⟨D, hD, hk⟩ := hok.kind
    have hz : RepL M i.zero z.cells.toList := hz2 ▸ rep_zero _
    split at h
    · rename_i fs hfs
      rw [hfs] at hk
      cases D <;> simp only [kdOk] at hk
      rename_i fields
      subst hk
      split at h
      · rename_i cs hcs
        injection h with h; subst h
        have hfl := hok.flds fields hD
        rw [List.all_eq_true] at hfl
        have hsz : ∀ f ∈ fields.toList, ∃ s, (sizeOf f.type).run P M.w = .ok s M.w := fun f hf => by
          have := hfl f hf
          rw [Option.isSome_iff_exists] at this
          obtain ⟨I, hI⟩ := this
          exact ⟨I.size, by simp [sizeOf, typeInfo, hI]⟩
        obtain ⟨pl, hp1, hp2, hp3⟩ := mapM_places hsz
        have hpl : ∀ i p, stPlace tab (fields.toList.map fun f => (f.offset, f.type)) i = some p → pl[i]? = some p := fun i p hi => by
          unfold stPlace at hi
          split at hi
          · cases hi
          · rename_i q hq
            split at hi
            · cases hi
            · rename_i j hj
              injection hi with hi; subst hi
              rw [List.getElem?_map, Option.map_eq_some_iff] at hq
              obtain ⟨f, hf, rfl⟩ := hq
              exact hp3 i f (by simpa using hf) _ ((hT _ j hj).size_ _)
        obtain ⟨b, h1, h2⟩ := fill_ok ps qs _ _ _ hz hp (fillT_places ps _ _ hpl hcs)
        refine ⟨.agg b, ?_, b.toList, by simp, h2⟩
        simp only [Instr.build, Sem.run_bind, hz1, Result.andThen_ok, run_underlying hD]
        rw [hp1]
        simp only [Result.andThen_ok, h1, Sem.run_pure]
      · cases h
    · rename_i n e hfs
      rw [hfs] at hk
      cases D <;> simp only [kdOk] at hk
      obtain ⟨rfl, rfl⟩ := hk
      split at h
      · rename_i j hj
        split at h
        · rename_i cs hcs
          injection h with h; subst h
          obtain ⟨b, h1, h2⟩ := fill_ok ps qs _ _ _ hz hp hcs
          refine ⟨.agg b, ?_, b.toList, by simp, h2⟩
          simp only [Instr.build, Sem.run_bind, hz1, Result.andThen_ok, run_underlying hD, (hT _ j hj).size_, h1, Sem.run_pure]
        · cases h
      · cases h
    · cases h
end
end
section
open Go.RowKit
section
variable {P : Program} {tab : Tab} {M : Mp}
theorem zeros_get (c : Nat) (z : List T) (k : Nat) : (zeros c z)[k]? = if k < c * z.length then z[k % z.length]? else none := by
  have key : ∀ (c k : Nat), (List.replicate c z).flatten[k]? = if k < c * z.length then z[k % z.length]? else none := by
    intro c
    induction c with
    | zero => intro k; simp
    | succ c ih =>
      intro k
      rw [List.replicate_succ, List.flatten_cons]
      by_cases h : k < z.length
      · rw [List.getElem?_append_left h, if_pos (by rw [Nat.succ_mul]; omega), Nat.mod_eq_of_lt h]
      · rw [List.getElem?_append_right (by omega), ih]
        have hm : (k - z.length) % z.length = k % z.length := (Nat.mod_eq_sub_mod (by omega)).symm
        rw [hm]
        by_cases h2 : k < (c + 1) * z.length
        · rw [if_pos h2, if_pos (by rw [Nat.succ_mul] at h2; omega)]
        · rw [if_neg h2, if_neg (by rw [Nat.succ_mul] at h2; omega)]
  unfold zeros
  split
  · rename_i x
    simp only [List.length_singleton, Nat.mul_one, Nat.mod_one, List.getElem?_replicate]
    split <;> rfl
  · exact key c k
theorem zeros_length (c : Nat) (z : List T) : (zeros c z).length = c * z.length := by
  unfold zeros
  split
  · simp
  · simp
theorem zeros_rep (c : Nat) (z : Array Value) : RepL M (zeros c (z.toList.map T.v)) ((Array.range (c * z.size)).map (z[· % z.size]!)).toList := by
  refine repL_of (by rw [zeros_length]; simp) fun k t ht => ?_
  rw [zeros_get] at ht
  simp only [List.length_map, Array.length_toList] at ht
  split at ht
  · rename_i hk
    have hz : 0 < z.size := by
      rcases Nat.eq_zero_or_pos z.size with h | h
      · rw [h] at hk; simp at hk
      · exact h
    have hlt : k % z.size < z.size := Nat.mod_lt _ hz
    rw [List.getElem?_map, Option.map_eq_some_iff] at ht
    obtain ⟨u, h1, rfl⟩ := ht
    refine ⟨u, ?_, rfl⟩
    rw [Array.getElem?_toList, Array.getElem?_map]
    rw [Array.getElem?_eq_getElem (by simpa using hk)]
    simp only [Array.getElem_range, Option.map_some]
    rw [getElem!_pos z _ hlt]
    rw [Array.getElem?_toList, Array.getElem?_eq_getElem hlt] at h1
    exact h1
  · cases ht
theorem range_none (f : Nat → Value) : (Array.range 0).map f = #[] := Array.eq_empty_of_size_eq_zero (by simp)
theorem fillT_length {place : Nat → Option (Nat × Nat)} : ∀ (ps : List (Nat × T)) (cs r : List T), fillT place cs ps = some r → r.length = cs.length
  | [], _, _, h => by simp only [fillT] at h; injection h with h; rw [h]
  | (i, t) :: ps, cs, r, h => by
    unfold fillT at h
    split at h
    · cases h
    · split at h
      · rename_i hc
        rw [fillT_length ps _ _ h, putL_length _ _ _ (by omega)]
      · cases h
def Makes (M : Mp) (nx : Nat) (x : Sem Value) (P : Program) (r : T) (e : Nat) (cs : List T) : Prop :=
  ∃ u a, x.run P M.w = .ok u { M.w with heap := M.w.heap.push (.cells a e) } ∧ RepA M cs a 0 ∧ ∀ M' : Mp, M'.β nx = some (some (M.w.heap.size, 0)) → M'.w.shape? M.w.heap.size = some (e, a.size) → Rep M' r u
theorem mBuildSlice_ok (hT : TabOk P tab) {nx t len : Nat} {ps : List (Nat × T)} {qs : List (Nat × Value)} {r : T} {nb : Option (Nat × List T)} (hp : Pairs M ps qs) (h : mBuildSlice tab nx t len ps = some (r, nb)) :
    ∃ e cs, nb = some (e, cs) ∧ Makes M nx (Instr.buildSlice t len qs.toArray) P r e cs := by
  unfold mBuildSlice at h
  split at h
  · cases h
  · rename_i i hi
    have hok := hT t i hi
    obtain ⟨D, hD, hk⟩ := hok.kind
    split at h
    · rename_i e he
      rw [he] at hk
      cases D <;> simp only [kdOk] at hk
      rename_i E
      subst hk
      split at h
      · rename_i j hj
        split at h
        · rename_i hle
          split at h
          · rename_i cs hcs
            injection h with h; injection h with h1 h2; subst h1 h2
            have hjok := hT _ j hj
            obtain ⟨z, hz1, hz2, hz3⟩ := hjok.zero_ M.w
            have hcl : cs.length = len * j.sz := by rw [fillT_length _ _ _ hcs, zeros_length, hjok.zlen]
            have hc : ¬ (len * j.sz > 2 ^ 24) := by omega
            have fin : ∀ b : Array Value, b.size = len * j.sz → ∀ M' : Mp, M'.β nx = some (some (M.w.heap.size, 0)) → M'.w.shape? M.w.heap.size = some (E, b.size) → Rep M' (.slc nx 0 len j.sz (some len)) (.slice (some ⟨M.w.heap.size, 0, none⟩) len len) := fun b hb M' h1 h2 =>
              .inr ⟨_, _, len, h1, by simp, Nat.le_refl _, by unfold maxLen; omega, fun q hq => by injection hq, E, b.size, h2, by omega⟩
            by_cases h0 : len * j.sz = 0
            · have hz0 : zeros len j.zero = [] := List.eq_nil_of_length_eq_zero (by rw [zeros_length, hjok.zlen]; exact h0)
              rw [hz0] at hcs
              obtain ⟨b, h1, h2⟩ := fill_ok ps qs _ #[] _ (show RepL M [] _ from rfl) hp hcs
              refine ⟨_, _, rfl, .slice (some ⟨M.w.heap.size, 0, none⟩) len len, b, ?_, h2.toArr, fin b (by have := h2.length; simp at this; omega)⟩
              simp [Instr.buildSlice, run_underlying hD, hjok.size_, h0, newRow, range_none, h1]
            · obtain ⟨b, h1, h2⟩ := fill_ok ps qs _ _ _ (show RepL M (zeros len j.zero) ((Array.range (len * j.sz)).map (z.cells[· % z.cells.size]!)).toList by rw [← hz2, ← hz3]; exact zeros_rep len z.cells) hp hcs
              refine ⟨_, _, rfl, .slice (some ⟨M.w.heap.size, 0, none⟩) len len, b, ?_, h2.toArr, fin b (by have := h2.length; simp at this; omega)⟩
              simp only [Instr.buildSlice, Sem.run_bind, run_underlying hD, Result.andThen_ok, hjok.size_, hc, h0, if_false, hz1, Sem.run_pure, h1, newRow, run_newObj]
          · cases h
        · cases h
      · cases h
    · cases h
theorem mMakeSlice_ok (hT : TabOk P tab) {nx t : Nat} {l c r : T} {ul uc : Value} {nb : Option (Nat × List T)} (hl : Rep M l ul) (hc : Rep M c uc) (h : mMakeSlice tab nx t l c = some (r, nb)) :
    ∃ e cs, nb = some (e, cs) ∧ Makes M nx (Instr.makeSlice t ul uc) P r e cs := by
  unfold mMakeSlice at h
  split at h
  · rename_i n m
    obtain rfl := hl; obtain rfl := hc
    split at h
    · cases h
    · rename_i i hi
      have hok := hT t i hi
      obtain ⟨D, hD, hk⟩ := hok.kind
      split at h
      · rename_i e he
        rw [he] at hk
        cases D <;> simp only [kdOk] at hk
        rename_i E
        subst hk
        split at h
        · rename_i j hj
          split at h
          · rename_i hle
            injection h with h; injection h with h1 h2; subst h1 h2
            have hjok := hT _ j hj
            obtain ⟨z, hz1, hz2, hz3⟩ := hjok.zero_ M.w
            obtain ⟨I, hI1, hI2⟩ := hjok.info_ M.w
            have hw1 : IntKind.i64.wrap n = n := IntWalk.i64_in _ (by omega)
            have hw2 : IntKind.i64.wrap m = m := IntWalk.i64_in _ (by omega)
            refine ⟨_, _, rfl, .slice (some ⟨M.w.heap.size, 0, none⟩) n.toNat m.toNat, (if m.toNat * j.sz = 0 then #[] else (Array.range (m.toNat * j.sz)).map (z.cells[· % z.cells.size]!)), ?_, ?_, fun M' h1 h2 => ?_⟩
            · by_cases h0 : m.toNat * j.sz = 0
              · simp only [Instr.makeSlice, Sem.run_bind, run_underlying hD, asInt, asIntOf, Result.andThen_ok, Sem.run_pure, hI1, hw1, hw2]
                rw [Sem.run_ite, if_neg (by rw [hI2]; simp; omega)]
                simp [hjok.size_, h0, newRow, range_none]
              · simp only [Instr.makeSlice, Sem.run_bind, run_underlying hD, asInt, asIntOf, Result.andThen_ok, Sem.run_pure, hI1, hw1, hw2]
                rw [Sem.run_ite, if_neg (by rw [hI2]; simp; omega)]
                simp [hjok.size_, h0, newRow, hz1]
            · by_cases h0 : m.toNat * j.sz = 0
              · have hz0 : zeros m.toNat j.zero = [] := List.eq_nil_of_length_eq_zero (by rw [zeros_length, hjok.zlen]; exact h0)
                rw [hz0]; trivial
              · rw [if_neg h0, ← hz2, ← hz3]; exact (zeros_rep (M := M) m.toNat z.cells).toArr
            · refine .inr ⟨_, _, m.toNat, h1, by simp, by omega, by unfold maxLen; omega, fun q hq => by injection hq, _, _, h2, ?_⟩
              split
              · omega
              · simp
          · cases h
        · cases h
      · cases h
  · cases h
end
end
section
open Go.RowKit
section
variable {P : Program} {tab : Tab} {M : Mp}
def Gives (M : Mp) (P : Program) (x : Sem Value) (r : T) : Prop := ∃ u, x.run P M.w = .ok u M.w ∧ Rep M r u
theorem mFieldAddr_ok (hT : TabOk P tab) {s f : Nat} {x r : T} {u : Value} (hx : Rep M x u) (h : mFieldAddr tab s x f = some r) : Gives M P (Instr.fieldAt s u f) r := by
  unfold mFieldAddr at h
  split at h
  · cases h
  · rename_i i hi
    obtain ⟨D, hD, hk⟩ := (hT s i hi).kind
    split at h
    · rename_i fs hfs
      rw [hfs] at hk
      cases D <;> simp only [kdOk] at hk
      rename_i fields
      subst hk
      split at h
      · cases h
      · rename_i p hp
        rw [List.getElem?_map, Option.map_eq_some_iff] at hp
        obtain ⟨fd, hfd, rfl⟩ := hp
        rw [Array.getElem?_toList] at hfd
        split at h
        · cases h
        · rename_i j hj
          have hsz := (hT _ j hj).size_ M.w
          split at h
          · cases h
          · rename_i hz
            have key : ∀ B o, (Instr.fieldAt s (.pointer (some ⟨B, o, none⟩)) f).run P M.w = .ok (.pointer (some ⟨B, o + fd.offset, none⟩)) M.w := by
              intro B o
              simp [Instr.fieldAt, run_underlying hD, hfd, Instr.sureAddr, fieldPlace, hsz, hz, add_at]
            split at h
            · injection h with h; subst h
              obtain ⟨B, O, h1, rfl⟩ := hx
              exact ⟨_, key _ _, B, O, h1, by rw [Nat.add_assoc]⟩
            · injection h with h; subst h
              obtain ⟨B, O, a, rfl, h1⟩ := hx
              exact ⟨_, key _ _, B, O, a, by rw [Nat.add_assoc], h1⟩
            · cases h
    · cases h
theorem part_ok {t : TypeId} {i : TyI} (h : TyOk P t i) {cs : List T} {us : List Value} {o : Nat} {r : T} (hr : RepL M cs us) (hp : partT i cs o = some r) : Gives M P (part t us.toArray o) r := by
  unfold partT at hp
  unfold part
  cases hk : i.k.agg with
  | true =>
    rw [hk] at hp
    simp only [if_true] at hp
    split at hp
    · injection hp with hp; subst hp
      have hlen := hr.length
      have hA : RepA M ((cs.drop o).take i.sz) us.toArray (0 + o) := hr.toA.sub fun j t ht => by
        rw [List.getElem?_take] at ht
        split at ht
        · simpa using ht
        · cases ht
      have hL := hA.toL
      have hl2 : ((cs.drop o).take i.sz).length = i.sz := by simp; omega
      rw [hl2, Nat.zero_add] at hL
      refine ⟨.agg (us.toArray.extract o (o + i.sz)), ?_, _, ?_, hL⟩
      · simp only [Sem.run_bind, h.agg_, hk, Result.andThen_ok, if_true, h.size_, Sem.run_pure]
      · congr 1
        apply Array.ext'
        simp [List.extract_eq_take_drop]
    · cases hp
  | false =>
    rw [hk] at hp
    simp only [Bool.false_eq_true, if_false] at hp
    obtain ⟨u, h1, h2⟩ := hr.get o r hp
    exact ⟨u, by simp [h.agg_, hk, h1], h2⟩
theorem mField_ok (hT : TabOk P tab) {s f : Nat} {x r : T} {u : Value} (hx : Rep M x u) (h : mField tab s x f = some r) : Gives M P (Instr.field s u f) r := by
  unfold mField at h
  split at h
  · rename_i i cs hi
    obtain ⟨us, rfl, hr⟩ := hx
    obtain ⟨D, hD, hk⟩ := (hT s i hi).kind
    split at h
    · rename_i fs hfs
      rw [hfs] at hk
      cases D <;> simp only [kdOk] at hk
      rename_i fields
      subst hk
      split at h
      · rename_i p hp
        rw [List.getElem?_map, Option.map_eq_some_iff] at hp
        obtain ⟨fd, hfd, rfl⟩ := hp
        rw [Array.getElem?_toList] at hfd
        split at h
        · rename_i j hj
          obtain ⟨v, h1, h2⟩ := part_ok (hT _ j hj) hr h
          exact ⟨v, by simp [Instr.field, run_underlying hD, hfd, asAgg, h1], h2⟩
        · cases h
      · cases h
    · cases h
  · cases h
theorem mIndex_ok (hT : TabOk P tab) {t : Nat} {x y r : T} {u v : Value} (hx : Rep M x u) (hy : Rep M y v) (h : mIndex tab t x y = some r) : Gives M P (Instr.index t u v) r := by
  unfold mIndex at h
  split at h
  · rename_i k n i hi
    obtain rfl := hy
    obtain ⟨D, hD, hk⟩ := (hT t i hi).kind
    split at h
    · rename_i l e cs hfs
      rw [hfs] at hk
      cases D <;> simp only [kdOk] at hk
      obtain ⟨rfl, rfl⟩ := hk
      obtain ⟨us, rfl, hr⟩ := hx
      split at h
      · rename_i j hj
        split at h
        · rename_i hb
          obtain ⟨w, h1, h2⟩ := part_ok (hT _ j hj) hr h
          refine ⟨w, ?_, h2⟩
          simp [Instr.index, run_underlying hD, asIntOf, hb, (hT _ j hj).size_, h1]
        · cases h
      · cases h
    · rename_i s hfs
      rw [hfs] at hk
      cases D <;> simp only [kdOk] at hk
      obtain rfl := hx
      split at h
      · rename_i hb
        split at h
        · rename_i b hs
          injection h with h; subst h
          refine ⟨_, ?_, rfl⟩
          simp [Instr.index, run_underlying hD, asIntOf, hb, hs]
        · cases h
      · cases h
    · cases h
  · cases h
theorem mIndexAddr_ok (hT : TabOk P tab) {t : Nat} {x y r : T} {u v : Value} (hx : Rep M x u) (hy : Rep M y v) (h : mIndexAddr tab t x y = some r) : Gives M P (Instr.indexAt t u v) r := by
  unfold mIndexAddr at h
  split at h
  · rename_i k n i hi
    obtain rfl := hy
    obtain ⟨D, hD, hk⟩ := (hT t i hi).kind
    split at h
    · rename_i e b o l z c hfs
      rw [hfs] at hk
      cases D <;> simp only [kdOk] at hk
      rename_i E
      subst hk
      rcases hx with ⟨-, h1, -⟩ | ⟨B, O, q, h1, rfl, h2⟩
      · split at h
        · split at h
          · omega
          · cases h
        · cases h
      split at h
      · rename_i j hj
        split at h
        · rename_i hb
          injection h with h; subst h
          refine ⟨.pointer (some ⟨B, O + (o + n.toNat * z), none⟩), ?_, B, O, h1, rfl⟩
          obtain ⟨rfl, hb⟩ := hb
          simp [Instr.indexAt, run_underlying hD, asIntOf, hb, (hT _ j hj).size_, add_at, Nat.add_assoc]
        · cases h
      · cases h
    · rename_i e cs l c hfs
      rw [hfs] at hk
      cases D <;> simp only [kdOk] at hk
      rename_i E
      subst hk
      obtain ⟨A, q, rfl, h2, h3, h4, h5⟩ := hx
      split at h
      · rename_i j hj
        split at h
        · rename_i hb
          injection h with h; subst h
          rcases h5 with ⟨-, h5⟩ | ⟨B, O, a, rfl, h6, h7⟩
          · omega
          · refine ⟨.pointer (some ⟨B, O + (n.toNat * j.sz), none⟩), ?_, B, O, a, rfl, h6, h7⟩
            simp [Instr.indexAt, run_underlying hD, asIntOf, hb, (hT _ j hj).size_, add_at]
        · cases h
      · cases h
    · rename_i l e b o hfs
      rw [hfs] at hk
      cases D <;> simp only [kdOk] at hk
      obtain ⟨rfl, rfl⟩ := hk
      obtain ⟨B, O, h1, rfl⟩ := hx
      split at h
      · rename_i j hj
        split at h
        · rename_i hb
          injection h with h; subst h
          refine ⟨.pointer (some ⟨B, O + (o + n.toNat * j.sz), none⟩), ?_, B, O, h1, rfl⟩
          simp [Instr.indexAt, run_underlying hD, asIntOf, hb, (hT _ j hj).size_, add_at, Nat.add_assoc, Instr.sureAddr]
        · cases h
      · cases h
    · rename_i l e cs o hfs
      rw [hfs] at hk
      cases D <;> simp only [kdOk] at hk
      obtain ⟨rfl, rfl⟩ := hk
      obtain ⟨B, O, a, rfl, h1⟩ := hx
      split at h
      · rename_i j hj
        split at h
        · rename_i hb
          injection h with h; subst h
          refine ⟨.pointer (some ⟨B, O + (o + n.toNat * j.sz), none⟩), ?_, B, O, a, rfl, h1⟩
          simp [Instr.indexAt, run_underlying hD, asIntOf, hb, (hT _ j hj).size_, add_at, Nat.add_assoc, Instr.sureAddr]
        · cases h
      · cases h
    · cases h
  · cases h
theorem mLen_ok (hT : TabOk P tab) {t : Nat} {x : T} {u : Value} {n : Int} {ty : TypeId} (hx : Rep M x u) (h : mLen tab t x = some n) : (Builtin.len_ #[t] ty #[u]).run P M.w = .ok (.int .i64 n) M.w := by
  unfold mLen at h
  split at h
  · cases h
  · rename_i i hi
    obtain ⟨D, hD, hk⟩ := (hT t i hi).kind
    split at h
    · rename_i s hfs
      rw [hfs] at hk
      cases D <;> simp only [kdOk] at hk
      obtain rfl := hx
      injection h with h; subst h
      simp [Builtin.len_, run_underlying hD, goInt]
    · rename_i l e hfs
      rw [hfs] at hk
      cases D <;> simp only [kdOk] at hk
      obtain ⟨rfl, rfl⟩ := hk
      injection h with h; subst h
      cases u <;> simp [Builtin.len_, run_underlying hD, goInt]
    · rename_i A n' c hfs
      rw [hfs] at hk
      cases D <;> simp only [kdOk] at hk
      obtain rfl := hx
      injection h with h; subst h
      simp [Builtin.len_, run_underlying hD, goInt]
    · rename_i b o n' z c hfs
      rw [hfs] at hk
      cases D <;> simp only [kdOk] at hk
      injection h with h; subst h
      rcases hx with ⟨-, h1, -, -, A, rfl⟩ | ⟨B, O, q, h1, rfl, h2⟩
      · subst h1; simp [Builtin.len_, run_underlying hD, goInt]
      simp [Builtin.len_, run_underlying hD, goInt]
    · rename_i cs n' c hfs
      rw [hfs] at hk
      cases D <;> simp only [kdOk] at hk
      obtain ⟨A, q, rfl, h2⟩ := hx
      injection h with h; subst h
      simp [Builtin.len_, run_underlying hD, goInt]
    · cases h
theorem mMin_ok {q : Bool} {ty : TypeId} {ats : Array TypeId} {ts : List T} {us : List Value} {n : Int} (hr : RepL M ts us) (h : mMins q ts = some n) :
    ((if q then Builtin.min_ ats ty us.toArray else Builtin.max_ ats ty us.toArray : Sem Value)).run P M.w = .ok (.int .i64 n) M.w := by
  have key : ∀ (ts : List T) (us : List Value) (x n : Int), RepL M ts us → mMin q x ts = some n → (us.foldlM (if q then Builtin.min2 else Builtin.max2) (.int .i64 x) : Sem Value).run P M.w = .ok (.int .i64 n) M.w := by
    intro ts
    induction ts with
    | nil => intro us x n hr h; obtain rfl := hr; simp only [mMin] at h; injection h with h; subst h; rfl
    | cons t ts ih =>
      intro us x n hr h
      obtain ⟨u, r, rfl, h1, h2⟩ := hr
      unfold mMin at h
      split at h
      · cases ‹t :: ts = []›
      · rename_i y r' he
        injection he with e1 e2; subst e1 e2
        obtain rfl := h1
        have := ih r _ n h2 h
        cases q <;> simpa [List.foldlM_cons, Builtin.min2, Builtin.max2] using this
      · cases h
  unfold mMins at h
  split at h
  · obtain ⟨u, r, rfl, h1, h2⟩ := hr
    obtain rfl := h1
    have := key _ _ _ _ h2 h
    cases q <;> simpa [Builtin.min_, Builtin.max_] using this
  · cases h
theorem mUn_ok {op : UnOp} {x r : T} {u : Value} (hx : Rep M x u) (h : mUn op x = some r) : Gives M P (Op.unary op u) r := by
  unfold mUn at h
  split at h
  · obtain rfl := hx; injection h with h; subst h; exact ⟨_, rfl, rfl⟩
  · obtain rfl := hx; injection h with h; subst h; exact ⟨_, rfl, rfl⟩
  · cases h
end
end
section
open Go.RowKit
section
variable {P : Program} {tab : Tab} {M : Mp}
theorem binInt_ok {op : BinOp} {k : IntKind} {x y : Int} {r : Value} {t : TypeId} {w : World} (h : binInt op k x y = some r) : (binOp op t (.int k x) (.int k y)).run P w = .ok r w := by
  cases op <;> simp only [binInt, bitV] at h <;> first
    | (cases h; done)
    | (injection h with h; subst h; simp [binOp, Op.intArith, Op.intCmp, Op.intBits]; done)
    | (split at h
       · cases h
       · rename_i hn; injection h with h; subst h; simp [binOp, Op.intDiv, hn])
theorem binStr_ok {op : BinOp} {x y : ByteArray} {r : Value} {t : TypeId} {w : World} (h : binStr op x y = some r) : (binOp op t (.string x) (.string y)).run P w = .ok r w := by
  cases op <;> simp only [binStr] at h <;> first
    | (cases h; done)
    | (injection h with h; subst h; simp [binOp, Op.stringOp]; done)
    | (split at h
       · rename_i hn; injection h with h; subst h
         have : ¬ (((x.size + y.size : Nat) : Int) > IntKind.i64.max) := by
           rw [show IntKind.i64.max = 9223372036854775807 from by decide]; omega
         simp only [binOp, Op.stringOp]
         rw [Sem.run_ite, if_neg this]; rfl
       · cases h)
theorem guard_easy {op : BinOp} {t : TypeId} {x y : Operand} {a b : Value} {w : World} (h : ∀ cs, a ≠ .agg cs) (h2 : a ≠ .nilIface) : (eqGuard op t x y a b).run P w = .ok () w := by
  unfold eqGuard
  cases op <;> (cases a <;> first | rfl | (exact absurd rfl (h _)) | (exact absurd rfl h2))
theorem eqSt_ok (hT : TabOk P tab) {d : Nat} : ∀ (fs : List Field) (n : Nat) (xs ys : List T) (us ws : Array Value) (q : Bool) (w : World), (∀ f ∈ fs, f.name ≠ "_") →
    RepA M xs us n → RepA M ys ws n → eqSt tab (fs.map fun f => (f.offset, f.type)) n xs ys = some q → (Op.eqFields (d + 1) us ws fs).run P w = .ok q w
  | [], n, xs, ys, us, ws, q, w, _, _, _, h => by
    simp only [List.map_nil] at h
    unfold eqSt at h
    split at h <;> first | (cases ‹[] = _ :: _›; done) | (cases h; done) | skip
    injection h with h; subst h; rfl
  | f :: fs, n, xs, ys, us, ws, q, w, hn, ha, hb, h => by
    have hne : f.name ≠ "_" := hn f (List.mem_cons_self ..)
    have fin : ∀ (x y : T) (xs ys : List T) (b q' : Bool) (u v : Value) (i : TyI), tab f.type = some i → i.k.agg = false → f.offset = n → us[n]? = some u → ws[n]? = some v → RepA M xs us (n + 1) → RepA M ys ws (n + 1) →
        (Op.equalIn (d + 1) f.type u v).run P w = .ok b w → eqSt tab (fs.map fun f => (f.offset, f.type)) (n + 1) xs ys = some q' → (Op.eqFields (d + 1) us ws (f :: fs)).run P w = .ok (b && q') w := by
      intro x y xs ys b q' u v i hi hagg h1 a1 b1 a3 b3 he hq
      have hok := hT _ i hi
      have p1 : (part f.type us f.offset).run P w = .ok u w := by simp [part, hok.agg_, hagg, h1, a1]
      have p2 : (part f.type ws f.offset).run P w = .ok v w := by simp [part, hok.agg_, hagg, h1, b1]
      have ih := eqSt_ok (d := d) hT fs (n + 1) xs ys us ws q' w (fun g hg => hn g (List.mem_cons_of_mem _ hg)) a3 b3 hq
      simp only [Op.eqFields, hne, ne_eq, not_false_eq_true, if_true, Sem.run_bind, p1, p2, Result.andThen_ok, he]
      cases b
      · simp
      · simp [ih]
    simp only [List.map_cons] at h
    unfold eqSt at h
    split at h
    · cases ‹_ :: _ = []›
    · rename_i o t fs' n' k a r k' b s e1
      injection e1 with e1 e2; injection e1 with e0 e1; subst e0 e1 e2
      obtain ⟨u, a1, a2, a3⟩ := ha; obtain ⟨v, b1, b2, b3⟩ := hb
      obtain rfl := a2; obtain rfl := b2
      split at h
      · rename_i hc
        obtain ⟨h1, rfl, h2⟩ := hc
        split at h
        · rename_i q' hq'
          injection h with h; subst h
          unfold tyInt at h2
          split at h2
          · rename_i i hi
            split at h2
            · rename_i k2 hk2
              obtain ⟨D, hD, hk⟩ := (hT _ i hi).kind
              rw [hk2] at hk
              cases D <;> simp only [kdOk] at hk
              exact fin (.v .nilIface) (.v .nilIface) _ _ _ _ _ _ i hi (by rw [hk2]; rfl) h1 a1 b1 a3 b3 (run_equalIn_int w d _ _ _ _ _ hD) hq'
            · cases h2
          · cases h2
        · cases h
      · cases h
    · rename_i o t fs' n' a r b s e1
      injection e1 with e1 e2; injection e1 with e0 e1; subst e0 e1 e2
      obtain ⟨u, a1, a2, a3⟩ := ha; obtain ⟨v, b1, b2, b3⟩ := hb
      obtain rfl := a2; obtain rfl := b2
      split at h
      · rename_i hc
        obtain ⟨h1, h2⟩ := hc
        split at h
        · rename_i q' hq'
          injection h with h; subst h
          unfold tyBool at h2
          split at h2
          · rename_i i hi
            split at h2
            · rename_i hk2
              obtain ⟨D, hD, hk⟩ := (hT _ i hi).kind
              rw [hk2] at hk
              cases D <;> simp only [kdOk] at hk
              exact fin (.v .nilIface) (.v .nilIface) _ _ _ _ _ _ i hi (by rw [hk2]; rfl) h1 a1 b1 a3 b3 (run_equalIn_bool' w d _ _ _ hD) hq'
            · cases h2
          · cases h2
        · cases h
      · cases h
    · rename_i o t fs' n' a r b s e1
      injection e1 with e1 e2; injection e1 with e0 e1; subst e0 e1 e2
      obtain ⟨u, a1, a2, a3⟩ := ha; obtain ⟨v, b1, b2, b3⟩ := hb
      obtain rfl := a2; obtain rfl := b2
      split at h
      · rename_i hc
        obtain ⟨h1, h2⟩ := hc
        split at h
        · rename_i q' hq'
          injection h with h; subst h
          unfold tyStr at h2
          split at h2
          · rename_i i hi
            split at h2
            · rename_i hk2
              obtain ⟨D, hD, hk⟩ := (hT _ i hi).kind
              rw [hk2] at hk
              cases D <;> simp only [kdOk] at hk
              exact fin (.v .nilIface) (.v .nilIface) _ _ _ _ _ _ i hi (by rw [hk2]; rfl) h1 a1 b1 a3 b3 (run_equalIn_string w d _ _ _ hD) hq'
            · cases h2
          · cases h2
        · cases h
      · cases h
    · cases h
theorem equalIn_slice {d : Nat} {t e : TypeId} {A : Addr} {n k a b : Nat} {w : World} (hD : P.underlying t = some (.slice e)) : (Op.equalIn (d + 1) t (.slice (some A) n k) (.slice none a b)).run P w = .ok false w := by
  simp [Op.equalIn, run_underlying hD]
theorem equalIn_none {d : Nat} {t e : TypeId} {n k a b : Nat} {w : World} (hD : P.underlying t = some (.slice e)) : (Op.equalIn (d + 1) t (.slice none n k) (.slice none a b)).run P w = .ok true w := by
  simp [Op.equalIn, run_underlying hD]
theorem equalIn_fn {d : Nat} {t : TypeId} {pa ra va : _} {f : _} {us ws : Array Value} {w : World} (hD : P.underlying t = some (.func pa ra va)) : (Op.equalIn (d + 1) t (.func f us ws) .nilFunc).run P w = .ok false w := by
  simp [Op.equalIn, run_underlying hD]
theorem equalIn_nilFn {d : Nat} {t : TypeId} {pa ra va : _} {w : World} (hD : P.underlying t = some (.func pa ra va)) : (Op.equalIn (d + 1) t .nilFunc .nilFunc).run P w = .ok true w := by
  simp [Op.equalIn, run_underlying hD]
theorem mEq_ok (hT : TabOk P tab) {t : Nat} {a b : T} {u v : Value} {q : Bool} {x y : Operand} {op : BinOp} (hop : op = .eql ∨ op = .neq) (ha : Rep M a u) (hb : Rep M b v) (h : mEq tab t a b = some q) :
    (eqGuard op t x y u v).run P M.w = .ok () M.w ∧ (binOp op t u v).run P M.w = .ok (.bool (if op = .eql then q else !q)) M.w := by
  have go : (Op.equal t u v).run P M.w = .ok q M.w → (∀ k n, u ≠ .int k n) → (∀ s, u ≠ .string s) → (∀ k n, u ≠ .float k n) → (∀ k n m, u ≠ .complex k n m) → (binOp op t u v).run P M.w = .ok (.bool (if op = .eql then q else !q)) M.w := by
    intro he h1 h2 h3 h4
    rcases hop with rfl | rfl <;> (cases u <;> cases v <;> first | (exact absurd rfl (h1 _ _)) | (exact absurd rfl (h2 _)) | (exact absurd rfl (h3 _ _)) | (exact absurd rfl (h4 _ _ _)) | simp [binOp, he])
  unfold mEq at h
  split at h
  · obtain rfl := ha; obtain rfl := hb
    split at h
    · rename_i i hi
      obtain ⟨D, hD, hk⟩ := (hT _ i hi).kind
      split at h
      · rename_i hk2
        rw [hk2] at hk
        cases D <;> simp only [kdOk] at hk
        injection h with h; subst h
        exact ⟨guard_easy (by simp) (by simp), go (run_equalIn_bool' _ 9999 _ _ _ hD) (by simp) (by simp) (by simp) (by simp)⟩
      · cases h
    · cases h
  · rename_i n c
    obtain rfl := hb
    split at h
    · rename_i i hi
      obtain ⟨D, hD, hk⟩ := (hT _ i hi).kind
      split at h
      · rename_i e hk2
        rw [hk2] at hk
        cases D <;> simp only [kdOk] at hk
        split at h
        case isFalse => cases h
        rename_i hpos
        injection h with h; subst h
        rcases ha with ⟨-, h1, -⟩ | ⟨B, O, k, h1, rfl, h2⟩
        · omega
        exact ⟨guard_easy (by simp) (by simp), go (equalIn_slice (d := 9999) hD) (by simp) (by simp) (by simp) (by simp)⟩
      · cases h
    · cases h
  · obtain ⟨A, k, rfl, h2, h3, h4, h5⟩ := ha; obtain rfl := hb
    rcases h5 with ⟨h5, -⟩ | ⟨B, O, a, rfl, h6, h7⟩
    · cases h5
    split at h
    · rename_i i hi
      obtain ⟨D, hD, hk⟩ := (hT _ i hi).kind
      split at h
      · rename_i e hk2
        rw [hk2] at hk
        cases D <;> simp only [kdOk] at hk
        injection h with h; subst h
        exact ⟨guard_easy (by simp) (by simp), go (equalIn_slice (d := 9999) hD) (by simp) (by simp) (by simp) (by simp)⟩
      · cases h
    · cases h
  · obtain rfl := ha; obtain rfl := hb
    split at h
    · rename_i i hi
      obtain ⟨D, hD, hk⟩ := (hT _ i hi).kind
      split at h
      · rename_i e hk2
        rw [hk2] at hk
        cases D <;> simp only [kdOk] at hk
        injection h with h; subst h
        exact ⟨guard_easy (by simp) (by simp), go (equalIn_none (d := 9999) hD) (by simp) (by simp) (by simp) (by simp)⟩
      · cases h
    · cases h
  · obtain rfl := ha; obtain rfl := hb
    split at h
    · rename_i i hi
      obtain ⟨D, hD, hk⟩ := (hT _ i hi).kind
      split at h
      · rename_i e hk2
        rw [hk2] at hk
        cases D <;> simp only [kdOk] at hk
        injection h with h; subst h
        exact ⟨guard_easy (by simp) (by simp), go (equalIn_slice (d := 9999) hD) (by simp) (by simp) (by simp) (by simp)⟩
      · cases h
    · cases h
  · rename_i xs ys
    obtain ⟨us, rfl, hr⟩ := ha; obtain ⟨ws, rfl, hs⟩ := hb
    split at h
    · rename_i i hi
      have hok := hT _ i hi
      split at h
      · rename_i fs hk2
        split at h
        · rename_i he
          obtain ⟨D, hD, hk⟩ := hok.kind
          rw [hk2] at hk
          cases D <;> simp only [kdOk] at hk
          rename_i fields
          subst hk
          obtain ⟨e1, e2, fs', e3, e4⟩ := hok.eq_ he
          obtain rfl : fields = fs' := by rw [hD] at e3; injection e3 with e3; injection e3
          have hfo : P.fieldsOf t = fields := by simp [Program.fieldsOf, hD]
          refine ⟨run_eqGuard_agg _ _ _ _ _ _ _ e2, go ?_ (by simp) (by simp) (by simp) (by simp)⟩
          have := run_equalIn_agg (P := P) M.w 9999 t us.toArray ws.toArray (by rw [hfo]; exact hD) e1
          rw [show Op.equal t = Op.equalIn (9999 + 1) t from rfl, this, hfo]
          exact eqSt_ok hT _ 0 xs ys _ _ _ _ e4 hr.toA hs.toA h
        · cases h
      · cases h
    · cases h
  · obtain ⟨us, ws, rfl, -, -⟩ := ha; obtain rfl := hb
    split at h
    · rename_i i hi
      obtain ⟨D, hD, hk⟩ := (hT _ i hi).kind
      split at h
      · rename_i hk2
        rw [hk2] at hk
        cases D <;> simp only [kdOk] at hk
        injection h with h; subst h
        exact ⟨guard_easy (by simp) (by simp), go (equalIn_fn (d := 9999) hD) (by simp) (by simp) (by simp) (by simp)⟩
      · cases h
    · cases h
  · obtain rfl := ha; obtain rfl := hb
    split at h
    · rename_i i hi
      obtain ⟨D, hD, hk⟩ := (hT _ i hi).kind
      split at h
      · rename_i hk2
        rw [hk2] at hk
        cases D <;> simp only [kdOk] at hk
        injection h with h; subst h
        exact ⟨guard_easy (by simp) (by simp), go (equalIn_nilFn (d := 9999) hD) (by simp) (by simp) (by simp) (by simp)⟩
      · cases h
    · cases h
  · cases h
theorem mBin_ok (hT : TabOk P tab) {op : BinOp} {t : Nat} {a b r : T} {u v : Value} {x y : Operand} (ha : Rep M a u) (hb : Rep M b v) (h : mBin tab op t a b = some r) :
    Gives M P (do eqGuard op t x y u v; binOp op t u v) r := by
  unfold mBin at h
  split at h
  · obtain rfl := ha; obtain rfl := hb
    split at h
    · cases h
    · rename_i hn; injection h with h; subst h
      exact ⟨_, by simp [eqGuard, binOp, Op.shift, hn], rfl⟩
  · obtain rfl := ha; obtain rfl := hb
    split at h
    · cases h
    · rename_i hn; injection h with h; subst h
      exact ⟨_, by simp [eqGuard, binOp, Op.shift, hn], rfl⟩
  · obtain rfl := ha; obtain rfl := hb
    split at h
    · rename_i hk; subst hk
      rw [Option.map_eq_some_iff] at h
      obtain ⟨z, h1, rfl⟩ := h
      exact ⟨z, by rw [Sem.run_bind, guard_easy (by simp) (by simp), Result.andThen_ok, binInt_ok h1], rfl⟩
    · cases h
  · obtain rfl := ha; obtain rfl := hb
    rw [Option.map_eq_some_iff] at h
    obtain ⟨z, h1, rfl⟩ := h
    exact ⟨z, by rw [Sem.run_bind, guard_easy (by simp) (by simp), Result.andThen_ok, binStr_ok h1], rfl⟩
  · split at h
    · rename_i q hq
      injection h with h; subst h
      obtain ⟨h1, h2⟩ := mEq_ok (x := x) (y := y) hT (.inl rfl) ha hb hq
      exact ⟨_, by rw [Sem.run_bind, h1, Result.andThen_ok, h2]; rfl, rfl⟩
    · cases h
  · split at h
    · rename_i q hq
      injection h with h; subst h
      obtain ⟨h1, h2⟩ := mEq_ok (x := x) (y := y) hT (.inr rfl) ha hb hq
      exact ⟨_, by rw [Sem.run_bind, h1, Result.andThen_ok, h2]; rfl, rfl⟩
    · cases h
  · cases h
end
end
section
open Go.RowKit
section
variable {P : Program} {tab : Tab} {M : Mp}
theorem bytesT_ok : ∀ (ts : List T) (us : List Value) (l : List UInt8), RepL M ts us → bytesT ts = some l → ∃ ns : List Int, us = ns.map (Value.int .u8) ∧ l = ns.map fun n => UInt8.ofNat n.toNat
  | [], us, l, hr, h => by obtain rfl := hr; simp only [bytesT] at h; injection h with h; exact ⟨[], rfl, h.symm⟩
  | t :: ts, us, l, ⟨u, r, hu, h1, h2⟩, h => by
    subst hu
    unfold bytesT at h
    split at h
    · cases ‹t :: ts = []›
    · rename_i n r' he
      injection he with e1 e2; subst e1 e2
      obtain rfl := h1
      split at h
      · rename_i l' hl'
        injection h with h
        obtain ⟨ns, rfl, rfl⟩ := bytesT_ok ts r l' h2 hl'
        exact ⟨n :: ns, rfl, h.symm⟩
      · cases h
    · cases h
theorem foldl_push : ∀ (ns : List Int) (b : ByteArray), ns.foldl (fun r n => r.push (UInt8.ofNat n.toNat)) b = ⟨b.data ++ (ns.map fun n => UInt8.ofNat n.toNat).toArray⟩
  | [], b => by simp
  | n :: ns, b => by
    rw [List.foldl_cons, foldl_push ns]
    simp [ByteArray.push]
theorem bytes_at {B O n k : Nat} {a : Array Value} {e : TypeId} {f : Nat × Nat} {cs : List T} {l : List UInt8} (hb : M.w.heap[B]? = some (.cells a e f)) (ha : RepA M cs a O) (hl : cs.length = n) (h : bytesT cs = some l) :
    (Conv.bytesToString (.slice (some ⟨B, O, none⟩) n k)).run P M.w = .ok (.string ⟨l.toArray⟩) M.w := by
  have hL := ha.toL
  have hlen := hL.length
  obtain ⟨ns, h1, h2⟩ := bytesT_ok _ _ _ hL h
  have hload := run_loadCells_list (P := P) M.w ⟨B, O, none⟩ ((a.toList.drop O).take cs.length) (fun j v hj => by
    rw [add_at, cell_at hb]
    rw [List.getElem?_take] at hj
    split at hj
    · simpa using hj
    · cases hj)
  rw [hlen, hl, ← hl, h1, hl] at hload
  rw [run_bytesToString M.w _ n k ns hload, foldl_push, ← h2, show ByteArray.empty.data = #[] from rfl, Array.empty_append]
theorem mConv_ok (hT : TabOk P tab) {look : Look} (hL : LookAt M look) {s d : Nat} {x r : T} {u : Value} (hx : Rep M x u) (h : mConv tab look s d x = some r) : Gives M P (convert s d u) r := by
  unfold mConv at h
  split at h
  · rename_i i j hi hj
    obtain ⟨D, hD, hk⟩ := (hT s i hi).kind
    obtain ⟨E, hE, hk'⟩ := (hT d j hj).kind
    split at h
    · rename_i k1 k2 k3 n h1 h2
      rw [h1] at hk; rw [h2] at hk'
      cases D <;> simp only [kdOk] at hk
      cases E <;> simp only [kdOk] at hk'
      subst hk'
      obtain rfl := hx
      injection h with h; subst h
      exact ⟨_, by simp [convert, run_underlying hD, run_underlying hE, Conv.intToInt], rfl⟩
    · rename_i b h1 h2
      rw [h1] at hk; rw [h2] at hk'
      cases D <;> simp only [kdOk] at hk
      cases E <;> simp only [kdOk] at hk'
      obtain rfl := hx
      injection h with h; subst h
      exact ⟨_, by simp [convert, run_underlying hD, run_underlying hE], rfl⟩
    · rename_i e A n h1 h2
      rw [h1] at hk; rw [h2] at hk'
      cases D <;> simp only [kdOk] at hk
      cases E <;> simp only [kdOk] at hk'
      subst hk
      obtain rfl := hx
      split at h
      · rename_i q hq
        obtain ⟨F, hF, hk2⟩ := (hT _ q hq).kind
        split at h
        · rename_i h3
          rw [h3] at hk2
          cases F <;> simp only [kdOk] at hk2
          subst hk2
          injection h with h; subst h
          exact ⟨_, by rw [run_convert_bytes_string _ _ _ _ _ _ _ hD hF hE]; rfl, rfl⟩
        · cases h
      · cases h
    · rename_i e b o n z c h1 h2
      rw [h1] at hk; rw [h2] at hk'
      cases D <;> simp only [kdOk] at hk
      cases E <;> simp only [kdOk] at hk'
      subst hk
      split at h
      · rename_i q hq
        obtain ⟨F, hF, hk2⟩ := (hT _ q hq).kind
        split at h
        · rename_i cs h3 hc
          rw [h3] at hk2
          cases F <;> simp only [kdOk] at hk2
          subst hk2
          split at h
          · rename_i hle
            split at h
            · rename_i l hl
              injection h with h; subst h
              rcases hx with ⟨-, g1, -, -, A, rfl⟩ | ⟨B, O, k, g1, rfl, g2⟩
              · subst g1
                refine ⟨_, ?_, rfl⟩
                rw [run_convert_bytes_string _ _ _ _ _ _ _ hD hF hE]
                simp only [List.take_zero, bytesT] at hl
                injection hl with hl; subst hl
                cases A with
                | none => rfl
                | some A => rw [run_bytesToString (P := P) M.w A 0 0 [] rfl]; rfl
              obtain ⟨a, e', fz, g3, g4⟩ := hL b B O cs g1 hc
              have hs : RepA M ((cs.drop o).take n) a (O + o) := g4.sub fun j t ht => by
                rw [List.getElem?_take] at ht
                split at ht
                · simpa using ht
                · cases ht
              exact ⟨_, by rw [run_convert_bytes_string _ _ _ _ _ _ _ hD hF hE]; exact bytes_at g3 hs (by simp; omega) hl, rfl⟩
            · cases h
          · cases h
        · cases h
      · cases h
    · rename_i e cs n c h1 h2
      rw [h1] at hk; rw [h2] at hk'
      cases D <;> simp only [kdOk] at hk
      cases E <;> simp only [kdOk] at hk'
      subst hk
      obtain ⟨A, k, rfl, g2, g3, g4, g5⟩ := hx
      split at h
      · rename_i q hq
        obtain ⟨F, hF, hk2⟩ := (hT _ q hq).kind
        split at h
        · rename_i h3
          rw [h3] at hk2
          cases F <;> simp only [kdOk] at hk2
          subst hk2
          split at h
          · rename_i hle
            split at h
            · rename_i l hl
              injection h with h; subst h
              refine ⟨_, ?_, rfl⟩
              rw [run_convert_bytes_string _ _ _ _ _ _ _ hD hF hE]
              rcases g5 with ⟨rfl, rfl⟩ | ⟨B, O, a, rfl, ⟨-, e', f', g6⟩, g7⟩
              · simp only [List.take_nil, bytesT] at hl
                injection hl with hl; subst hl
                cases A with
                | none => rfl
                | some A => rw [run_bytesToString (P := P) M.w A 0 k [] rfl]; rfl
              · have hs : RepA M (cs.take n) a (O + 0) := g7.sub fun j t ht => by
                  rw [List.getElem?_take] at ht
                  split at ht
                  · simpa using ht
                  · cases ht
                exact bytes_at g6 hs (by simp; omega) hl
            · cases h
          · cases h
        · cases h
      · cases h
    · cases h
  · cases h

/- cuts -/
def Bnd : Option Int → Option Value → Prop
  | none, v => v = none
  | some n, v => ∃ k, v = some (.int k n)
theorem optI_ok {ρ : EnvF} {ρ' : Operand → Value} {x : Option Operand} {l : Option Int} (hρ : ∀ y t, x = some y → ρ y = some t → Rep M t (ρ' y)) (h : optI x ρ = some l) : Bnd l (x.map ρ') := by
  cases x with
  | none => simp only [optI] at h; injection h with h; subst h; rfl
  | some y =>
    unfold optI at h
    simp only at h
    split at h
    · rename_i k n hy
      injection h with h; subst h
      have := hρ y _ rfl hy
      exact ⟨k, congrArg some this⟩
    · cases h
theorem bound_ok {k : IntKind} {i : Int} {y : Nat} {c : BoundsCode} {w : World} (h : 0 ≤ i ∧ i ≤ y) : (Instr.sliceBound (.int k i) y c).run P w = .ok i.toNat w := by
  simp [Instr.sliceBound, asIntOf, h]
theorem bounds_two {q : Bool} {len cap : Nat} {lo hi : Option Int} {vl vh : Option Value} {w : World} (hl : Bnd lo vl) (hh : Bnd hi vh) (hlc : len ≤ cap) (h : 0 ≤ lo.getD 0 ∧ lo.getD 0 ≤ hi.getD len ∧ hi.getD len ≤ cap) :
    (Instr.sliceBounds q len cap vl vh none).run P w = .ok ((lo.getD 0).toNat, (hi.getD len).toNat, cap) w := by
  obtain ⟨h1, h2, h3⟩ := h
  cases lo with
  | none =>
    obtain rfl := hl
    cases hi with
    | none => obtain rfl := hh; simp [Instr.sliceBounds]
    | some n =>
      obtain ⟨k, rfl⟩ := hh
      simp only [Option.getD_some, Option.getD_none] at h1 h2 h3
      simp [Instr.sliceBounds, bound_ok (P := P) (k := k) (c := if q = true then .sliceAcap else .sliceAlen) (w := w) (⟨h2, h3⟩ : 0 ≤ n ∧ n ≤ (cap : Int))]
  | some l =>
    obtain ⟨k1, rfl⟩ := hl
    cases hi with
    | none =>
      obtain rfl := hh
      simp only [Option.getD_some, Option.getD_none] at h1 h2 h3
      simp [Instr.sliceBounds, bound_ok (P := P) (k := k1) (c := .sliceB) (w := w) (⟨h1, h2⟩ : 0 ≤ l ∧ l ≤ (len : Int))]
    | some n =>
      obtain ⟨k, rfl⟩ := hh
      simp only [Option.getD_some] at h1 h2 h3
      have hn : ((n.toNat : Nat) : Int) = n := by omega
      simp [Instr.sliceBounds, bound_ok (P := P) (k := k) (c := if q = true then .sliceAcap else .sliceAlen) (w := w) (⟨by omega, h3⟩ : 0 ≤ n ∧ n ≤ (cap : Int)),
        bound_ok (P := P) (k := k1) (c := .sliceB) (w := w) (⟨h1, by omega⟩ : 0 ≤ l ∧ l ≤ (n.toNat : Int))]
theorem bounds_three {q : Bool} {len cap : Nat} {lo hi : Option Int} {m : Int} {vl vh : Option Value} {k3 : IntKind} {w : World} (hl : Bnd lo vl) (hh : Bnd hi vh) (hs : hi.isSome = true) (h : 0 ≤ lo.getD 0 ∧ lo.getD 0 ≤ hi.getD len ∧ hi.getD len ≤ m ∧ m ≤ cap) :
    (Instr.sliceBounds q len cap vl vh (some (.int k3 m))).run P w = .ok ((lo.getD 0).toNat, (hi.getD len).toNat, m.toNat) w := by
  obtain ⟨h1, h2, h3, h4⟩ := h
  cases hi with
  | none => cases hs
  | some n =>
    obtain ⟨k, rfl⟩ := hh
    simp only [Option.getD_some] at h1 h2 h3
    have b3 := bound_ok (P := P) (k := k3) (c := if q = true then .slice3Acap else .slice3Alen) (w := w) (⟨by omega, h4⟩ : 0 ≤ m ∧ m ≤ (cap : Int))
    have b2 := bound_ok (P := P) (k := k) (c := .slice3B) (w := w) (⟨by omega, by omega⟩ : 0 ≤ n ∧ n ≤ (m.toNat : Int))
    cases lo with
    | none => obtain rfl := hl; simp [Instr.sliceBounds, b3, b2]
    | some l =>
      obtain ⟨k1, rfl⟩ := hl
      simp only [Option.getD_some] at h1 h2
      simp [Instr.sliceBounds, b3, b2, bound_ok (P := P) (k := k1) (c := .slice3C) (w := w) (⟨h1, by omega⟩ : 0 ≤ l ∧ l ≤ (n.toNat : Int))]
theorem mSlice_ok (hT : TabOk P tab) {look : Look} (hL : LookAt M look) {t : Nat} {x r : T} {u : Value} {lo hi mx : Option Int} {vl vh vm : Option Value} (hx : Rep M x u) (h1 : Bnd lo vl) (h2 : Bnd hi vh) (h3 : Bnd mx vm) (h : mSlice tab look t x lo hi mx = some r) :
    Gives M P (Instr.sliceAt t u vl vh vm) r := by
  unfold mSlice at h
  split at h
  · cases h
  · rename_i i hi'
    obtain ⟨D, hD, hk⟩ := (hT t i hi').kind
    split at h
    · rename_i s hfs
      rw [hfs] at hk
      cases D <;> simp only [kdOk] at hk
      obtain rfl := hx
      split at h
      · cases h
      · rename_i hm
        simp only at h
        split at h
        · rename_i hb
          injection h with h; subst h
          cases mx with
          | some m => exact absurd rfl hm
          | none =>
            obtain rfl := h3
            have := bounds_two (P := P) (q := false) (w := M.w) (len := s.size) (cap := s.size) h1 h2 (Nat.le_refl _) hb
            exact ⟨_, by simp [Instr.sliceAt, Instr.slice, run_underlying hD, this], rfl⟩
        · cases h
    · rename_i e hfs
      rw [hfs] at hk
      cases D <;> simp only [kdOk] at hk
      rename_i E
      subst hk
      obtain rfl := hx
      split at h
      · cases h
      rename_i j hj
      split at h
      · rename_i hb
        injection h with h; subst h
        obtain ⟨b1, b2, b3, b4⟩ := hb
        refine ⟨.slice none 0 0, ?_, rfl⟩
        have hr : (Instr.sliceBounds true 0 0 vl vh vm).run P M.w = .ok (0, 0, 0) M.w := by
          cases mx with
          | none =>
            obtain rfl := h3
            have := bounds_two (P := P) (q := true) (w := M.w) (len := 0) (cap := 0) h1 h2 (Nat.le_refl _) (by simp only [Int.ofNat_zero]; omega)
            simp only [b2, b3] at this
            cases hi <;> cases lo <;> simp_all
          | some m =>
            obtain ⟨k3, rfl⟩ := h3
            have := bounds_three (P := P) (q := true) (w := M.w) (k3 := k3) (len := 0) (cap := 0) (m := m) h1 h2 (b4 rfl) (by simp only [Option.getD_some] at b1; simp only [Int.ofNat_zero]; omega)
            cases hi <;> cases lo <;> simp_all
        simp only [Instr.sliceAt, Sem.run_bind, run_underlying hD, Result.andThen_ok, Instr.slice, hr]
        simp [(hT _ j hj).size_]
      · cases h
    · rename_i e b o n z c hfs
      rw [hfs] at hk
      cases D <;> simp only [kdOk] at hk
      rename_i E
      subst hk
      split at h
      · cases h
      · rename_i j hj
        have hsz := (hT _ j hj).size_ M.w
        split at h
        · rename_i hz
          simp only at h
          rcases hx with ⟨g1, rfl, rfl, g4, A, rfl⟩ | ⟨B, O, k, g1, rfl, g2, g3, g4, e', s, g5, g6⟩
          · have key : (Instr.sliceBounds true 0 0 vl vh vm).run P M.w = .ok (0, 0, 0) M.w → (Instr.sliceAt t (.slice A 0 0) vl vh vm).run P M.w = .ok (.slice A 0 0) M.w := by
              intro hr
              simp only [Instr.sliceAt, Sem.run_bind, run_underlying hD, Result.andThen_ok, Instr.slice, hr, hsz, if_true, Nat.sub_self, Sem.run_pure]
            cases mx with
            | none =>
              obtain rfl := h3
              simp only at h
              split at h
              · rename_i hb
                have hr := bounds_two (P := P) (q := true) (w := M.w) (len := 0) (cap := 0) h1 h2 (Nat.le_refl _) ⟨hb.1, hb.2.1, hb.2.2⟩
                have e1 : lo.getD 0 = 0 := by omega
                have e2 : hi.getD ((0 : Nat) : Int) = 0 := by omega
                rw [e1, e2] at hr
                rw [e1, e2] at h
                simp only [true_or, if_true, Int.toNat_zero, Nat.zero_mul, Nat.add_zero, Int.sub_self] at h
                injection h with h; subst h
                refine ⟨_, key hr, .inl ⟨g1, rfl, rfl, fun q hq => ?_, A, rfl⟩⟩
                rw [Option.map_eq_some_iff] at hq
                obtain ⟨q', hq', rfl⟩ := hq
                rw [g4 q' hq']
              · cases h
            | some m =>
              obtain ⟨k3, rfl⟩ := h3
              simp only at h
              split at h
              · rename_i hb
                have hr := bounds_three (P := P) (q := true) (w := M.w) (k3 := k3) (len := 0) (cap := 0) (m := m) h1 h2 hb.1 ⟨hb.2.1, hb.2.2.1, hb.2.2.2.1, hb.2.2.2.2.1⟩
                have e1 : lo.getD 0 = 0 := by omega
                have e2 : hi.getD ((0 : Nat) : Int) = 0 := by omega
                have e3 : m = 0 := by omega
                subst e3
                rw [e1, e2] at hr
                rw [e1, e2] at h
                simp only [Int.toNat_zero, Nat.zero_mul, Nat.add_zero, Int.sub_self] at h
                injection h with h; subst h
                exact ⟨_, key hr, .inl ⟨g1, rfl, rfl, fun q hq => by injection hq with hq; exact hq.symm, A, rfl⟩⟩
              · cases h
          have key : ∀ (l h m : Nat), (Instr.sliceBounds true n k vl vh vm).run P M.w = .ok (l, h, m) M.w → (Instr.sliceAt t (.slice (some ⟨B, O + o, none⟩) n k) vl vh vm).run P M.w = .ok (.slice (if m = l then some ⟨B, O + o, none⟩ else some ⟨B, O + o + l * z, none⟩) (h - l) (m - l)) M.w := by
            intro l h m hr
            simp only [Instr.sliceAt, Sem.run_bind, run_underlying hD, Result.andThen_ok, Instr.slice, hr, hsz, hz, Option.map_some, add_at, Sem.run_pure]
          have hmul : ∀ l m : Nat, l ≤ m → m ≤ k → O + (o + l * z) + (m - l) * z ≤ s := fun l m h1 h2 => by
            have e1 : l * z + (m - l) * z = m * z := by rw [← Nat.add_mul]; congr 1; omega
            have e2 : m * z ≤ k * z := Nat.mul_le_mul_right z h2
            omega
          cases mx with
          | none =>
            obtain rfl := h3
            simp only at h
            split at h
            · rename_i hb
              have hr := key _ _ _ (bounds_two (P := P) (q := true) (w := M.w) (len := n) (cap := k) h1 h2 g2 ⟨hb.1, hb.2.1, by omega⟩)
              split at h
              · rename_i hl
                injection h with h; subst h
                refine ⟨_, hr, .inr ⟨B, O, k - (lo.getD 0).toNat, g1, ?_, by omega, by omega, fun q hq => ?_, e', s, g5, hmul _ _ (by omega) (Nat.le_refl _)⟩⟩
                · have e1 : (if k = (lo.getD 0).toNat then some (⟨B, O + o, none⟩ : Addr) else some ⟨B, O + o + (lo.getD 0).toNat * z, none⟩) = some ⟨B, O + (o + (lo.getD 0).toNat * z), none⟩ := by
                    split
                    · have : (lo.getD 0).toNat = 0 := by omega
                      rw [this]; simp
                    · rw [Nat.add_assoc]
                  rw [e1, show (hi.getD n - lo.getD 0).toNat = (hi.getD n).toNat - (lo.getD 0).toNat from by omega]
                · rw [Option.map_eq_some_iff] at hq
                  obtain ⟨q', hq', rfl⟩ := hq
                  rw [g4 q' hq']
              · injection h with h; subst h
                rw [show (hi.getD n).toNat - (lo.getD 0).toNat = 0 from by omega] at hr
                exact ⟨_, hr, _, _, rfl, by omega, by omega, fun q hq => (by cases hq), .inl ⟨rfl, rfl⟩⟩
            · cases h
          | some m =>
            obtain ⟨k3, rfl⟩ := h3
            simp only at h
            split at h
            · rename_i hb
              injection h with h; subst h
              have hr := key _ _ _ (bounds_three (P := P) (q := true) (w := M.w) (k3 := k3) (len := n) (cap := k) (m := m) h1 h2 hb.1 ⟨hb.2.1, hb.2.2.1, hb.2.2.2.1, by omega⟩)
              refine ⟨_, hr, .inr ⟨B, O, m.toNat - (lo.getD 0).toNat, g1, ?_, by omega, by omega, fun q hq => by injection hq with hq; omega, e', s, g5, hmul _ _ (by omega) (by omega)⟩⟩
              have e1 : (if m.toNat = (lo.getD 0).toNat then some (⟨B, O + o, none⟩ : Addr) else some ⟨B, O + o + (lo.getD 0).toNat * z, none⟩) = some ⟨B, O + (o + (lo.getD 0).toNat * z), none⟩ := by
                split
                · have : (lo.getD 0).toNat = 0 := by omega
                  rw [this]; simp
                · rw [Nat.add_assoc]
              rw [e1, show (hi.getD n - lo.getD 0).toNat = (hi.getD n).toNat - (lo.getD 0).toNat from by omega]
            · cases h
        · cases h
    · rename_i e cs n c hfs
      rw [hfs] at hk
      cases D <;> simp only [kdOk] at hk
      rename_i E
      subst hk
      obtain ⟨A, k, rfl, g2, g3, g4, g5⟩ := hx
      split at h
      · cases h
      · rename_i j hj
        have hsz := (hT _ j hj).size_ M.w
        simp only at h
        have key : ∀ (l h m : Nat), (Instr.sliceBounds true n k vl vh vm).run P M.w = .ok (l, h, m) M.w → (Instr.sliceAt t (.slice A n k) vl vh vm).run P M.w = .ok (.slice (if m = l then A else A.map (·.add (l * j.sz))) (h - l) (m - l)) M.w := by
          intro l h m hr
          simp only [Instr.sliceAt, Sem.run_bind, run_underlying hD, Result.andThen_ok, Instr.slice, hr, hsz, Sem.run_pure]
        have fin : ∀ l m : Nat, (l = 0 ∨ l < m) → l ≤ n → (cs.drop (l * j.sz) = [] ∧ n - l = 0 ∨ ∃ B O a, (if m = l then A else A.map (·.add (l * j.sz))) = some ⟨B, O, none⟩ ∧ M.imm B a ∧ RepA M (cs.drop (l * j.sz)) a O) := by
          intro l m hl hln
          rcases g5 with ⟨rfl, rfl⟩ | ⟨B, O, a, rfl, g6, g7⟩
          · exact .inl ⟨by simp, by omega⟩
          · refine .inr ⟨B, O + l * j.sz, a, ?_, g6, g7.sub fun i t ht => by simpa using ht⟩
            split
            · have : l = 0 := by omega
              rw [this]; simp
            · rw [Option.map_some, add_at]
        cases mx with
        | none =>
          obtain rfl := h3
          simp only at h
          split at h
          · rename_i hb
            have hr := key _ _ _ (bounds_two (P := P) (q := true) (w := M.w) (len := n) (cap := k) h1 h2 g2 ⟨hb.1, hb.2.1, by omega⟩)
            split at h
            · rename_i hl
              injection h with h; subst h
              rw [show (hi.getD n).toNat - (lo.getD 0).toNat = (hi.getD n - lo.getD 0).toNat from by omega] at hr
              refine ⟨_, hr, _, _, rfl, by omega, by omega, fun q hq => ?_, ?_⟩
              · rw [Option.map_eq_some_iff] at hq
                obtain ⟨q', hq', rfl⟩ := hq
                rw [g4 q' hq']
              · rcases fin (lo.getD 0).toNat k (by omega) (by omega) with ⟨f1, f2⟩ | f
                · exact .inl ⟨f1, by omega⟩
                · exact .inr f
            · injection h with h; subst h
              rw [show (hi.getD n).toNat - (lo.getD 0).toNat = 0 from by omega] at hr
              exact ⟨_, hr, _, _, rfl, by omega, by omega, fun q hq => (by cases hq), .inl ⟨rfl, rfl⟩⟩
          · cases h
        | some m =>
          obtain ⟨k3, rfl⟩ := h3
          simp only at h
          split at h
          · rename_i hb
            injection h with h; subst h
            have hr := key _ _ _ (bounds_three (P := P) (q := true) (w := M.w) (k3 := k3) (len := n) (cap := k) (m := m) h1 h2 hb.1 ⟨hb.2.1, hb.2.2.1, hb.2.2.2.1, by omega⟩)
            rw [show (hi.getD n).toNat - (lo.getD 0).toNat = (hi.getD n - lo.getD 0).toNat from by omega] at hr
            refine ⟨_, hr, _, _, rfl, by omega, by omega, fun q hq => by injection hq with hq; omega, ?_⟩
            rcases fin (lo.getD 0).toNat m.toNat (by omega) (by omega) with ⟨f1, f2⟩ | f
            · exact .inl ⟨f1, by omega⟩
            · exact .inr f
          · cases h
    · rename_i n0 e0 b o hfs
      rw [hfs] at hk
      cases D <;> simp only [kdOk] at hk
      rename_i n E
      obtain ⟨rfl, rfl⟩ := hk
      obtain ⟨B, O, g1, rfl⟩ := hx
      split at h
      · cases h
      · rename_i j hj
        have hsz := (hT _ j hj).size_ M.w
        split at h
        · cases h
        · rename_i cs hcs
          split at h
          · cases h
          · rename_i hm
            simp only at h
            split at h
            · rename_i hb
              injection h with h; subst h
              cases mx with
              | some m => exact absurd rfl hm
              | none =>
                obtain rfl := h3
                have hr := bounds_two (P := P) (q := false) (w := M.w) (len := n) (cap := n) h1 h2 (Nat.le_refl _) ⟨hb.1, hb.2.1, hb.2.2.1⟩
                obtain ⟨a, e', fz, g3, g4⟩ := hL b B O cs g1 hcs
                have hne : ¬ n = (lo.getD 0).toNat := by omega
                have hpos : ∀ q, q ≤ cs.length → 0 < q → O + q ≤ a.size := fun q hq h0 => by have := g4.size (by omega); omega
                have e1 : (lo.getD 0).toNat * j.sz + (n - (lo.getD 0).toNat) * j.sz = n * j.sz := by rw [← Nat.add_mul]; congr 1; omega
                refine ⟨.slice (some ⟨B, O + (o + (lo.getD 0).toNat * j.sz), none⟩) ((hi.getD n).toNat - (lo.getD 0).toNat) (n - (lo.getD 0).toNat), ?_, .inr ⟨B, O, n - (lo.getD 0).toNat, g1, ?_, by omega, by unfold maxLen; omega, fun q hq => by injection hq, e', a.size, by simp [World.shape?, g3], ?_⟩⟩
                · simp [Instr.sliceAt, run_underlying hD, Instr.sureAddr, hr, hsz, hne, add_at, Nat.add_assoc]
                · rw [show (hi.getD n - lo.getD 0).toNat = (hi.getD n).toNat - (lo.getD 0).toNat from by omega]
                · have hlt : (lo.getD 0).toNat < n := by omega
                  have h0 : 0 < (n - (lo.getD 0).toNat) * j.sz := Nat.mul_pos (by omega) hb.2.2.2.2.2.1
                  have := hpos (o + n * j.sz) hb.2.2.2.2.2.2 (by omega)
                  omega
            · cases h
    · cases h
/- maps that are looked at -/
theorem byt_beq {a b : ByteArray} : ((a == b) = true) = (a = b) := propext (by cases a; cases b; show ByteArray.beq _ _ = true ↔ _; simp [ByteArray.beq])
theorem like_eq {k : Kd} {x y : Value} {b : Bool} (h : likeK k x y = some b) : b = true ↔ x = y := by
  unfold likeK at h
  split at h
  · split at h
    · rename_i hk; subst hk; injection h with h; subst h; simp
    · cases h
  · injection h with h; subst h; rw [byt_beq]; simp
  · injection h with h; subst h; simp
  · cases h
theorem like_now {D : TypeDesc} {k : Kd} {x y : Value} {b : Bool} (hk : kdOk D k) (h : likeK k x y = some b) : Instr.sameNow D x y = some b := by
  unfold likeK at h
  split at h
  · cases D <;> simp only [kdOk] at hk
    exact h
  · cases D <;> simp only [kdOk] at hk
    exact h
  · cases D <;> simp only [kdOk] at hk
    exact h
  · cases h
theorem findNow_none {D : TypeDesc} {kv : Value} : ∀ {l : List MapEntry} {i : Nat}, (∀ e ∈ l, Instr.sameNow D kv e.key = some false) → Instr.findNow D kv l i = some none
  | [], i, _ => rfl
  | e :: l, i, h => by
    unfold Instr.findNow
    rw [h e List.mem_cons_self]
    exact findNow_none fun x hx => h x (List.mem_cons_of_mem _ hx)
theorem findNow_at {D : TypeDesc} {kv : Value} : ∀ {l : List MapEntry} {i j : Nat} {e : MapEntry}, (∀ x ∈ l, ∃ b, Instr.sameNow D kv x.key = some b ∧ (b = true ↔ kv = x.key)) → (l.map (·.key)).Nodup → l[j]? = some e → e.key = kv → Instr.findNow D kv l i = some (some (i + j, e.val))
  | [], i, j, e, _, _, h, _ => by simp at h
  | a :: l, i, 0, e, hl, hn, h, hk => by
    simp at h; subst h
    obtain ⟨b, h1, h2⟩ := hl a List.mem_cons_self
    obtain rfl : b = true := h2.2 hk.symm
    unfold Instr.findNow
    rw [h1]; rfl
  | a :: l, i, j + 1, e, hl, hn, h, hk => by
    obtain ⟨b, h1, h2⟩ := hl a List.mem_cons_self
    have hne : b = false := by
      cases b with
      | false => rfl
      | true =>
        have h3 : kv = a.key := h2.1 rfl
        rw [List.map_cons, List.nodup_cons] at hn
        have hm : e ∈ l := List.mem_of_getElem? (by simpa using h)
        exact absurd (List.mem_map.2 ⟨e, hm, hk.trans h3⟩) hn.1
    subst hne
    unfold Instr.findNow
    rw [h1]
    rw [List.map_cons, List.nodup_cons] at hn
    have := findNow_at (i := i + 1) (fun x hx => hl x (List.mem_cons_of_mem _ hx)) hn.2 (by simpa using h) hk
    show Instr.findNow D kv l (i + 1) = _
    rw [this]; congr 3; omega
theorem map_has {es : Array MapEntry} {n : Nat} {ks us : List Value} (h : mapIs es n ks us) {i : Nat} {kv uv : Value} (hk : ks[i]? = some kv) (hu : us[i]? = some uv) : ∃ (j : Nat) (e : MapEntry), es.toList[j]? = some e ∧ e.key = kv ∧ e.val = uv := by
  obtain ⟨⟨es', h1, rfl, rfl⟩, -⟩ := h
  rw [List.getElem?_map, Option.map_eq_some_iff] at hk hu
  obtain ⟨e, h2, h3⟩ := hk
  obtain ⟨e', h4, h5⟩ := hu
  rw [h2] at h4; injection h4 with h4; subst h4
  obtain ⟨j, hj⟩ := List.mem_iff_getElem?.1 (h1.mem_iff.1 (List.mem_of_getElem? h2))
  exact ⟨j, e, hj, h3, h5⟩
theorem map_keys {es : Array MapEntry} {n : Nat} {ks us : List Value} (h : mapIs es n ks us) : (es.toList.map (·.key)).Perm ks := by
  obtain ⟨⟨es', h1, rfl, rfl⟩, -⟩ := h
  exact (h1.map _).symm
theorem mFind_some {k : Kd} {kv : Value} {r : T} : ∀ {ks : List Value} {ts : List T}, mFind k kv ks ts = some r → ∃ i : Nat, ks[i]? = some kv ∧ ts[i]? = some r
  | [], _, h => by simp [mFind] at h
  | _ :: _, [], h => by simp [mFind] at h
  | x :: ks, t :: ts, h => by
    unfold mFind at h
    split at h
    · rename_i hl
      injection h with h; subst h
      exact ⟨0, by rw [(like_eq hl).1 rfl]; rfl, rfl⟩
    · obtain ⟨i, h1, h2⟩ := mFind_some h
      exact ⟨i + 1, by simpa using h1, by simpa using h2⟩
theorem mFind_none {k : Kd} {kv : Value} : ∀ {ks : List Value} {ts : List T}, ks.length = ts.length → mFind k kv ks ts = none → ∀ x ∈ ks, likeK k kv x ≠ some true
  | [], _, _, _, x, hx => by cases hx
  | _ :: _, [], hl, _, x, hx => by simp at hl
  | y :: ks, t :: ts, hl, h, x, hx => by
    unfold mFind at h
    split at h
    · cases h
    · rename_i hne
      rcases List.mem_cons.1 hx with rfl | hx
      · exact hne
      · exact mFind_none (by simpa using hl) h x hx
theorem find_ok {D : TypeDesc} {k : Kd} (hk : kdOk D k) {es : Array MapEntry} {n : Nat} {ks us : List Value} (h : mapIs es n ks us) {ts : List T} (hr : RepL M ts us) {kv : Value} (hl : (ks.all fun x => (likeK k kv x).isSome) = true) :
    match mFind k kv ks ts with
    | some r => ∃ j v, Instr.findNow D kv es.toList 0 = some (some (j, v)) ∧ Rep M r v
    | none => Instr.findNow D kv es.toList 0 = some none := by
  have hkeys := map_keys h
  have hall : ∀ x ∈ es.toList, ∃ b, likeK k kv x.key = some b := fun x hx => by
    have h1 : x.key ∈ ks := hkeys.mem_iff.1 (List.mem_map.2 ⟨x, hx, rfl⟩)
    have := List.all_eq_true.1 hl _ h1
    exact Option.isSome_iff_exists.1 this
  split
  · rename_i r hr'
    obtain ⟨i, h1, h2⟩ := mFind_some hr'
    obtain ⟨v, h3, h4⟩ := hr.get i r h2
    obtain ⟨j, e, h5, h6, h7⟩ := map_has h h1 h3
    refine ⟨0 + j, v, ?_, h4⟩
    rw [← h7]
    refine findNow_at (fun x hx => ?_) (hkeys.nodup_iff.2 h.2.1) h5 h6
    obtain ⟨b, hb⟩ := hall x hx
    exact ⟨b, like_now hk hb, like_eq hb⟩
  · rename_i hr'
    refine findNow_none fun x hx => ?_
    obtain ⟨b, hb⟩ := hall x hx
    have hlen : ks.length = ts.length := by
      obtain ⟨⟨es', h1, rfl, rfl⟩, -⟩ := h
      have := hr.length
      simp at this ⊢; omega
    have := mFind_none hlen hr' x.key (hkeys.mem_iff.1 (List.mem_map.2 ⟨x, hx, rfl⟩))
    cases b with
    | true => exact absurd hb this
    | false => exact like_now hk hb
theorem zeroT_ok {t : Nat} {i : TyI} (h : TyOk P t i) {r : T} (hz : zeroT i = some r) (w : World) : ∃ z, (zeroValue t).run P w = .ok z w ∧ Rep M r z := by
  obtain ⟨I, h1, h2, h3, z, h4, h5⟩ := h.info
  obtain ⟨I', z', g1, g2, g3⟩ := h.zagg
  rw [h1] at g1; injection g1 with g1; subst g1
  rw [h4] at g2; injection g2 with g2; subst g2
  refine ⟨z, by simp [zeroValue, typeInfo, h1, h4], ?_⟩
  unfold zeroT at hz
  split at hz
  · rename_i ha
    injection hz with hz; subst hz
    rw [ha] at g3
    cases z <;> simp [Value.isAggB] at g3
    rename_i cs
    rw [← h5]
    exact ⟨cs.toList, by simp, rep_zero cs⟩
  · rename_i ha
    split at hz
    · rename_i x hx
      injection hz with hz; subst hz
      rw [hx] at h5
      have ha : i.k.agg = false := by simpa using ha
      rw [ha] at g3
      have : z.cells = #[z] := by cases z <;> simp [Value.isAggB] at g3 <;> rfl
      rw [this] at h5
      simp at h5
      rw [← h5]; rfl
    · cases hz
theorem checkKey_run {D : TypeDesc} {k : Kd} (hk : kdOk D k) (hkd : keyKd k = true) {kt : Nat} (hD : P.underlying kt = some D) (b : Bool) (kv : Value) (w : World) : (Instr.checkKey b 10000 kt kv).run P w = .ok () w := by
  have key : ∀ m, (Instr.checkKey b (m + 1) kt kv).run P w = .ok () w := by
    intro m
    cases k <;> simp [keyKd] at hkd <;> cases D <;> simp only [kdOk] at hk <;> simp [Instr.checkKey, run_underlying hD]
  exact key 9999
theorem findKey_run {D : TypeDesc} {kt : Nat} (hD : P.underlying kt = some D) {kv : Value} {l : List MapEntry} {r : Option (Nat × Value)} (h : Instr.findNow D kv l 0 = some r) (w : World) : (Instr.findKey kt kv l).run P w = .ok r w := by
  simp [Instr.findKey, run_underlying hD, h]
theorem getObj_run {w : World} {r : Nat} {es : Array MapEntry} {n : Nat} (h : w.heap[r]? = some (.map es n)) : (getObj r).run P w = .ok (.map es n) w := by simp [getObj, Sem.run, h]
theorem look_ok (hT : TabOk P tab) {t : Nat} {ks us : List Value} {ts : List T} {kv : Value} {ok : Bool} {r : T} (h : mLook2 tab t ks ts kv ok = some r) {es : Array MapEntry} {n : Nat} (hm : mapIs es n ks us) (hr : RepL M ts us) {u : Value} (hu : (u = .map none ∧ es = #[]) ∨ ∃ B, u = .map (some B) ∧ M.w.heap[B]? = some (.map es n)) :
    Gives M P (Instr.lookup t u kv ok) r := by
  unfold mLook2 at h
  split at h
  · rename_i i hi
    obtain ⟨D, hD, hk⟩ := (hT t i hi).kind
    split at h
    · rename_i kt et hik
      rw [hik] at hk
      cases D <;> simp only [kdOk] at hk
      obtain ⟨rfl, rfl⟩ := hk
      rename_i kt et
      split at h
      · rename_i j z hj hz
        obtain ⟨Dk, hDk, hkk⟩ := (hT _ j hj).kind
        split at h
        · rename_i hc
          simp only [Bool.and_eq_true] at hc
          have hf := find_ok (M := M) hkk hm hr (kv := kv) hc.1
          have hck := fun b w => checkKey_run (P := P) hkk hc.2 hDk b kv w
          have key : ∀ (q : Option (Nat × Value)), Instr.findNow Dk kv es.toList 0 = some q → ∀ v okv, (match q with | some (_, v') => v = v' ∧ okv = true | none => okv = false ∧ (zeroValue et).run P M.w = .ok v M.w) →
              (Instr.lookup t u kv ok).run P M.w = .ok (if ok then .tuple #[v, .bool okv] else v) M.w := by
            intro q hq v okv hv
            have hfk := findKey_run (P := P) hDk hq M.w
            rcases hu with ⟨rfl, rfl⟩ | ⟨B, rfl, hB⟩
            · simp only [Instr.lookup, Sem.run_bind, run_underlying hD, Result.andThen_ok, Sem.run_pure, hck]
              rw [hfk]
              simp only [Result.andThen_ok]
              cases q with
              | none => obtain ⟨rfl, hz⟩ := hv; simp [hz]
              | some p => obtain ⟨j', v'⟩ := p; obtain ⟨rfl, rfl⟩ := hv; simp
            · simp only [Instr.lookup, Sem.run_bind, run_underlying hD, Result.andThen_ok, Sem.run_pure, hck, getObj_run hB]
              rw [hfk]
              simp only [Result.andThen_ok]
              cases q with
              | none => obtain ⟨rfl, hz⟩ := hv; simp [hz]
              | some p => obtain ⟨j', v'⟩ := p; obtain ⟨rfl, rfl⟩ := hv; simp
          split at h
          · rename_i r' hr'
            rw [hr'] at hf
            obtain ⟨j', v, h1, h2⟩ := hf
            injection h with h; subst h
            refine ⟨_, key _ h1 v true ⟨rfl, rfl⟩, ?_⟩
            cases ok
            · exact h2
            · exact ⟨[v, .bool true], rfl, v, [.bool true], rfl, h2, .bool true, [], rfl, rfl, rfl⟩
          · rename_i hr'
            rw [hr'] at hf
            split at h
            · rename_i r' hz'
              injection h with h; subst h
              obtain ⟨zv, h1, h2⟩ := zeroT_ok (M := M) (hT _ z hz) hz' M.w
              refine ⟨_, key _ hf zv false ⟨rfl, h1⟩, ?_⟩
              cases ok
              · exact h2
              · exact ⟨[zv, .bool false], rfl, zv, [.bool false], rfl, h2, .bool false, [], rfl, rfl, rfl⟩
            · cases h
        · cases h
      · cases h
    · cases h
  · cases h
theorem mLookup_ok (hT : TabOk P tab) {t : Nat} {a b r : T} {ok : Bool} {u v : Value} (ha : Rep M a u) (hb : Rep M b v) (h : mLookup tab t a b ok = some r) : Gives M P (Instr.lookup t u v ok) r := by
  unfold mLookup at h
  split at h
  · obtain rfl := hb
    obtain ⟨B, es, n, us, rfl, -, h2, h3, h4⟩ := ha
    exact look_ok hT h h3 h4 (.inr ⟨B, rfl, h2⟩)
  · obtain rfl := hb
    obtain rfl := ha
    exact look_ok hT (es := #[]) (n := 0) (us := []) h ⟨⟨[], by simp, rfl, rfl⟩, by simp, by simp, by simp⟩ rfl (.inl ⟨rfl, rfl⟩)
  · cases h
end
end
section
open Go.RowKit
section
variable {P : Program} {tab : Tab} {M : Mp}
theorem gives_value {x : Sem Value} {r : T} (h : Gives M P x r) : ∃ u, (do pure (Next.value (← x)) : Sem Next).run P M.w = .ok (.value u) M.w ∧ Rep M r u := by
  obtain ⟨u, h1, h2⟩ := h
  exact ⟨u, by simp [h1], h2⟩
theorem optL_ok {ρ : EnvF} {ρ' : Operand → Value} : ∀ (xs : List Operand) (ts : List T), (∀ x ∈ xs, ∀ t, ρ x = some t → Rep M t (ρ' x)) → optL ρ xs = some ts → RepL M ts (xs.map ρ')
  | [], ts, _, h => by simp only [optL] at h; injection h with h; subst h; rfl
  | x :: xs, ts, hρ, h => by
    unfold optL at h
    split at h
    · cases h
    · rename_i t ht
      split at h
      · cases h
      · rename_i ts' hts
        injection h with h; subst h
        exact ⟨_, _, rfl, hρ x (List.mem_cons_self ..) t ht, optL_ok xs ts' (fun y hy => hρ y (List.mem_cons_of_mem _ hy)) hts⟩
theorem optP_ok {ρ : EnvF} {ρ' : Operand → Value} : ∀ (xs : List (Nat × Operand)) (ts : List (Nat × T)), (∀ x ∈ xs, ∀ t, ρ x.2 = some t → Rep M t (ρ' x.2)) → optP ρ xs = some ts → Pairs M ts (xs.map fun (i, x) => (i, ρ' x))
  | [], ts, _, h => by simp only [optP] at h; injection h with h; subst h; rfl
  | (i, x) :: xs, ts, hρ, h => by
    unfold optP at h
    split at h
    · cases h
    · rename_i t ht
      split at h
      · cases h
      · rename_i ts' hts
        injection h with h; subst h
        exact ⟨_, _, rfl, rfl, hρ (i, x) (List.mem_cons_self ..) t ht, optP_ok xs ts' (fun y hy => hρ y (List.mem_cons_of_mem _ hy)) hts⟩
def Meek1 (M : Mp) (P : Program) (nx : Nat) (x : Sem Next) (t : T) : Option (Nat × List T) → Prop
  | none => ∃ u, x.run P M.w = .ok (.value u) M.w ∧ Rep M t u
  | some (e, cs) => ∃ u a, x.run P M.w = .ok (.value u) { M.w with heap := M.w.heap.push (.cells a e) } ∧ RepA M cs a 0 ∧ ∀ M' : Mp, M'.β nx = some (some (M.w.heap.size, 0)) → M'.w.shape? M.w.heap.size = some (e, a.size) → Rep M' t u
theorem makes_value {nx : Nat} {x : Sem Value} {r : T} {e : Nat} {cs : List T} (h : Makes M nx x P r e cs) : Meek1 M P nx (do pure (Next.value (← x)) : Sem Next) r (some (e, cs)) := by
  obtain ⟨u, a, h1, h2, h3⟩ := h
  exact ⟨u, a, by simp [h1], h2, h3⟩
theorem map_arr (xs : Array Operand) (f : Operand → Value) : (xs.toList.map f).toArray = xs.map f := by rw [← Array.toList_map, Array.toArray_toList]
theorem run_new (w : World) (cs : Array Value) (e : Nat) : (newRow e cs).run P w = .ok ⟨w.heap.size, 0, none⟩ { w with heap := w.heap.push (.cells cs e) } := by
  simp [newRow]
theorem opM_ok (hT : TabOk P tab) {look : Look} (hL : LookAt M look) {nx : Nat} {ρ : EnvF} {ρ' : Operand → Value} {o : Oper} {t : T} {nb : Option (Nat × List T)} (hρ : ∀ x ∈ o.op.operands.toList, ∀ t, ρ x = some t → Rep M t (ρ' x))
    (h : opM tab look nx ρ o.op = some (t, nb)) : Meek1 M P nx (execOp ρ' o) t nb := by
  obtain ⟨dst, op, ty, pos, after, guard⟩ := o
  simp only at hρ h
  unfold opM at h
  split at h
  · rename_i x
    split at h
    · rename_i s hs
      injection h with h; injection h with h1 h2; subst h1 h2
      exact ⟨_, rfl, hρ x (by simp [Op.operands]) _ hs⟩
    · cases h
  · rename_i x
    split at h
    · rename_i s hs
      injection h with h; injection h with h1 h2; subst h1 h2
      exact ⟨_, rfl, hρ x (by simp [Op.operands]) _ hs⟩
    · cases h
  · rename_i c a b
    split at h
    · rename_i q x y h1 h2 h3
      injection h with h; injection h with e1 e2; subst e1 e2
      have r1 := hρ c (by simp [Op.operands]) _ h1
      have r2 := hρ a (by simp [Op.operands]) _ h2
      have r3 := hρ b (by simp [Op.operands]) _ h3
      refine ⟨.bool (if q = true then x else y), ?_, rfl⟩
      have r1 : ρ' c = .bool q := r1
      have r2 : ρ' a = .bool x := r2
      have r3 : ρ' b = .bool y := r3
      cases q <;> simp [execOp, r1, r2, r3, asBool]
    · rename_i s _ h1 h2 h3
      injection h with h; injection h with e1 e2; subst e1 e2
      have r1 : ρ' c = .bool true := hρ c (by simp [Op.operands]) _ h1
      exact ⟨ρ' a, by simp [execOp, r1, asBool], hρ a (by simp [Op.operands]) _ h2⟩
    · rename_i s _ h1 h2 h3
      injection h with h; injection h with e1 e2; subst e1 e2
      have r1 : ρ' c = .bool false := hρ c (by simp [Op.operands]) _ h1
      exact ⟨ρ' b, by simp [execOp, r1, asBool], hρ b (by simp [Op.operands]) _ h2⟩
    · cases h
  · rename_i e
    split at h
    · rename_i i hi
      injection h with h; injection h with e1 e2; subst e1 e2
      obtain ⟨z, hz1, hz2, hz3⟩ := (hT e i hi).zero_ M.w
      refine ⟨.pointer (some ⟨M.w.heap.size, 0, none⟩), z.cells, ?_, ?_, fun M' h1 _ => ⟨_, _, h1, rfl⟩⟩
      · simp [execOp, Instr.alloc, hz1, newVar, run_new]
      · rw [← hz2]; exact (rep_zero z.cells).toArr
    · cases h
  · rename_i e x
    split at h
    · rename_i s hs
      injection h with h; injection h with e1 e2; subst e1 e2
      have hr := rep_flat (hρ x (by simp [Op.operands]) _ hs)
      exact ⟨.pointer (some ⟨M.w.heap.size, 0, none⟩), (ρ' x).cells, by simp [execOp, Instr.box, newVar, run_new], hr.toArr, fun M' h1 _ => ⟨_, _, h1, rfl⟩⟩
    · cases h
  · rename_i ty' ps
    split at h
    · rename_i l hl
      split at h
      · rename_i r hr
        injection h with h; injection h with e1 e2; subst e1 e2
        have := mBuild_ok hT (optP_ok _ _ (fun x hx => hρ x.2 (by simp [Op.operands]; exact ⟨x.1, by simpa using hx⟩)) hl) hr
        have e : ps.toList.map (fun (i, x) => (i, ρ' x)) = (ps.map fun (i, x) => (i, ρ' x)).toList := by simp
        rw [e, Array.toArray_toList] at this
        exact gives_value this
      · cases h
    · cases h
  · rename_i ty' len ps
    split at h
    · rename_i l hl
      have e : ps.toList.map (fun (i, x) => (i, ρ' x)) = (ps.map fun (i, x) => (i, ρ' x)).toList := by simp
      obtain ⟨e1, cs, rfl, h2⟩ := mBuildSlice_ok hT (optP_ok _ _ (fun x hx => hρ x.2 (by simp [Op.operands]; exact ⟨x.1, by simpa using hx⟩)) hl) h
      rw [e, Array.toArray_toList] at h2
      exact makes_value h2
    · cases h
  · rename_i ty' a
    split at h
    · rename_i s hs
      split at h
      · rename_i r hr
        injection h with h; injection h with e1 e2; subst e1 e2
        exact gives_value (mLoad_ok hT hL (hρ a (by simp [Op.operands]) _ hs) hr)
      · cases h
    · cases h
  · rename_i x
    split at h
    · rename_i b q hs
      injection h with h; injection h with e1 e2; subst e1 e2
      have hr := hρ x (by simp [Op.operands]) _ hs
      refine ⟨ρ' x, ?_, hr⟩
      obtain ⟨B, O, h1, h2⟩ := hr
      simp [execOp, h2]
    · rename_i cs q hs
      injection h with h; injection h with e1 e2; subst e1 e2
      have hr := hρ x (by simp [Op.operands]) _ hs
      refine ⟨ρ' x, ?_, hr⟩
      obtain ⟨B, O, a, h2, h1⟩ := hr
      simp [execOp, h2]
    · rename_i f asx bs hs
      injection h with h; injection h with e1 e2; subst e1 e2
      have hr := hρ x (by simp [Op.operands]) _ hs
      refine ⟨ρ' x, ?_, hr⟩
      obtain ⟨us, ws, h2, h1⟩ := hr
      simp [execOp, h2]
    · cases h
  · rename_i op' ty' x y ty2
    split at h
    · rename_i s s' h1 h2
      split at h
      · rename_i r hr
        injection h with h; injection h with e1 e2; subst e1 e2
        exact gives_value (mBin_ok (x := x) (y := y) hT (hρ x (by simp [Op.operands]) _ h1) (hρ y (by simp [Op.operands]) _ h2) hr)
      · cases h
    · cases h
  · rename_i op' ty' x
    split at h
    · rename_i s h1
      split at h
      · rename_i r hr
        injection h with h; injection h with e1 e2; subst e1 e2
        exact gives_value (mUn_ok (hρ x (by simp [Op.operands]) _ h1) hr)
      · cases h
    · cases h
  · rename_i sr ds x
    split at h
    · rename_i s h1
      split at h
      · rename_i r hr
        injection h with h; injection h with e1 e2; subst e1 e2
        exact gives_value (mConv_ok hT hL (hρ x (by simp [Op.operands]) _ h1) hr)
      · cases h
    · cases h
  · rename_i f fs cs
    split at h
    · rename_i a b h1 h2
      injection h with h; injection h with e1 e2; subst e1 e2
      have r1 := optL_ok _ _ (fun x hx => hρ x (by simp [Op.operands]; exact .inl (by simpa using hx))) h1
      have r2 := optL_ok _ _ (fun x hx => hρ x (by simp [Op.operands]; exact .inr (by simpa using hx))) h2
      refine ⟨.func (.func f) (fs.map ρ') (cs.map ρ'), by simp [execOp, Instr.makeFunc], _, _, ?_, r1, r2⟩
      rw [map_arr, map_arr]
    · cases h
  · rename_i ty' l c
    split at h
    · rename_i s s' h1 h2
      obtain ⟨e1, cs, rfl, h3⟩ := mMakeSlice_ok hT (hρ l (by simp [Op.operands]) _ h1) (hρ c (by simp [Op.operands]) _ h2) h
      exact makes_value h3
    · cases h
  · rename_i ty' x lo hi mx
    split at h
    · rename_i s l hh m h1 h2 h3 h4
      split at h
      · rename_i r hr
        injection h with h; injection h with e1 e2; subst e1 e2
        exact gives_value (mSlice_ok hT hL (hρ x (by simp [Op.operands]) _ h1)
          (optI_ok (ρ' := ρ') (fun y t hy ht => hρ y (by subst hy; simp [Op.operands]) t ht) h2)
          (optI_ok (ρ' := ρ') (fun y t hy ht => hρ y (by subst hy; simp [Op.operands]) t ht) h3)
          (optI_ok (ρ' := ρ') (fun y t hy ht => hρ y (by subst hy; simp [Op.operands]) t ht) h4) hr)
      · cases h
    · cases h
  · rename_i s' x f
    split at h
    · rename_i s h1
      split at h
      · rename_i r hr
        injection h with h; injection h with e1 e2; subst e1 e2
        exact gives_value (mFieldAddr_ok hT (hρ x (by simp [Op.operands]) _ h1) hr)
      · cases h
    · cases h
  · rename_i s' x f
    split at h
    · rename_i s h1
      split at h
      · rename_i r hr
        injection h with h; injection h with e1 e2; subst e1 e2
        exact gives_value (mField_ok hT (hρ x (by simp [Op.operands]) _ h1) hr)
      · cases h
    · cases h
  · rename_i ty' x y
    split at h
    · rename_i s s' h1 h2
      split at h
      · rename_i r hr
        injection h with h; injection h with e1 e2; subst e1 e2
        exact gives_value (mIndexAddr_ok hT (hρ x (by simp [Op.operands]) _ h1) (hρ y (by simp [Op.operands]) _ h2) hr)
      · cases h
    · cases h
  · rename_i ty' x y
    split at h
    · rename_i s s' h1 h2
      split at h
      · rename_i r hr
        injection h with h; injection h with e1 e2; subst e1 e2
        exact gives_value (mIndex_ok hT (hρ x (by simp [Op.operands]) _ h1) (hρ y (by simp [Op.operands]) _ h2) hr)
      · cases h
    · cases h
  · rename_i x i
    split at h
    · rename_i ts h1
      split at h
      · rename_i r hr
        injection h with h; injection h with e1 e2; subst e1 e2
        obtain ⟨us, h2, h3⟩ := hρ x (by simp [Op.operands]) _ h1
        obtain ⟨u, h4, h5⟩ := h3.get _ _ hr
        exact ⟨u, by simp [execOp, Instr.extract, h2, h4], h5⟩
      · cases h
    · cases h
  · rename_i args ats
    split at h
    · rename_i x ty' ha ht
      split at h
      · rename_i s h1
        split at h
        · rename_i n hn
          injection h with h; injection h with e1 e2; subst e1 e2
          obtain rfl : args = #[x] := by rw [← Array.toArray_toList (xs := args), ha]
          obtain rfl : ats = #[ty'] := by rw [← Array.toArray_toList (xs := ats), ht]
          have := mLen_ok (ty := ty) hT (hρ x (by simp [Op.operands, Call.operands]) _ h1) hn
          exact ⟨_, by simp [execOp, resolve, invoke, builtin, this], rfl⟩
        · cases h
      · cases h
    · cases h
  · rename_i args ats
    split at h
    · rename_i l hl
      split at h
      · rename_i n hn
        injection h with h; injection h with e1 e2; subst e1 e2
        have := mMin_ok (q := true) (ty := ty) (ats := ats) (P := P) (optL_ok (M := M) (ρ' := ρ') _ _ (fun x hx => hρ x (by simpa [Op.operands, Call.operands] using hx)) hl) hn
        simp only [if_true] at this
        rw [map_arr] at this
        exact ⟨_, by simp [execOp, resolve, invoke, builtin, this], rfl⟩
      · cases h
    · cases h
  · rename_i args ats
    split at h
    · rename_i l hl
      split at h
      · rename_i n hn
        injection h with h; injection h with e1 e2; subst e1 e2
        have := mMin_ok (q := false) (ty := ty) (ats := ats) (P := P) (optL_ok (M := M) (ρ' := ρ') _ _ (fun x hx => hρ x (by simpa [Op.operands, Call.operands] using hx)) hl) hn
        simp only [Bool.false_eq_true, if_false] at this
        rw [map_arr] at this
        exact ⟨_, by simp [execOp, resolve, invoke, builtin, this], rfl⟩
      · cases h
    · cases h
  · rename_i ty' x y okk
    split at h
    · rename_i s s' h1 h2
      split at h
      · rename_i r hr
        injection h with h; injection h with e1 e2; subst e1 e2
        exact gives_value (mLookup_ok hT (hρ x (by simp [Op.operands]) _ h1) (hρ y (by simp [Op.operands]) _ h2) hr)
      · cases h
    · cases h
  · cases h
end
end
section
open Go.RowKit
abbrev Env := List (Nat × T)
def Env.get : Env → Nat → Option T
  | [], _ => none
  | (k, x) :: r, t => if k = t then some x else Env.get r t
def Env.erase : Env → Nat → Env
  | [], _ => []
  | (k, x) :: r, t => if k = t then Env.erase r t else (k, x) :: Env.erase r t
def Env.put (E : Env) : Option Nat → T → Env
  | none, _ => E
  | some d, t => (d, t) :: E.erase d
def Env.opd (E : Env) : Operand → Option T
  | .tmp t => E.get t
  | .const x => some (T.ofV x)
  | .func f => some (.clo f [] [])
  | .global g => some (.v (.pointer (some ⟨g, 0, none⟩)))
theorem get_erase : ∀ (E : Env) (d t : Nat), (E.erase d).get t = if t = d then none else E.get t
  | [], d, t => by simp [Env.erase, Env.get]
  | (k, x) :: r, d, t => by
    unfold Env.erase
    split
    · rename_i h
      rw [get_erase r d t]
      subst h
      simp only [Env.get]
      split
      · rfl
      · rename_i h1; rw [if_neg (fun e => h1 e.symm)]
    · rename_i h
      simp only [Env.get]
      rw [get_erase r d t]
      split
      · rename_i h1; subst h1; rw [if_neg h]
      · rfl
theorem get_put (E : Env) (d t : Nat) (x : T) : (E.put (some d) x).get t = if t = d then some x else E.get t := by
  simp only [Env.put, Env.get, get_erase]
  by_cases h : d = t
  · subst h; simp
  · rw [if_neg h, if_neg (fun e => h e.symm), if_neg (fun e => h e.symm)]
structure OP where
  p : Mp → Obj → Prop
  st : ∀ {M M' : Mp} {o : Obj}, Stays M M' → p M o → p M' o
  /-- no number of the call's own in it -/
  pi : Bool
  sti : pi = true → ∀ {M M' : Mp} {o : Obj}, StaysI M M' → p M o → p M' o
inductive Blk where
  | c (cs : List T)
  | o (p : OP)
  | d
def Blk.cells : Blk → Option (List T)
  | .c cs => some cs
  | _ => none
theorem cells_some {x : Blk} {cs : List T} : x.cells = some cs ↔ x = .c cs := by cases x <;> simp [Blk.cells]
abbrev Hp := List Blk
def blkH : Hp → Nat → Blk
  | [], _ => .d
  | x :: _, 0 => x
  | _ :: r, b + 1 => blkH r b
def lookH : Hp → Nat → Option (List T)
  | [], _ => none
  | x :: _, 0 => x.cells
  | _ :: r, b + 1 => lookH r b
theorem lookH_blk : ∀ (H : Hp) (b : Nat), lookH H b = (blkH H b).cells
  | [], _ => rfl
  | _ :: _, 0 => rfl
  | _ :: r, b + 1 => lookH_blk r b
theorem lookH_c {H : Hp} {b : Nat} {cs : List T} : lookH H b = some cs ↔ blkH H b = .c cs := by rw [lookH_blk, cells_some]
def setH : Hp → Nat → Blk → Hp
  | [], _, _ => []
  | _ :: r, 0, v => v :: r
  | x :: r, b + 1, v => x :: setH r b v
theorem blkH_lt : ∀ {H : Hp} {b : Nat}, blkH H b ≠ .d → b < H.length
  | [], _, h => absurd rfl h
  | _ :: _, 0, _ => by simp
  | _ :: r, b + 1, h => by have := blkH_lt (H := r) h; simp; omega
theorem lookH_lt {H : Hp} {b : Nat} {cs : List T} (h : lookH H b = some cs) : b < H.length := blkH_lt (by rw [lookH_c.1 h]; simp)
theorem blkH_push : ∀ (H : Hp) (x : Blk) (b : Nat), blkH (H ++ [x]) b = if b = H.length then x else blkH H b
  | [], x, 0 => rfl
  | [], x, b + 1 => by simp [blkH]
  | y :: r, x, 0 => by simp [blkH]
  | y :: r, x, b + 1 => by simp only [List.cons_append, blkH, List.length_cons, blkH_push r x b]; simp
theorem blkH_set : ∀ (H : Hp) (c b : Nat) (v : Blk), c < H.length → blkH (setH H c v) b = if b = c then v else blkH H b
  | [], c, b, v, h => by simp at h
  | y :: r, 0, 0, v, h => rfl
  | y :: r, 0, b + 1, v, h => by simp [setH, blkH]
  | y :: r, c + 1, 0, v, h => by simp [setH, blkH]
  | y :: r, c + 1, b + 1, v, h => by simp only [setH, blkH, blkH_set r c b v (by simpa using h)]; simp
theorem setH_length : ∀ (H : Hp) (c : Nat) (v : Blk), (setH H c v).length = H.length
  | [], _, _ => rfl
  | _ :: _, 0, _ => rfl
  | _ :: r, c + 1, v => by simp [setH, setH_length r c v]
class Dr where
  on : Prop
  /-- the cells of variables that nobody writes -/
  gl : Nat → Option (Array Value)
abbrev strictD : Dr := ⟨True, fun _ => none⟩
def Tp [Dr] (w w' : World) : Prop := w'.tape = w.tape ∧ (Dr.on → w.drawn ≤ w'.drawn)
theorem Tp.refl [Dr] (w : World) : Tp w w := ⟨rfl, fun _ => Nat.le_refl _⟩
theorem Tp.trans [Dr] {a b c : World} (h : Tp b c) (k : Tp a b) : Tp a c := ⟨h.1.trans k.1, fun d => Nat.le_trans (k.2 d) (h.2 d)⟩
structure Evo [Dr] (X0 : Nat → Prop) (M M' : Mp) : Prop where
  at_ : ∀ b p, M.β b = some p → M'.β b = some p
  nox : ∀ B, B < M.w.heap.size → ¬ M.X B → ¬ M'.X B
  keep : ∀ B, B < M.w.heap.size → (¬ M.X B ∨ X0 B) → M'.w.heap[B]? = M.w.heap[B]?
  shape : ∀ B s, M.w.shape? B = some s → M'.w.shape? B = some s
  os : M'.w.os = M.w.os
  tape : Tp M.w M'.w
  output : M'.w.output = M.w.output
  size : M.w.heap.size ≤ M'.w.heap.size
theorem Evo.refl [Dr] (X0 : Nat → Prop) (M : Mp) : Evo X0 M M := ⟨fun _ _ h => h, fun _ _ h => h, fun _ _ _ => rfl, fun _ _ h => h, rfl, Tp.refl _, rfl, Nat.le_refl _⟩
theorem Evo.trans [Dr] {X0 : Nat → Prop} {a b c : Mp} (h : Evo X0 a b) (k : Evo X0 b c) : Evo X0 a c :=
  ⟨fun x p q => k.at_ x p (h.at_ x p q), fun B hB hx => k.nox B (Nat.lt_of_lt_of_le hB h.size) (h.nox B hB hx),
   fun B hB hx => (k.keep B (Nat.lt_of_lt_of_le hB h.size) (hx.imp (h.nox B hB) id)).trans (h.keep B hB hx),
   fun B s hs => k.shape B s (h.shape B s hs), k.os.trans h.os, k.tape.trans h.tape, k.output.trans h.output, Nat.le_trans h.size k.size⟩
def Glo [Dr] (M : Mp) : Prop := ∀ g a, Dr.gl g = some a → M.imm g a
theorem Glo.evo [Dr] {X0 : Nat → Prop} {M M' : Mp} (h : Evo X0 M M') (k : Glo M) : Glo M' := fun g a hg => by
  obtain ⟨h1, e, f, h2⟩ := k g a hg
  have hl := (Array.getElem?_eq_some_iff.1 h2).1
  exact ⟨h.nox g hl h1, e, f, by rw [h.keep g hl (.inl h1)]; exact h2⟩
theorem Glo.sub [Dr] {M M' : Mp} (k : Glo M) (hw : M'.w.heap = M.w.heap) (hx : ∀ B, M'.X B → M.X B) : Glo M' := fun g a hg => by
  obtain ⟨h1, e, f, h2⟩ := k g a hg
  exact ⟨fun h => h1 (hx g h), e, f, by rw [hw]; exact h2⟩
structure Sim [Dr] (blk : Nat → Blk) (D X0 : Nat → Prop) (M : Mp) : Prop where
  live : ∀ b cells, blk b = .c cells → D b → (M.β b = some none ∧ cells = []) ∨ ∃ B O a e fz, M.β b = some (some (B, O)) ∧ M.w.heap[B]? = some (.cells a e fz) ∧ (∀ j, j < a.size → ¬ (fz.1 ≤ j ∧ j < fz.2)) ∧ RepA M cells a O ∧ O ≤ a.size ∧ ¬ X0 B
  liveo : ∀ b p, blk b = .o p → D b → ∃ B o, M.β b = some (some (B, 0)) ∧ M.w.heap[B]? = some o ∧ (∀ a e fz, o ≠ .cells a e fz) ∧ p.p M o ∧ ¬ X0 B
  inj : ∀ b b' B O O', blk b ≠ .d → blk b' ≠ .d → M.β b = some (some (B, O)) → M.β b' = some (some (B, O')) → b = b'
  dom : ∀ b, ¬ D b → M.β b = none
  own : ∀ B, M.X B ↔ X0 B ∨ ∃ b O, blk b ≠ .d ∧ M.β b = some (some (B, O))
  bnd : ∀ B, M.X B → B < M.w.heap.size
  glo : Glo M
theorem heap_lt {w : World} {B : Nat} {o : Obj} (h : w.heap[B]? = some o) : B < w.heap.size := (Array.getElem?_eq_some_iff.1 h).1
theorem Evo.stays [Dr] {X0 : Nat → Prop} {M M' : Mp} (h : Evo X0 M M') : Stays M M' :=
  ⟨h.at_, fun B o hx hb _ => ⟨h.nox B (heap_lt hb) hx, by rw [h.keep B (heap_lt hb) (.inl hx)]; exact hb⟩, h.shape⟩
theorem Sim.look [Dr] {blk : Nat → Blk} {D X0 : Nat → Prop} {M : Mp} (h : Sim blk D X0 M) : LookAt M (fun b => (blk b).cells) := by
  intro b B O cells hb hc
  have hd : D b := Classical.byContradiction fun hn => by rw [h.dom b hn] at hb; cases hb
  rcases h.live b cells (cells_some.1 hc) hd with ⟨h1, -⟩ | ⟨B', O', a, e, fz, h1, h2, -, h3, -⟩
  · rw [hb] at h1; cases h1
  · rw [hb] at h1; injection h1 with h1; injection h1 with h1; injection h1 with e1 e2; subst e1 e2
    exact ⟨a, e, fz, h2, h3⟩

/- a new block -/
def newM (M : Mp) (nx : Nat) (w : World) : Mp := ⟨fun b => if b = nx then some (some (M.w.heap.size, 0)) else M.β b, fun B => M.X B ∨ B = M.w.heap.size, w⟩
theorem heap_push {w : World} {o : Obj} (B : Nat) : (w.heap.push o)[B]? = if B = w.heap.size then some o else w.heap[B]? := by
  rw [Array.getElem?_push]
theorem shape_of_heap {w : World} {B : Nat} {a : Array Value} {e : TypeId} {f : Nat × Nat} (h : w.heap[B]? = some (.cells a e f)) : w.shape? B = some (e, a.size) := by simp [World.shape?, h]
theorem shape_block {w w' : World} {B : Nat} (h : w'.heap[B]? = w.heap[B]?) : w'.shape? B = w.shape? B := by simp only [World.shape?, h]
theorem Sim.new [Dr] {blk : Nat → Blk} {D X0 : Nat → Prop} {M : Mp} (h : Sim blk D X0 M) {nx : Nat} (hn : ¬ D nx) {cs : List T} {a : Array Value} {e : TypeId} {fz : Nat × Nat} {w : World} (hw : w.heap = M.w.heap.push (.cells a e fz)) (ho : w.os = M.w.os) (ht : Tp M.w w) (hu : w.output = M.w.output)
    (hf : ∀ j, j < a.size → ¬ (fz.1 ≤ j ∧ j < fz.2)) (hc : RepA M cs a 0) :
    Evo X0 M (newM M nx w) ∧ Sim (fun b => if b = nx then .c cs else blk b) (fun b => D b ∨ b = nx) X0 (newM M nx w) ∧ (newM M nx w).w.shape? M.w.heap.size = some (e, a.size) := by
  have hnb : M.β nx = none := h.dom nx hn
  have hE : Evo X0 M (newM M nx w) := by
    refine ⟨fun b p hp => ?_, fun B hB hx => ?_, fun B hB _ => ?_, fun B s hs => ?_, ho, ht, hu, ?_⟩
    · show (if b = nx then _ else M.β b) = _
      rw [if_neg (fun e => by subst e; rw [hnb] at hp; cases hp)]; exact hp
    · show ¬ (M.X B ∨ B = M.w.heap.size)
      exact fun hh => hh.elim hx (by omega)
    · show w.heap[B]? = _
      rw [hw, heap_push, if_neg (by omega)]
    · rw [← hs]
      refine shape_block ?_
      show w.heap[B]? = _
      have : B < M.w.heap.size := by
        rcases Nat.lt_or_ge B M.w.heap.size with h1 | h1
        · exact h1
        · simp [World.shape?, Array.getElem?_eq_none h1] at hs
      rw [hw, heap_push, if_neg (by omega)]
    · show _ ≤ w.heap.size
      rw [hw]; simp
  have hnew : (newM M nx w).w.heap[M.w.heap.size]? = some (.cells a e fz) := by
    show w.heap[_]? = _
    rw [hw, heap_push, if_pos rfl]
  have hold : ∀ b p, M.β b = some p → b ≠ nx := fun b p hp e => by subst e; rw [hnb] at hp; cases hp
  have hβ : ∀ b, b ≠ nx → (newM M nx w).β b = M.β b := fun b hb => if_neg hb
  refine ⟨hE, ⟨fun b cells hb hd => ?_, fun b p hb hd => ?_, fun b b' B O O' h1 h2 h3 h4 => ?_, fun b hb => ?_, fun B => ?_, fun B hB => ?_, Glo.evo hE h.glo⟩, shape_of_heap hnew⟩
  · by_cases hbn : b = nx
    · subst hbn
      simp only [if_true] at hb
      injection hb with hb; subst hb
      refine .inr ⟨M.w.heap.size, 0, a, e, fz, by show (if _ then _ else _) = _; rw [if_pos rfl], hnew, hf, RepA.stays hE.stays _ _ _ hc, Nat.zero_le _, fun hx => ?_⟩
      have := h.bnd _ ((h.own _).2 (.inl hx)); omega
    · simp only [hbn, if_false] at hb
      have hd' : D b := hd.resolve_right hbn
      rcases h.live b cells hb hd' with ⟨h1, h2⟩ | ⟨B, O, a', e', fz', h1, h2, h3, h4, h5, h6⟩
      · exact .inl ⟨by rw [hβ b hbn]; exact h1, h2⟩
      · refine .inr ⟨B, O, a', e', fz', by rw [hβ b hbn]; exact h1, ?_, h3, RepA.stays hE.stays _ _ _ h4, h5, h6⟩
        show w.heap[B]? = _
        rw [hw, heap_push, if_neg (by have := heap_lt h2; omega)]; exact h2
  · by_cases hbn : b = nx
    · subst hbn; simp only [if_true] at hb; cases hb
    · simp only [hbn, if_false] at hb
      obtain ⟨B, o, h1, h2, h3, h4, h5⟩ := h.liveo b p hb (hd.resolve_right hbn)
      refine ⟨B, o, by rw [hβ b hbn]; exact h1, ?_, h3, p.st hE.stays h4, h5⟩
      show w.heap[B]? = _
      rw [hw, heap_push, if_neg (by have := heap_lt h2; omega)]; exact h2
  · have hlt : ∀ c p q, c ≠ nx → blk c ≠ .d → M.β c = some (some (p, q)) → p < M.w.heap.size := fun c p q _ hl hc => h.bnd p ((h.own p).2 (.inr ⟨c, q, hl, hc⟩))
    by_cases hb : b = nx <;> by_cases hb' : b' = nx
    · rw [hb, hb']
    · subst hb
      simp only [hb', if_false] at h2
      rw [hβ b' hb'] at h4
      have h3 : (if b = b then some (some (M.w.heap.size, 0)) else M.β b) = some (some (B, O)) := h3
      rw [if_pos rfl] at h3
      injection h3 with h3; injection h3 with h3; injection h3 with e1 e2
      have := hlt b' B O' hb' h2 h4; omega
    · subst hb'
      simp only [hb, if_false] at h1
      rw [hβ b hb] at h3
      have h4 : (if b' = b' then some (some (M.w.heap.size, 0)) else M.β b') = some (some (B, O')) := h4
      rw [if_pos rfl] at h4
      injection h4 with h4; injection h4 with h4; injection h4 with e1 e2
      have := hlt b B O hb h1 h3; omega
    · simp only [hb, hb', if_false] at h1 h2
      rw [hβ b hb] at h3; rw [hβ b' hb'] at h4
      exact h.inj b b' B O O' h1 h2 h3 h4
  · have hb' : b ≠ nx := fun e => hb (.inr e)
    rw [hβ b hb']
    exact h.dom b fun hd => hb (.inl hd)
  · show (M.X B ∨ B = M.w.heap.size) ↔ _
    constructor
    · rintro (hx | rfl)
      · rcases (h.own B).1 hx with h1 | ⟨b, O, h1, h2⟩
        · exact .inl h1
        · have hbn := hold b _ h2
          exact .inr ⟨b, O, by simp only [hbn, if_false]; exact h1, by rw [hβ b hbn]; exact h2⟩
      · exact .inr ⟨nx, 0, by simp, by show (if _ then _ else _) = _; rw [if_pos rfl]⟩
    · rintro (h1 | ⟨b, O, h1, h2⟩)
      · exact .inl ((h.own B).2 (.inl h1))
      · by_cases hbn : b = nx
        · subst hbn
          have h2 : (if b = b then some (some (M.w.heap.size, 0)) else M.β b) = some (some (B, O)) := h2
          rw [if_pos rfl] at h2
          injection h2 with h2; injection h2 with h2; injection h2 with e1 e2
          exact .inr e1.symm
        · simp only [hbn, if_false] at h1
          rw [hβ b hbn] at h2
          exact .inl ((h.own B).2 (.inr ⟨b, O, h1, h2⟩))
  · have hB : M.X B ∨ B = M.w.heap.size := hB
    show B < w.heap.size
    rw [hw, Array.size_push]
    rcases hB with hB | hB
    · have := h.bnd B hB; omega
    · omega
theorem Sim.congr [Dr] {blk blk' : Nat → Blk} {D D' X0 : Nat → Prop} {M : Mp} (h : Sim blk D X0 M) (hl : ∀ b, blk' b = blk b) (hd : ∀ b, D' b ↔ D b) : Sim blk' D' X0 M := by
  have e1 : blk' = blk := funext hl
  have e2 : D' = D := funext fun b => propext (hd b)
  subst e1 e2; exact h
abbrev SimH [Dr] (H : Hp) (X0 : Nat → Prop) (M : Mp) : Prop := Sim (blkH H) (· < H.length) X0 M
theorem SimH.look [Dr] {H : Hp} {X0 : Nat → Prop} {M : Mp} (h : SimH H X0 M) : LookAt M (lookH H) := fun b B O cells hb hc => Sim.look h b B O cells hb (by show (blkH H b).cells = _; rw [← lookH_blk]; exact hc)
theorem SimH.push [Dr] {H : Hp} {X0 : Nat → Prop} {M : Mp} {x : Blk} (h : Sim (fun b => if b = H.length then x else blkH H b) (fun b => b < H.length ∨ b = H.length) X0 M) : SimH (H ++ [x]) X0 M :=
  h.congr (fun b => blkH_push H x b) (fun b => by simp; omega)
end
section
open Go.RowKit
section
variable {P : Program} {tab : Tab}
theorem run_storeCells_any {B o : Nat} {e : TypeId} {fz : Nat × Nat} : ∀ (vs : List Value) (i : Nat) (cur : Array Value) (w : World), w.heap[B]? = some (.cells cur e fz) → (∀ j, j < cur.size → ¬ (fz.1 ≤ j ∧ j < fz.2)) → o + i + vs.length ≤ cur.size → (∀ v ∈ vs, v.oneCell' = true) →
    ∃ cur', (storeCells ⟨B, o, none⟩ vs i).run P w = .ok () (w.setRow B cur') ∧ cur'.size = cur.size ∧ ∀ k, cur'[k]? = if o + i ≤ k ∧ k < o + i + vs.length then vs[k - (o + i)]? else cur[k]?
  | [], i, cur, w, hg, hf, hl, h1 => ⟨cur, by rw [setRow_self w B cur e fz hg]; rfl, rfl, fun k => by rw [if_neg (by simp)]⟩
  | v :: vs, i, cur, w, hg, hf, hl, h1 => by
    have hi : o + i < cur.size := by simp at hl; omega
    have hcell : w.cell? ⟨B, o + i, none⟩ = some cur[o + i] := by rw [cell_at hg]; simp [hi]
    have hfro : w.frozen? ⟨B, o + i, none⟩ = false := by
      have := hf (o + i) hi
      simp only [World.frozen?, hg]
      simpa using this
    have hst : (store ((⟨B, o, none⟩ : Addr).add i) v).run P w = .ok () (w.setRow B (cur.setIfInBounds (o + i) v)) := by
      rw [add_at, run_store P w _ v _ (h1 v (by simp)), hcell]
      simp [hfro, setCell_eq_setRow w B (o + i) cur e fz v hg]
    obtain ⟨cur', h2, h3, h4⟩ := run_storeCells_any (o := o) vs (i + 1) (cur.setIfInBounds (o + i) v) (w.setRow B (cur.setIfInBounds (o + i) v)) (setRow_heap w B cur _ e _ hg) (by simpa using hf) (by simp at hl ⊢; omega) (fun x hx => h1 x (by simp [hx]))
    refine ⟨cur', ?_, by simpa using h3, fun k => ?_⟩
    · simp only [storeCells, Sem.run_bind, hst, Result.andThen_ok, h2, setRow_setRow]
    · rw [h4]
      simp only [List.length_cons] at hl ⊢
      by_cases h5 : o + (i + 1) ≤ k ∧ k < o + (i + 1) + vs.length
      · rw [if_pos h5, if_pos (by omega), show k - (o + i) = (k - (o + (i + 1))) + 1 from by omega]; rfl
      · rw [if_neg h5]
        by_cases h6 : k = o + i
        · subst h6
          rw [if_pos (by omega), Nat.sub_self]
          simp [hi]
        · rw [if_neg (by omega), Array.getElem?_setIfInBounds_ne (by omega)]

/- the state behind a write -/
def atW (M : Mp) (w : World) : Mp := ⟨M.β, M.X, w⟩
def updL (blk : Nat → Blk) (b : Nat) (v : Blk) : Nat → Blk := fun c => if c = b then v else blk c
theorem Sim.D_of [Dr] {blk : Nat → Blk} {D X0 : Nat → Prop} {M : Mp} (h : Sim blk D X0 M) {b : Nat} {p : Option (Nat × Nat)} (hb : M.β b = some p) : D b :=
  Classical.byContradiction fun hn => by rw [h.dom b hn] at hb; cases hb
theorem Sim.block [Dr] {blk : Nat → Blk} {D X0 : Nat → Prop} {M : Mp} (h : Sim blk D X0 M) {b B O : Nat} {cs : List T} (hb : M.β b = some (some (B, O))) (hc : blk b = .c cs) :
    ∃ a e fz, M.w.heap[B]? = some (.cells a e fz) ∧ (∀ j, j < a.size → ¬ (fz.1 ≤ j ∧ j < fz.2)) ∧ RepA M cs a O ∧ O ≤ a.size ∧ ¬ X0 B := by
  rcases h.live b cs hc (h.D_of hb) with ⟨h1, -⟩ | ⟨B', O', a, e, fz, h1, h2⟩
  · rw [hb] at h1; cases h1
  · rw [hb] at h1; injection h1 with h1; injection h1 with h1; injection h1 with e1 e2; subst e1 e2
    exact ⟨a, e, fz, h2⟩
theorem Sim.write [Dr] {blk : Nat → Blk} {D X0 : Nat → Prop} {M : Mp} (h : Sim blk D X0 M) {b B O : Nat} {cs cs' : List T} {a a' : Array Value} {e : TypeId} {fz : Nat × Nat} (hb : M.β b = some (some (B, O))) (hc : blk b = .c cs)
    (hg : M.w.heap[B]? = some (.cells a e fz)) (hs : a'.size = a.size) (hr : RepA M cs' a' O) :
    Evo X0 M (atW M (M.w.setRow B a')) ∧ Sim (updL blk b (.c cs')) D X0 (atW M (M.w.setRow B a')) := by
  obtain ⟨a0, e0, fz0, g1, g2, g3, g4, g5⟩ := h.block hb hc
  rw [hg] at g1; injection g1 with g1; injection g1 with e1 e2 e3; subst e1 e2 e3
  have hX : M.X B := (h.own B).2 (.inr ⟨b, O, by rw [hc]; simp, hb⟩)
  have hE : Evo X0 M (atW M (M.w.setRow B a')) := by
    refine ⟨fun _ _ hp => hp, fun _ _ hx => hx, fun C hC hx => ?_, fun C s hC => ?_, rfl, ⟨rfl, fun _ => Nat.le_refl _⟩, rfl, by simp [atW]⟩
    · exact setRow_other _ _ _ _ fun e => by subst e; rcases hx with hx | hx; exact hx hX; exact g5 hx
    · by_cases hCB : C = B
      · subst hCB
        rw [shape_of_heap hg] at hC
        rw [← hC]
        show World.shape? (M.w.setRow C a') C = _
        rw [shape_of_heap (setRow_heap M.w C a a' e fz hg), hs]
      · rw [← hC]; exact shape_block (setRow_other _ _ _ _ hCB)
  have hl : ∀ c, updL blk b (.c cs') c ≠ .d ↔ blk c ≠ .d := fun c => by
    unfold updL
    by_cases hcb : c = b
    · subst hcb; rw [hc]; simp
    · rw [if_neg hcb]
  have other : ∀ c C Q, c ≠ b → blk c ≠ .d → M.β c = some (some (C, Q)) → C ≠ B := fun c C Q hcb hl hk e => by
    subst e
    exact hcb (h.inj c b C Q O hl (by rw [hc]; simp) hk hb)
  refine ⟨hE, fun c cells hv hd => ?_, fun c p hv hd => ?_, fun c c' C Q Q' h1 h2 h3 h4 => h.inj c c' C Q Q' ((hl c).1 h1) ((hl c').1 h2) h3 h4, h.dom, fun C => ?_, fun C hC => by simpa [atW] using h.bnd C hC, Glo.evo hE h.glo⟩
  · unfold updL at hv
    by_cases hcb : c = b
    · subst hcb
      rw [if_pos rfl] at hv; injection hv with hv; subst hv
      exact .inr ⟨B, O, a', e, fz, hb, setRow_heap _ _ _ _ _ _ hg, by rw [hs]; exact g2, RepA.stays hE.stays _ _ _ hr, by rw [hs]; exact g4, g5⟩
    · rw [if_neg hcb] at hv
      rcases h.live c cells hv hd with ⟨k1, k2⟩ | ⟨C, Q, a2, e2, f2, k1, k2, k3, k4, k5, k6⟩
      · exact .inl ⟨k1, k2⟩
      · have hCB := other c C Q hcb (by rw [hv]; simp) k1
        exact .inr ⟨C, Q, a2, e2, f2, k1, by show (M.w.setRow B a').heap[C]? = _; rw [setRow_other _ _ _ _ hCB]; exact k2, k3, RepA.stays hE.stays _ _ _ k4, k5, k6⟩
  · have hcb : c ≠ b := fun e => by unfold updL at hv; rw [if_pos e] at hv; cases hv
    unfold updL at hv
    rw [if_neg hcb] at hv
    obtain ⟨C, o, k1, k2, k3, k4, k5⟩ := h.liveo c p hv hd
    have hCB := other c C 0 hcb (by rw [hv]; simp) k1
    exact ⟨C, o, k1, by show (M.w.setRow B a').heap[C]? = _; rw [setRow_other _ _ _ _ hCB]; exact k2, k3, p.st hE.stays k4, k5⟩
  · rw [show (atW M (M.w.setRow B a')).X C = M.X C from rfl, h.own C]
    constructor
    · rintro (k | ⟨c, Q, k1, k2⟩)
      · exact .inl k
      · exact .inr ⟨c, Q, (hl c).2 k1, k2⟩
    · rintro (k | ⟨c, Q, k1, k2⟩)
      · exact .inl k
      · exact .inr ⟨c, Q, (hl c).1 k1, k2⟩
theorem Sim.writeo [Dr] {blk : Nat → Blk} {D X0 : Nat → Prop} {M : Mp} (h : Sim blk D X0 M) {b B : Nat} {p p' : OP} {o o' : Obj} {w' : World} (hb : M.β b = some (some (B, 0))) (hc : blk b = .o p) (hX0 : ¬ X0 B) (hold : M.w.heap[B]? = some o) (hno : ∀ a e fz, o ≠ .cells a e fz)
    (hw : w' = { M.w with heap := M.w.heap.setIfInBounds B o' }) (hn : ∀ a e fz, o' ≠ .cells a e fz) (hp : p'.p M o') :
    Evo X0 M (atW M w') ∧ Sim (updL blk b (.o p')) D X0 (atW M w') := by
  have hlt := heap_lt hold
  have hX : M.X B := (h.own B).2 (.inr ⟨b, 0, by rw [hc]; simp, hb⟩)
  have hoth : ∀ C, C ≠ B → w'.heap[C]? = M.w.heap[C]? := fun C hC => by rw [hw]; exact Array.getElem?_setIfInBounds_ne (Ne.symm hC)
  have hnew : w'.heap[B]? = some o' := by rw [hw]; simp [hlt]
  have hE : Evo X0 M (atW M w') := by
    refine ⟨fun _ _ hp => hp, fun _ _ hx => hx, fun C hC hx => hoth C fun e => ?_, fun C s hC => ?_, by rw [hw]; rfl, by rw [hw]; exact ⟨rfl, fun _ => Nat.le_refl _⟩, by rw [hw]; rfl, by rw [hw]; simp [atW]⟩
    · subst e; rcases hx with hx | hx; exact hx hX; exact hX0 hx
    · by_cases hCB : C = B
      · subst hCB
        exfalso
        unfold World.shape? at hC
        rw [hold] at hC
        cases o <;> first | (cases hC; done) | exact hno _ _ _ rfl
      · rw [← hC]; exact shape_block (hoth C hCB)
  have hl : ∀ c, updL blk b (.o p') c ≠ .d ↔ blk c ≠ .d := fun c => by
    unfold updL
    by_cases hcb : c = b
    · subst hcb; rw [hc]; simp
    · rw [if_neg hcb]
  have other : ∀ c C Q, c ≠ b → blk c ≠ .d → M.β c = some (some (C, Q)) → C ≠ B := fun c C Q hcb hl hk e => by
    subst e
    exact hcb (h.inj c b C Q 0 hl (by rw [hc]; simp) hk hb)
  refine ⟨hE, fun c cells hv hd => ?_, fun c q hv hd => ?_, fun c c' C Q Q' h1 h2 h3 h4 => h.inj c c' C Q Q' ((hl c).1 h1) ((hl c').1 h2) h3 h4, h.dom, fun C => ?_, fun C hC => by have := h.bnd C hC; rw [hw]; simpa [atW] using this, Glo.evo hE h.glo⟩
  · have hcb : c ≠ b := fun e => by unfold updL at hv; rw [if_pos e] at hv; cases hv
    unfold updL at hv
    rw [if_neg hcb] at hv
    rcases h.live c cells hv hd with ⟨k1, k2⟩ | ⟨C, Q, a2, e2, f2, k1, k2, k3, k4, k5, k6⟩
    · exact .inl ⟨k1, k2⟩
    · have hCB := other c C Q hcb (by rw [hv]; simp) k1
      exact .inr ⟨C, Q, a2, e2, f2, k1, (hoth C hCB).trans k2, k3, RepA.stays hE.stays _ _ _ k4, k5, k6⟩
  · unfold updL at hv
    by_cases hcb : c = b
    · subst hcb
      rw [if_pos rfl] at hv; injection hv with hv; subst hv
      exact ⟨B, o', hb, hnew, hn, p'.st hE.stays hp, hX0⟩
    · rw [if_neg hcb] at hv
      obtain ⟨C, o2, k1, k2, k3, k4, k5⟩ := h.liveo c q hv hd
      have hCB := other c C 0 hcb (by rw [hv]; simp) k1
      exact ⟨C, o2, k1, (hoth C hCB).trans k2, k3, q.st hE.stays k4, k5⟩
  · rw [show (atW M w').X C = M.X C from rfl, h.own C]
    constructor
    · rintro (k | ⟨c, Q, k1, k2⟩)
      · exact .inl k
      · exact .inr ⟨c, Q, (hl c).2 k1, k2⟩
    · rintro (k | ⟨c, Q, k1, k2⟩)
      · exact .inl k
      · exact .inr ⟨c, Q, (hl c).1 k1, k2⟩
def killM (M : Mp) (b : Nat) : Mp := ⟨M.β, fun B => M.X B ∧ ¬ ∃ O, M.β b = some (some (B, O)), M.w⟩
theorem Sim.kill [Dr] {blk : Nat → Blk} {D X0 : Nat → Prop} {M : Mp} (h : Sim blk D X0 M) {b : Nat} (hc : blk b ≠ .d) (hd : D b) :
    Evo X0 M (killM M b) ∧ Sim (updL blk b .d) D X0 (killM M b) := by
  have hE : Evo X0 M (killM M b) := ⟨fun _ _ hp => hp, fun B _ hx hh => hx hh.1, fun _ _ _ => rfl, fun _ _ hs => hs, rfl, Tp.refl _, rfl, Nat.le_refl _⟩
  have hl2 : ∀ c, updL blk b .d c ≠ .d → c ≠ b ∧ blk c = updL blk b .d c := fun c hh => by
    unfold updL at hh ⊢
    by_cases hcb : c = b
    · rw [if_pos hcb] at hh; exact absurd rfl hh
    · rw [if_neg hcb]; exact ⟨hcb, rfl⟩
  have hx0 : ∀ B O, M.β b = some (some (B, O)) → ¬ X0 B := fun B O hB => by
    cases hk : blk b with
    | c cs => obtain ⟨a, e, fz, -, -, -, -, g⟩ := h.block hB hk; exact g
    | o p =>
      obtain ⟨C, o, k1, -, -, -, k5⟩ := h.liveo b p hk hd
      rw [hB] at k1; injection k1 with k1; injection k1 with k1; injection k1 with e1 e2; subst e1; exact k5
    | d => exact absurd hk hc
  refine ⟨hE, fun c cells hv hd' => ?_, fun c p hv hd' => ?_, fun c c' C Q Q' h1 h2 h3 h4 => h.inj c c' C Q Q' (by rw [(hl2 c h1).2]; exact h1) (by rw [(hl2 c' h2).2]; exact h2) h3 h4, h.dom, fun C => ?_, fun C hC => h.bnd C hC.1, Glo.evo hE h.glo⟩
  · obtain ⟨k0, k1⟩ := hl2 c (by rw [hv]; simp)
    rcases h.live c cells (k1.trans hv) hd' with k | ⟨C, Q, a, e, f, m1, m2, m3, m4, m5, m6⟩
    · exact .inl k
    · exact .inr ⟨C, Q, a, e, f, m1, m2, m3, RepA.stays hE.stays _ _ _ m4, m5, m6⟩
  · obtain ⟨k0, k1⟩ := hl2 c (by rw [hv]; simp)
    obtain ⟨C, o, m1, m2, m3, m4, m5⟩ := h.liveo c p (k1.trans hv) hd'
    exact ⟨C, o, m1, m2, m3, p.st hE.stays m4, m5⟩
  · constructor
    · rintro ⟨hx, hn⟩
      rcases (h.own C).1 hx with k | ⟨c, Q, k1, k2⟩
      · exact .inl k
      · have hcb : c ≠ b := fun e => by subst e; exact hn ⟨Q, k2⟩
        exact .inr ⟨c, Q, by unfold updL; rw [if_neg hcb]; exact k1, k2⟩
    · rintro (k | ⟨c, Q, k1, k2⟩)
      · exact ⟨(h.own C).2 (.inl k), fun ⟨O, hO⟩ => hx0 C O hO k⟩
      · obtain ⟨m1, m2⟩ := hl2 c k1
        have m3 : blk c ≠ .d := by rw [m2]; exact k1
        exact ⟨(h.own C).2 (.inr ⟨c, Q, m3, k2⟩), fun ⟨O, hO⟩ => m1 (h.inj c b C Q O m3 hc k2 hO)⟩
def renM (M : Mp) (nx : Nat) (p : Option (Nat × Nat)) : Mp := ⟨fun c => if c = nx then some p else M.β c, M.X, M.w⟩
theorem Sim.ren [Dr] {blk : Nat → Blk} {D X0 : Nat → Prop} {M : Mp} (h : Sim blk D X0 M) {b nx B O o : Nat} {cs cs' : List T} (hb : M.β b = some (some (B, O))) (hc : blk b = .c cs) (hn : ¬ D nx)
    (hr : ∀ a e fz, M.w.heap[B]? = some (.cells a e fz) → RepA M cs' a (O + o) ∧ O + o ≤ a.size) :
    Evo X0 M (renM M nx (some (B, O + o))) ∧ Sim (updL (updL blk b .d) nx (.c cs')) (fun c => D c ∨ c = nx) X0 (renM M nx (some (B, O + o))) := by
  obtain ⟨a0, e0, fz0, g1, g2, g3, g4, g5⟩ := h.block hb hc
  obtain ⟨r1, r2⟩ := hr _ _ _ g1
  have hnb : M.β nx = none := h.dom nx hn
  have hne : b ≠ nx := fun e => by subst e; rw [hnb] at hb; cases hb
  have hE : Evo X0 M (renM M nx (some (B, O + o))) := ⟨fun c p hp => by
    show (if c = nx then _ else M.β c) = _
    rw [if_neg (fun e => by subst e; rw [hnb] at hp; cases hp)]; exact hp, fun _ _ hx => hx, fun _ _ _ => rfl, fun _ _ hs => hs, rfl, Tp.refl _, rfl, Nat.le_refl _⟩
  have hβ : ∀ c, c ≠ nx → (renM M nx (some (B, O + o))).β c = M.β c := fun c hcn => if_neg hcn
  have hβn : (renM M nx (some (B, O + o))).β nx = some (some (B, O + o)) := if_pos rfl
  have hl : ∀ c, c ≠ nx → updL (updL blk b .d) nx (.c cs') c ≠ .d → c ≠ b ∧ blk c = updL (updL blk b .d) nx (.c cs') c := fun c hcn hh => by
    unfold updL at hh ⊢
    rw [if_neg hcn] at hh ⊢
    by_cases hcb : c = b
    · rw [if_pos hcb] at hh; exact absurd rfl hh
    · rw [if_neg hcb]; exact ⟨hcb, rfl⟩
  have hl' : ∀ c, c ≠ nx → updL (updL blk b .d) nx (.c cs') c ≠ .d → blk c ≠ .d := fun c hcn hh => by rw [(hl c hcn hh).2]; exact hh
  refine ⟨hE, fun c cells hv hd' => ?_, fun c p hv hd' => ?_, fun c c' C Q Q' h1 h2 h3 h4 => ?_, fun c hcd => ?_, fun C => ?_, h.bnd, Glo.evo hE h.glo⟩
  · by_cases hcn : c = nx
    · subst hcn
      have : cells = cs' := by unfold updL at hv; rw [if_pos rfl] at hv; injection hv with hv; exact hv.symm
      subst this
      exact .inr ⟨B, O + o, a0, e0, fz0, hβn, g1, g2, RepA.stays hE.stays _ _ _ r1, r2, g5⟩
    · obtain ⟨k0, k1⟩ := hl c hcn (by rw [hv]; simp)
      rcases h.live c cells (k1.trans hv) (hd'.resolve_right hcn) with ⟨m1, m2⟩ | ⟨C, Q, a, e, f, m1, m2, m3, m4, m5, m6⟩
      · exact .inl ⟨by rw [hβ c hcn]; exact m1, m2⟩
      · exact .inr ⟨C, Q, a, e, f, by rw [hβ c hcn]; exact m1, m2, m3, RepA.stays hE.stays _ _ _ m4, m5, m6⟩
  · by_cases hcn : c = nx
    · subst hcn; unfold updL at hv; rw [if_pos rfl] at hv; cases hv
    · obtain ⟨k0, k1⟩ := hl c hcn (by rw [hv]; simp)
      obtain ⟨C, o2, m1, m2, m3, m4, m5⟩ := h.liveo c p (k1.trans hv) (hd'.resolve_right hcn)
      exact ⟨C, o2, by rw [hβ c hcn]; exact m1, m2, m3, p.st hE.stays m4, m5⟩
  · by_cases hcn : c = nx <;> by_cases hcn' : c' = nx
    · rw [hcn, hcn']
    · have k0 := (hl c' hcn' h2).1
      have k1 := hl' c' hcn' h2
      rw [hcn, hβn] at h3; injection h3 with h3; injection h3 with h3; injection h3 with e1 e2; subst e1
      rw [hβ c' hcn'] at h4
      exact absurd (h.inj c' b _ _ _ k1 (by rw [hc]; simp) h4 hb) k0
    · have k0 := (hl c hcn h1).1
      have k1 := hl' c hcn h1
      rw [hcn', hβn] at h4; injection h4 with h4; injection h4 with h4; injection h4 with e1 e2; subst e1
      rw [hβ c hcn] at h3
      exact absurd (h.inj c b _ _ _ k1 (by rw [hc]; simp) h3 hb) k0
    · rw [hβ c hcn] at h3; rw [hβ c' hcn'] at h4
      exact h.inj c c' C Q Q' (hl' c hcn h1) (hl' c' hcn' h2) h3 h4
  · have hcn : c ≠ nx := fun e => hcd (.inr e)
    rw [hβ c hcn]; exact h.dom c fun hd => hcd (.inl hd)
  · show M.X C ↔ _
    rw [h.own C]
    constructor
    · rintro (k | ⟨c, Q, k1, k2⟩)
      · exact .inl k
      · by_cases hcb : c = b
        · subst hcb
          rw [hb] at k2; injection k2 with k2; injection k2 with k2; injection k2 with e1 e2; subst e1
          exact .inr ⟨nx, O + o, by unfold updL; rw [if_pos rfl]; simp, hβn⟩
        · have hcn : c ≠ nx := fun e => by subst e; rw [hnb] at k2; cases k2
          exact .inr ⟨c, Q, by unfold updL; rw [if_neg hcn, if_neg hcb]; exact k1, by rw [hβ c hcn]; exact k2⟩
    · rintro (k | ⟨c, Q, k1, k2⟩)
      · exact .inl k
      · by_cases hcn : c = nx
        · subst hcn
          rw [hβn] at k2; injection k2 with k2; injection k2 with k2; injection k2 with e1 e2; subst e1
          exact .inr ⟨b, O, by rw [hc]; simp, hb⟩
        · rw [hβ c hcn] at k2
          exact .inr ⟨c, Q, hl' c hcn k1, k2⟩
theorem Sim.virt [Dr] {blk : Nat → Blk} {D X0 : Nat → Prop} {M : Mp} (h : Sim blk D X0 M) {nx : Nat} (hn : ¬ D nx) :
    Evo X0 M (renM M nx none) ∧ Sim (updL blk nx (.c [])) (fun c => D c ∨ c = nx) X0 (renM M nx none) := by
  have hnb : M.β nx = none := h.dom nx hn
  have hE : Evo X0 M (renM M nx none) := ⟨fun c p hp => by
    show (if c = nx then _ else M.β c) = _
    rw [if_neg (fun e => by subst e; rw [hnb] at hp; cases hp)]; exact hp, fun _ _ hx => hx, fun _ _ _ => rfl, fun _ _ hs => hs, rfl, Tp.refl _, rfl, Nat.le_refl _⟩
  have hβ : ∀ c, c ≠ nx → (renM M nx none).β c = M.β c := fun c hcn => if_neg hcn
  have hβn : (renM M nx none).β nx = some none := if_pos rfl
  have hl : ∀ c, c ≠ nx → updL blk nx (.c []) c = blk c := fun c hcn => if_neg hcn
  refine ⟨hE, fun c cells hv hd' => ?_, fun c p hv hd' => ?_, fun c c' C Q Q' h1 h2 h3 h4 => ?_, fun c hcd => ?_, fun C => ?_, h.bnd, Glo.evo hE h.glo⟩
  · by_cases hcn : c = nx
    · subst hcn
      unfold updL at hv; rw [if_pos rfl] at hv; injection hv with hv
      exact .inl ⟨hβn, hv.symm⟩
    · rw [hl c hcn] at hv
      rcases h.live c cells hv (hd'.resolve_right hcn) with ⟨m1, m2⟩ | ⟨C, Q, a, e, f, m1, m2, m3, m4, m5, m6⟩
      · exact .inl ⟨by rw [hβ c hcn]; exact m1, m2⟩
      · exact .inr ⟨C, Q, a, e, f, by rw [hβ c hcn]; exact m1, m2, m3, RepA.stays hE.stays _ _ _ m4, m5, m6⟩
  · by_cases hcn : c = nx
    · subst hcn; unfold updL at hv; rw [if_pos rfl] at hv; cases hv
    · rw [hl c hcn] at hv
      obtain ⟨C, o, m1, m2, m3, m4, m5⟩ := h.liveo c p hv (hd'.resolve_right hcn)
      exact ⟨C, o, by rw [hβ c hcn]; exact m1, m2, m3, p.st hE.stays m4, m5⟩
  · have hcn : c ≠ nx := fun e => by rw [e, hβn] at h3; cases h3
    have hcn' : c' ≠ nx := fun e => by rw [e, hβn] at h4; cases h4
    rw [hβ c hcn] at h3; rw [hβ c' hcn'] at h4
    rw [hl c hcn] at h1; rw [hl c' hcn'] at h2
    exact h.inj c c' C Q Q' h1 h2 h3 h4
  · have hcn : c ≠ nx := fun e => hcd (.inr e)
    rw [hβ c hcn]; exact h.dom c fun hd => hcd (.inl hd)
  · show M.X C ↔ _
    rw [h.own C]
    constructor
    · rintro (k | ⟨c, Q, k1, k2⟩)
      · exact .inl k
      · have hcn : c ≠ nx := fun e => by subst e; rw [hnb] at k2; cases k2
        exact .inr ⟨c, Q, by rw [hl c hcn]; exact k1, by rw [hβ c hcn]; exact k2⟩
    · rintro (k | ⟨c, Q, k1, k2⟩)
      · exact .inl k
      · have hcn : c ≠ nx := fun e => by rw [e, hβn] at k2; cases k2
        rw [hl c hcn] at k1; rw [hβ c hcn] at k2
        exact .inr ⟨c, Q, k1, k2⟩
end
end
section
open Go.RowKit
def mStore (tab : Tab) (H : Hp) (t : Nat) (a x : T) : Option Hp :=
  match tab t, a with
  | some i, .ptr b o =>
    match lookH H b with
    | some cs => if (flat x).length = i.sz ∧ o + i.sz ≤ cs.length ∧ (flat x).all cellB = true then some (setH H b (.c (putL cs o (flat x)))) else none
    | none => none
  | _, _ => none
def srcCells (tab : Tab) (look : Look) (t sz : Nat) (y : T) : Option (List T × Nat) :=
  match tab t with
  | none => none
  | some i =>
    match i.k, y with
    | .sl _, .slc b o n z _ => match look b with | some cs => if z = sz ∧ o + n * z ≤ cs.length then some ((cs.drop o).take (n * z), n) else none | none => none
    | .sl _, .islc cs n _ => if n * sz ≤ cs.length then some (cs.take (n * sz), n) else none
    | .sl _, .v (.slice _ 0 _) => some ([], 0)
    | .str, .v (.string s) => if sz = 1 then some (s.data.toList.map (fun c => T.v (.int .u8 c.toNat)), s.size) else none
    | _, _ => none
def mAppend (tab : Tab) (H : Hp) (t1 t2 : Nat) (x y : T) : Option (T × Hp) :=
  match tab t1 with
  | none => none
  | some i =>
    match i.k with
    | .sl e =>
      match tab e with
      | none => none
      | some j =>
        match srcCells tab (lookH H) t2 j.sz y with
        | none => none
        | some (ys, n2) =>
          match x with
          | .v (.slice none 0 0) => if n2 * j.by_ ≤ 2 ^ 47 ∧ n2 ≤ 2 ^ 47 ∧ n2 * j.sz = ys.length then some (.slc H.length 0 n2 j.sz none, H ++ [.c ys]) else none
          | .islc _ 0 (some 0) => if n2 * j.by_ ≤ 2 ^ 47 ∧ n2 ≤ 2 ^ 47 ∧ n2 * j.sz = ys.length then some (.slc H.length 0 n2 j.sz none, H ++ [.c ys]) else none
          | .slc b o n z _ =>
            match lookH H b with
            | none => none
            | some cs => if z = j.sz ∧ o + n * z ≤ cs.length ∧ (n + n2) * j.by_ ≤ 2 ^ 47 ∧ n + n2 ≤ 2 ^ 47 ∧ n2 * j.sz = ys.length ∧ ys.all cellB = true then some (.slc H.length 0 (n + n2) z none, setH H b .d ++ [.c ((cs.drop o).take (n * z) ++ ys)]) else none
          | _ => none
    | _ => none
def mCopy (tab : Tab) (H : Hp) (t1 t2 : Nat) (x y : T) : Option (T × Hp) :=
  match tab t1 with
  | none => none
  | some i =>
    match i.k with
    | .sl e =>
      match tab e with
      | none => none
      | some j =>
        match srcCells tab (lookH H) t2 j.sz y with
        | none => none
        | some (ys, n2) =>
          match x with
          | .slc b o n z _ =>
            match lookH H b with
            | none => none
            | some cs => if z = j.sz ∧ o + n * z ≤ cs.length ∧ n2 * j.sz = ys.length ∧ ys.all cellB = true then some (.v (.int .i64 (min n2 n : Nat)), setH H b (.c (putL cs o (ys.take (min n2 n * z))))) else none
          | _ => none
    | _ => none
def mClear (tab : Tab) (H : Hp) (t : Nat) (x : T) : Option (T × Hp) :=
  match tab t with
  | none => none
  | some i =>
    match i.k with
    | .sl e =>
      match tab e with
      | none => none
      | some j =>
        match x with
        | .slc b o n z _ =>
          match lookH H b with
          | none => none
          | some cs => if z = j.sz ∧ o + n * z ≤ cs.length ∧ j.zero.all cellB = true then some (.tup [], setH H b (.c (putL cs o (zeros n j.zero)))) else none
        | .islc _ 0 _ => some (.tup [], H)
        | .v (.slice none _ _) => some (.tup [], H)
        | _ => none
    | _ => none
section
variable {P : Program} {tab : Tab} {M : Mp}
def Writes [Dr] (X0 : Nat → Prop) (M : Mp) (P : Program) (x : Sem Value) (r : T) (H' : Hp) : Prop := ∃ u M', x.run P M.w = .ok u M'.w ∧ Evo X0 M M' ∧ SimH H' X0 M' ∧ Rep M' r u
theorem setH_append : ∀ (H : Hp) (b : Nat) (v x : Blk), b < H.length → setH (H ++ [x]) b v = setH H b v ++ [x]
  | [], b, v, x, h => by simp at h
  | y :: r, 0, v, x, h => rfl
  | y :: r, b + 1, v, x, h => by simp only [List.cons_append, setH, setH_append r b v x (by simpa using h)]
theorem SimH.set [Dr] {H : Hp} {X0 : Nat → Prop} {M : Mp} {b : Nat} {v : Blk} (hb : b < H.length) (h : Sim (updL (blkH H) b v) (· < H.length) X0 M) : SimH (setH H b v) X0 M :=
  h.congr (fun c => by rw [blkH_set H b c v hb]; rfl) (fun c => by rw [setH_length])
theorem rep_cells : ∀ {xs : List T} {us : List Value}, RepL M xs us → xs.all cellB = true → ∀ v ∈ us, v.oneCell' = true
  | [], _, h, _, v, hv => by obtain rfl := h; cases hv
  | x :: xs, _, ⟨u, r, h1, h2, h3⟩, hc, v, hv => by
    subst h1
    simp only [List.all_cons, Bool.and_eq_true] at hc
    rcases List.mem_cons.1 hv with rfl | hv
    · exact (rep_cell h2 hc.1).1
    · exact rep_cells h3 hc.2 v hv
theorem written {cs xs : List T} {us : List Value} {a a' : Array Value} {O o : Nat} (hr : RepA M cs a O) (hx : RepL M xs us) (hle : o + xs.length ≤ cs.length) (ha : ∀ k, a'[k]? = if O + o ≤ k ∧ k < O + o + us.length then us[k - (O + o)]? else a[k]?) : RepA M (putL cs o xs) a' O := by
  have hl := hx.length
  refine repA_of fun i t ht => ?_
  rw [putL_get _ _ _ hle] at ht
  rw [ha]
  by_cases hi : o ≤ i ∧ i < o + xs.length
  · rw [if_pos hi] at ht
    rw [if_pos (by omega)]
    obtain ⟨u, h1, h2⟩ := hx.get _ _ ht
    exact ⟨u, by rw [show O + i - (O + o) = i - o from by omega]; exact h1, h2⟩
  · rw [if_neg hi] at ht
    rw [if_neg (by omega)]
    exact hr.get _ _ ht
theorem mStore_ok [Dr] (hT : TabOk P tab) {H H' : Hp} {X0 : Nat → Prop} (hS : SimH H X0 M) {t : Nat} {a x : T} {ua ux : Value} (ha : Rep M a ua) (hx : Rep M x ux) (h : mStore tab H t a x = some H') :
    ∃ M', (Instr.storeAt t ua ux).run P M.w = .ok () M'.w ∧ Evo X0 M M' ∧ SimH H' X0 M' := by
  unfold mStore at h
  split at h
  · rename_i i b o hi
    have hok := hT t i hi
    split at h
    · rename_i cs hc
      split at h
      · rename_i hh
        injection h with h; subst h
        obtain ⟨B, O, hb, rfl⟩ := ha
        obtain ⟨ar, e, fz, g1, g2, g3, g4, g5⟩ := hS.block hb (lookH_c.1 hc)
        have hf := rep_flat hx
        have hl := hf.length
        simp only [Array.length_toList] at hl
        have hsz : O + o + 0 + ux.cells.toList.length ≤ ar.size := by
          rcases Nat.eq_zero_or_pos cs.length with h0 | h0
          · simp; omega
          · have := g3.size h0; simp; omega
        obtain ⟨a', k1, k2, k3⟩ := run_storeCells_any (P := P) (o := O + o) ux.cells.toList 0 ar M.w g1 g2 hsz (rep_cells hf hh.2.2)
        have hr := written (a' := a') (o := o) g3 hf (by omega) (fun k => by simpa using k3 k)
        obtain ⟨E, S⟩ := hS.write hb (lookH_c.1 hc) g1 k2 hr
        refine ⟨_, ?_, E, SimH.set (lookH_lt hc) S⟩
        have hne : ux.cells.size = i.sz := by omega
        simp [Instr.storeAt, Instr.sureAddr, storeVar, hok.size_, hne]
        exact k1
      · cases h
    · cases h
  · cases h
theorem src_ok (hT : TabOk P tab) {look : Look} (hL : LookAt M look) {t sz : Nat} {y : T} {u : Value} {ys : List T} {n : Nat} (hy : Rep M y u) (h : srcCells tab look t sz y = some (ys, n)) :
    (∃ D, P.underlying t = some D ∧ ∀ k, D ≠ .int k) ∧ (∀ w, (Builtin.lenOf u).run P w = .ok n w) ∧ ∀ m, m ≤ n → m * sz ≤ ys.length → ∃ us, (∀ d, (Builtin.firstCells sz m u).run P { M.w with drawn := d } = .ok us { M.w with drawn := d }) ∧ RepL M (ys.take (m * sz)) us.toList := by
  have fin : ∀ (B O : Nat) (a : Array Value) (e : TypeId) (f : Nat × Nat) (k q m : Nat) (zs : List T), M.w.heap[B]? = some (.cells a e f) → RepA M zs a O → m * sz ≤ zs.length →
      ∃ us, (∀ d, (Builtin.firstCells sz m (.slice (some ⟨B, O, none⟩) q k)).run P { M.w with drawn := d } = .ok us { M.w with drawn := d }) ∧ RepL M (zs.take (m * sz)) us.toList := by
    intro B O a e f k q m zs hb hr hm
    have hs : RepA M (zs.take (m * sz)) a (O + 0) := hr.sub fun j t ht => by
      rw [List.getElem?_take] at ht
      split at ht
      · simpa using ht
      · cases ht
    have hl := hs.toL
    have hlen := hl.length
    have e1 : (zs.take (m * sz)).length = m * sz := by rw [List.length_take]; omega
    rw [e1] at hl hlen
    refine ⟨((a.toList.drop (O + 0)).take (m * sz)).toArray, fun d => ?_, by simpa using hl⟩
    have := run_loadCells_list (P := P) { M.w with drawn := d } ⟨B, O, none⟩ ((a.toList.drop (O + 0)).take (m * sz)) (fun j v hj => by
      rw [add_at, cell_at (w := { M.w with drawn := d }) hb]
      rw [List.getElem?_take] at hj
      split at hj
      · simpa using hj
      · cases hj)
    rw [hlen] at this
    simpa [Builtin.firstCells] using this
  unfold srcCells at h
  split at h
  · cases h
  · rename_i i hi
    obtain ⟨D, hD, hk⟩ := (hT t i hi).kind
    split at h
    · rename_i e b o n' z c hfs
      rw [hfs] at hk
      cases D <;> simp only [kdOk] at hk
      split at h
      · rename_i cs hc
        split at h
        · rename_i hz
          injection h with h; injection h with h1 h2; subst h1 h2
          obtain ⟨rfl, hz⟩ := hz
          refine ⟨⟨_, hD, by simp⟩, ?_⟩
          rcases hy with ⟨-, rfl, rfl, -, A, rfl⟩ | ⟨B, O, k, hb, rfl, -⟩
          · refine ⟨fun _ => rfl, fun m hm _ => ?_⟩
            obtain rfl : m = 0 := by omega
            refine ⟨#[], fun d => ?_, by simp; rfl⟩
            cases A <;> simp [Builtin.firstCells, loadCells, loadCellsFrom]
          · refine ⟨fun _ => rfl, fun m hm hm2 => ?_⟩
            obtain ⟨a, e', fz, g1, g2⟩ := hL b B O cs hb hc
            have hs : RepA M ((cs.drop o).take (n' * z)) a (O + o) := g2.sub fun j t ht => by
              rw [List.getElem?_take] at ht
              split at ht
              · simpa using ht
              · cases ht
            exact fin _ _ _ _ _ _ _ _ _ g1 hs hm2
        · cases h
      · cases h
    · rename_i e cs n' c hfs
      rw [hfs] at hk
      cases D <;> simp only [kdOk] at hk
      split at h
      · rename_i hz
        injection h with h; injection h with h1 h2; subst h1 h2
        refine ⟨⟨_, hD, by simp⟩, ?_⟩
        obtain ⟨A, k, rfl, h2, h3, h4, h5⟩ := hy
        refine ⟨fun _ => rfl, fun m hm hm2 => ?_⟩
        rcases h5 with ⟨rfl, rfl⟩ | ⟨B, O, a, rfl, ⟨-, e', f', h6⟩, h7⟩
        · obtain rfl : m = 0 := by omega
          refine ⟨#[], fun d => ?_, by simp; rfl⟩
          cases A <;> simp [Builtin.firstCells, loadCells, loadCellsFrom]
        · have hs : RepA M (cs.take (n' * sz)) a (O + 0) := h7.sub fun j t ht => by
            rw [List.getElem?_take] at ht
            split at ht
            · simpa using ht
            · cases ht
          exact fin _ _ _ _ _ _ _ _ _ h6 hs hm2
      · cases h
    · rename_i e A k hfs
      rw [hfs] at hk
      cases D <;> simp only [kdOk] at hk
      injection h with h; injection h with h1 h2; subst h1 h2
      obtain rfl := hy
      refine ⟨⟨_, hD, by simp⟩, fun _ => rfl, fun m hm _ => ?_⟩
      obtain rfl : m = 0 := by omega
      exact ⟨#[], fun d => by cases A <;> simp [Builtin.firstCells, loadCells, loadCellsFrom], by simp; rfl⟩
    · rename_i s hfs
      rw [hfs] at hk
      cases D <;> simp only [kdOk] at hk
      split at h
      · rename_i hz
        injection h with h; injection h with h1 h2; subst h1 h2
        subst hz
        obtain rfl := hy
        refine ⟨⟨_, hD, by simp⟩, fun _ => rfl, fun m hm hm2 => ?_⟩
        refine ⟨(s.extract 0 m).data.map fun b => .int .u8 b.toNat, fun d => by simp [Builtin.firstCells], ?_⟩
        have e1 : (s.extract 0 m).data.toList = s.data.toList.take m := by
          rw [ByteArray.data_extract]; simp [List.extract_eq_take_drop]
        rw [Array.toList_map, e1, Nat.mul_one, ← List.map_take, show (fun c : UInt8 => T.v (.int .u8 c.toNat)) = T.v ∘ (fun c : UInt8 => Value.int .u8 c.toNat) from rfl, ← List.map_map]
        exact repL_v _
      · cases h
    · cases h
theorem append_new [Dr] {E t1 t2 ty n k n2 : Nat} {j : TyI} {A : Option Addr} {v : Value} {D : TypeDesc} {us0 us1 : Array Value} {w : World} (hD1 : P.underlying t1 = some (.slice E)) (hj : TyOk P E j) (hD2 : P.underlying t2 = some D) (hni : ∀ k, D ≠ .int k)
    (hlen : ∀ w, (Builtin.lenOf v).run P w = .ok n2 w) (hk : k < n + n2) (hb : (n + n2) * j.by_ ≤ 2 ^ 47) (hm : n + n2 ≤ 2 ^ 47)
    (h0 : ∀ d, (Builtin.firstCells j.sz n (.slice A n k)).run P { w with drawn := d } = .ok us0 { w with drawn := d }) (h1 : ∀ d, (Builtin.firstCells j.sz n2 v).run P { w with drawn := d } = .ok us1 { w with drawn := d }) :
    ∃ cap rest w', (Builtin.append_ #[t1, t2] ty #[.slice A n k, v]).run P w = .ok (.slice (some ⟨w.heap.size, 0, none⟩) (n + n2) cap) w' ∧ w'.heap = w.heap.push (.cells (us0 ++ us1 ++ rest) E) ∧ w'.os = w.os ∧ Tp w w' ∧ w'.output = w.output ∧
      n + n2 ≤ cap ∧ cap ≤ maxLen ∧ rest.size = (cap - (n + n2)) * j.sz := by
  obtain ⟨I, hI, hIb⟩ := hj.info_ w
  have hI' : ∀ d, (typeInfo E).run P { w with drawn := d } = .ok I { w with drawn := d } := fun d => by
    obtain ⟨I0, g1, -⟩ := hj.info
    simp only [typeInfo, Sem.run_bind, run_program, Result.andThen_ok, g1, Sem.run_pure] at hI ⊢
    injection hI with hI; rw [hI]
  have hz : ∀ d, ∃ z, (zeroValue E).run P { w with drawn := d } = .ok z { w with drawn := d } ∧ z.cells.size = j.sz := fun d => by
    obtain ⟨z, g1, -, g3⟩ := hj.zero_ { w with drawn := d }
    exact ⟨z, g1, g3⟩
  obtain ⟨z, hz1, hz2⟩ := hz (w.drawn + 1)
  have hfit : Builtin.nextslicecap (n + n2) k * I.bytes ≤ 281474976710656 := by rw [hIb]; exact growslice_fits hk (by omega)
  have hnz : (match D with | .int _ => true | _ => false) = false := by cases D <;> first | rfl | exact absurd rfl (hni _)
  have hneed : ¬ (n + n2 ≤ k) := by omega
  have hbig : ¬ (((n + n2 : Nat) : Int) > IntKind.i64.max ∧ ((match D with | .int _ => true | _ => false) = true ∨ I.bytes = 0)) := by
    rw [show IntKind.i64.max = 9223372036854775807 from by decide]; omega
  have hcap : ¬ (Builtin.nextslicecap (n + n2) k * I.bytes > 2 ^ 48) := by omega
  let cap := Question.cut (.appendCap (n + n2) k E) (w.tape w.drawn (.appendCap (n + n2) k E))
  have hc1 : n + n2 ≤ cap := by show _ ≤ n + n2 + _ % _; omega
  have hc2 : cap ≤ maxLen := by
    show n + n2 + _ % (2 ^ 63 - (n + n2)) ≤ _
    unfold maxLen
    have : ∀ q, q % (2 ^ 63 - (n + n2)) < 2 ^ 63 - (n + n2) := fun q => Nat.mod_lt _ (by omega)
    have := this (w.tape w.drawn (.appendCap (n + n2) k E))
    omega
  refine ⟨cap, Builtin.zeroCells z.cells (cap - (n + n2)), { w with drawn := w.drawn + 1, heap := w.heap.push (.cells (us0 ++ us1 ++ Builtin.zeroCells z.cells (cap - (n + n2))) E) }, ?_, rfl, rfl, ⟨rfl, fun _ => Nat.le_succ _⟩, rfl, hc1, hc2, by simp [Builtin.zeroCells, hz2]⟩
  have hch : (choose (.appendCap (n + n2) k E)).run P w = .ok cap { w with drawn := w.drawn + 1 } := by simp [Question.forced, cap]
  unfold Builtin.append_
  simp only [List.getElem?_toArray, List.getElem?_cons_zero, List.getElem?_cons_succ, Sem.run_bind, run_underlying hD1, Result.andThen_ok, hj.size_, run_underlying hD2, Sem.run_pure]
  simp only [hnz, Bool.false_eq_true, if_false, Sem.run_bind, hlen, Result.andThen_ok, Sem.run_ite, hneed, hI, hcap, hch, run_askRoom, h0, h1, hz1, newRow, run_newObj, Sem.run_pure, Bool.not_false, if_true]
  rw [if_neg (by rw [show IntKind.i64.max = 9223372036854775807 from by decide]; omega)]
  simp only [hI', h0, h1, hz1, Result.andThen_ok]
theorem append_room {E t1 t2 ty n k n2 : Nat} {j : TyI} {A : Option Addr} {v : Value} {D : TypeDesc} {us1 : Array Value} {w : World} (hD1 : P.underlying t1 = some (.slice E)) (hj : TyOk P E j) (hD2 : P.underlying t2 = some D) (hni : ∀ k, D ≠ .int k)
    (hlen : ∀ w, (Builtin.lenOf v).run P w = .ok n2 w) (hk : n + n2 ≤ k) (h1 : (Builtin.firstCells j.sz n2 v).run P w = .ok us1 w) :
    (Builtin.append_ #[t1, t2] ty #[.slice A n k, v]).run P w = match A with
      | some a => ((storeCells (a.add (n * j.sz)) us1.toList).run P w).andThen fun _ w' => .ok (.slice A (n + n2) k) w'
      | none => .ok (.slice A (n + n2) k) w := by
  have hnz : (match D with | .int _ => true | _ => false) = false := by cases D <;> first | rfl | exact absurd rfl (hni _)
  unfold Builtin.append_
  simp only [List.getElem?_toArray, List.getElem?_cons_zero, List.getElem?_cons_succ, Sem.run_bind, run_underlying hD1, Result.andThen_ok, hj.size_, run_underlying hD2, Sem.run_pure]
  simp only [hnz, Bool.false_eq_true, if_false, Sem.run_bind, hlen, Result.andThen_ok, Sem.run_ite, hk, h1, Sem.run_pure, Bool.not_false, if_true]
  cases A <;> simp
theorem mAppend_ok [Dr] (hT : TabOk P tab) {H H' : Hp} {X0 : Nat → Prop} (hS : SimH H X0 M) {t1 t2 ty : Nat} {x y r : T} {u v : Value} (hx : Rep M x u) (hy : Rep M y v) (h : mAppend tab H t1 t2 x y = some (r, H')) :
    Writes X0 M P (Builtin.append_ #[t1, t2] ty #[u, v]) r H' := by
  unfold mAppend at h
  split at h
  · cases h
  · rename_i i hi
    obtain ⟨D1, hD1, hk1⟩ := (hT t1 i hi).kind
    split at h
    · rename_i e hfs
      rw [hfs] at hk1
      cases D1 <;> simp only [kdOk] at hk1
      rename_i E
      subst hk1
      split at h
      · cases h
      · rename_i j hj
        have hjo := hT _ j hj
        split at h
        · cases h
        · rename_i ys n2 hsrc
          obtain ⟨⟨D2, hD2, hni⟩, hlen, hfc⟩ := src_ok hT hS.look hy hsrc
          have hnd : ¬ (fun b => b < H.length) H.length := fun hh => Nat.lt_irrefl _ hh
         
          have empty : ∀ (A : Option Addr), n2 * j.by_ ≤ 2 ^ 47 → n2 ≤ 2 ^ 47 → n2 * j.sz = ys.length →
              ∃ u' M', (Builtin.append_ #[t1, t2] ty #[.slice A 0 0, v]).run P M.w = .ok u' M'.w ∧ Evo X0 M M' ∧ SimH (H ++ [.c ys]) X0 M' ∧ Rep M' (.slc H.length 0 n2 j.sz none) u' := by
            intro A hb hm hl
            have take_all : ys.take (n2 * j.sz) = ys := List.take_of_length_le (by omega)
            obtain ⟨us, g1, g2⟩ := hfc n2 (Nat.le_refl _) (by omega)
            rw [take_all] at g2
            rcases Nat.eq_zero_or_pos n2 with h0 | h0
            · subst h0
              obtain ⟨Ev, S⟩ := hS.virt hnd
              have hys : ys = [] := List.eq_nil_of_length_eq_zero (by omega)
              subst hys
              have hus : us = #[] := by have := g2.length; exact Array.eq_empty_of_size_eq_zero (by simpa using this)
              refine ⟨.slice A 0 0, renM M H.length none, ?_, Ev, ?_, .inl ⟨if_pos rfl, rfl, rfl, fun q hq => (by cases hq), A, rfl⟩⟩
              · rw [append_room hD1 hjo hD2 hni hlen (Nat.le_refl _) (g1 M.w.drawn), hus]
                cases A <;> rfl
              · exact SimH.push S
            · obtain ⟨cap, rest, w', k1, k2, k3, k4, k5, k6, k7, k8⟩ := append_new (ty := ty) (A := A) (n := 0) (k := 0) (us0 := #[]) (us1 := us) (w := M.w) hD1 hjo hD2 hni hlen (by omega) (by simpa using hb) (by omega)
                (fun d => by cases A <;> simp [Builtin.firstCells, loadCells, loadCellsFrom]) g1
              have hc : RepA M ys (#[] ++ us ++ rest) 0 := repA_of fun q t ht => by
                obtain ⟨u', e1, e2⟩ := g2.get q t ht
                rw [Array.getElem?_toList] at e1
                refine ⟨u', ?_, e2⟩
                rw [Array.empty_append, Nat.zero_add, Array.getElem?_append_left (Array.getElem?_eq_some_iff.1 e1).1]; exact e1
              obtain ⟨Ev, S, hsh⟩ := hS.new hnd k2 k3 k4 k5 (fun q _ hq => by omega) hc
              refine ⟨_, newM M H.length w', k1, Ev, SimH.push S, .inr ⟨M.w.heap.size, 0, cap, if_pos rfl, by simp, by omega, k7, fun q hq => (by cases hq), _, _, hsh, ?_⟩⟩
              have hsz := g2.length
              simp only [Array.length_toList] at hsz
              have e1 : us.size = n2 * j.sz := by omega
              have : n2 * j.sz + (cap - (0 + n2)) * j.sz = cap * j.sz := by rw [← Nat.add_mul]; congr 1; omega
              rw [Array.size_append, Array.size_append, k8, e1]
              simp only [List.size_toArray, List.length_nil]; omega
          split at h
          · obtain rfl := hx
            split at h
            · rename_i hh
              injection h with h; injection h with h1 h2; subst h1 h2
              obtain ⟨u', M', a1, a2, a3, a4⟩ := empty none hh.1 hh.2.1 hh.2.2
              exact ⟨u', M', a1, a2, a3, a4⟩
            · cases h
          · obtain ⟨A, k, rfl, b1, b2, b3, b4⟩ := hx
            obtain rfl := b3 0 rfl
            split at h
            · rename_i hh
              injection h with h; injection h with h1 h2; subst h1 h2
              obtain ⟨u', M', a1, a2, a3, a4⟩ := empty A hh.1 hh.2.1 hh.2.2
              exact ⟨u', M', a1, a2, a3, a4⟩
            · cases h
          · rename_i b o n z c
            split at h
            · cases h
            · rename_i cs hc
              split at h
              · rename_i hh
                injection h with h; injection h with h1 h2; subst h1 h2
                obtain ⟨rfl, hle, hb1, hb2, hl, hcell⟩ := hh
                have hblt := lookH_lt hc
                rcases hx with ⟨b1, rfl, rfl, b4, A, rfl⟩ | ⟨B, O, k, b1, rfl, b2, b3, b4, e', s, b5, b6⟩
                · obtain ⟨u', M', a1, a2, a3, a4⟩ := empty A (by simpa using hb1) (by omega) hl
                  have hc' : blkH (H ++ [.c ys]) b ≠ .d := by rw [blkH_push, if_neg (by omega), lookH_c.1 hc]; simp
                  obtain ⟨Ev, S⟩ := a3.kill hc' (by simp; omega)
                  have S' := SimH.set (by simp; omega) S
                  rw [setH_append _ _ _ _ hblt] at S'
                  refine ⟨u', killM M' b, a1, a2.trans Ev, ?_, ?_⟩
                  · simpa using S'
                  · have := Rep.stays Ev.stays _ _ a4
                    simpa using this
                · obtain ⟨a0, e0, fz0, g1, g2, g3, g4, g5⟩ := hS.block b1 (lookH_c.1 hc)
                  have take_all : ys.take (n2 * j.sz) = ys := List.take_of_length_le (by omega)
                  obtain ⟨us, f1, f2⟩ := hfc n2 (Nat.le_refl _) (by omega)
                  rw [take_all] at f2
                  have hfl := f2.length
                  simp only [Array.length_toList] at hfl
                  have b5' := b5
                  rw [shape_of_heap g1] at b5'
                  injection b5' with b5'; injection b5' with z1 z2; subst z1
                  have hc0 : RepA M ((cs.drop o).take (n * j.sz)) a0 (O + o) := g3.sub fun q t ht => by
                    rw [List.getElem?_take] at ht
                    split at ht
                    · simpa using ht
                    · cases ht
                  have hcl : ((cs.drop o).take (n * j.sz)).length = n * j.sz := by rw [List.length_take, List.length_drop]; omega
                  have hmul : n * j.sz ≤ k * j.sz := Nat.mul_le_mul_right _ b2
                  by_cases hroom : n + n2 ≤ k
                  · have hmul2 : n * j.sz + n2 * j.sz ≤ k * j.sz := by rw [← Nat.add_mul]; exact Nat.mul_le_mul_right _ hroom
                    obtain ⟨Ev1, S1⟩ := hS.ren (o := o) (cs' := (cs.drop o).take (n * j.sz)) b1 (lookH_c.1 hc) hnd (fun a e fz ha => by
                      rw [g1] at ha; injection ha with ha; injection ha with q1 q2 q3; subst q1; exact ⟨hc0, by omega⟩)
                    obtain ⟨a', k1, k2, k3⟩ := run_storeCells_any (P := P) (o := O + o + n * j.sz) us.toList 0 a0 M.w g1 g2 (by simp; omega) (rep_cells f2 hcell)
                    have hr : RepA (renM M H.length (some (B, O + o))) ((cs.drop o).take (n * j.sz) ++ ys) a' (O + o) := by
                      refine RepA.stays Ev1.stays _ _ _ (repA_of fun q t ht => ?_)
                      rw [k3]
                      by_cases hq : q < n * j.sz
                      · rw [List.getElem?_append_left (by omega)] at ht
                        rw [if_neg (by omega)]
                        exact hc0.get q t ht
                      · rw [List.getElem?_append_right (by omega), hcl] at ht
                        obtain ⟨u', e1, e2⟩ := f2.get _ t ht
                        have := (List.getElem?_eq_some_iff.1 e1).1
                        refine ⟨u', ?_, e2⟩
                        rw [if_pos (by omega), show O + o + q - (O + o + n * j.sz + 0) = q - n * j.sz from by omega]
                        exact e1
                    obtain ⟨Ev2, S2⟩ := S1.write (b := H.length) (cs := (cs.drop o).take (n * j.sz)) (if_pos rfl) (by unfold updL; rw [if_pos rfl]) g1 k2 hr
                    refine ⟨_, _, ?_, Ev1.trans Ev2, S2.congr (fun c => ?_) (fun c => ?_), .inr ⟨B, O + o, k, if_pos rfl, by rw [Nat.add_zero], hroom, b3, fun q hq => (by cases hq), e0, s, ?_, by omega⟩⟩
                    · rw [append_room hD1 hjo hD2 hni hlen hroom (f1 M.w.drawn)]
                      simp only [add_at, k1, Result.andThen_ok]
                      rfl
                    · rw [blkH_push, setH_length]
                      unfold updL
                      by_cases h1 : c = H.length
                      · rw [if_pos h1, if_pos h1]
                      · rw [if_neg h1, if_neg h1, if_neg h1, blkH_set _ _ _ _ hblt]
                    · simp [setH_length]; omega
                    · exact Ev2.shape _ _ (Ev1.shape _ _ b5)
                  · obtain ⟨cap, rest, w', k1, k2, k3, k4, k5, k6, k7, k8⟩ := append_new (ty := ty) (A := some ⟨B, O + o, none⟩) (n := n) (k := k) (us0 := ((a0.toList.drop (O + o)).take (n * j.sz)).toArray) (us1 := us) (w := M.w) hD1 hjo hD2 hni hlen (by omega) hb1 hb2
                      (fun d => by
                        have hL := hc0.toL
                        have hll := hL.length
                        rw [hcl] at hll hL
                        have := run_loadCells_list (P := P) { M.w with drawn := d } ⟨B, O + o, none⟩ ((a0.toList.drop (O + o)).take (n * j.sz)) (fun q v hq => by
                          rw [add_at, cell_at (w := { M.w with drawn := d }) g1]
                          rw [List.getElem?_take] at hq
                          split at hq
                          · simpa using hq
                          · cases hq)
                        rw [hll] at this
                        simpa [Builtin.firstCells] using this) f1
                    have hL := hc0.toL
                    have hll := hL.length
                    rw [hcl] at hll hL
                    have hall : RepL M ((cs.drop o).take (n * j.sz) ++ ys) ((a0.toList.drop (O + o)).take (n * j.sz) ++ us.toList) := RepL.append hL f2
                    have hc1 : RepA M ((cs.drop o).take (n * j.sz) ++ ys) (((a0.toList.drop (O + o)).take (n * j.sz)).toArray ++ us ++ rest) 0 := repA_of fun q t ht => by
                      obtain ⟨u', e1, e2⟩ := hall.get q t ht
                      refine ⟨u', ?_, e2⟩
                      have hq := (List.getElem?_eq_some_iff.1 e1).1
                      rw [Nat.zero_add, Array.getElem?_append_left (by simp at hq ⊢; omega), ← Array.getElem?_toList]
                      simpa using e1
                    obtain ⟨Ev, S, hsh⟩ := hS.new hnd k2 k3 k4 k5 (fun q _ hq => by omega) hc1
                    have S0 : SimH (H ++ [.c ((cs.drop o).take (n * j.sz) ++ ys)]) X0 (newM M H.length w') := SimH.push S
                    have hc' : blkH (H ++ [.c ((cs.drop o).take (n * j.sz) ++ ys)]) b ≠ .d := by rw [blkH_push, if_neg (by omega), lookH_c.1 hc]; simp
                    obtain ⟨Ev3, S3⟩ := S0.kill hc' (by simp; omega)
                    have S' := SimH.set (by simp; omega) S3
                    rw [setH_append _ _ _ _ hblt] at S'
                    refine ⟨_, killM (newM M H.length w') b, k1, Ev.trans Ev3, S', .inr ⟨M.w.heap.size, 0, cap, if_pos rfl, by simp, k6, k7, fun q hq => (by cases hq), _, _, Ev3.shape _ _ hsh, ?_⟩⟩
                    have e1 : n * j.sz + n2 * j.sz + (cap - (n + n2)) * j.sz = cap * j.sz := by rw [← Nat.add_mul, ← Nat.add_mul]; congr 1; omega
                    rw [Array.size_append, Array.size_append, k8, List.size_toArray, hll, hfl, ← hl]; omega
              · cases h
          · cases h
    · cases h
theorem mCopy_ok [Dr] (hT : TabOk P tab) {H H' : Hp} {X0 : Nat → Prop} (hS : SimH H X0 M) {t1 t2 ty : Nat} {x y r : T} {u v : Value} (hx : Rep M x u) (hy : Rep M y v) (h : mCopy tab H t1 t2 x y = some (r, H')) :
    Writes X0 M P (Builtin.copy_ #[t1, t2] ty #[u, v]) r H' := by
  unfold mCopy at h
  split at h
  · cases h
  · rename_i i hi
    obtain ⟨D1, hD1, hk1⟩ := (hT t1 i hi).kind
    split at h
    · rename_i e hfs
      rw [hfs] at hk1
      cases D1 <;> simp only [kdOk] at hk1
      rename_i E
      subst hk1
      split at h
      · cases h
      · rename_i j hj
        have hjo := hT _ j hj
        split at h
        · cases h
        · rename_i ys n2 hsrc
          obtain ⟨⟨D2, hD2, hni⟩, hlen, hfc⟩ := src_ok hT hS.look hy hsrc
          split at h
          · rename_i b o n z c
            split at h
            · cases h
            · rename_i cs hc
              split at h
              · rename_i hh
                injection h with h; injection h with h1 h2; subst h1 h2
                obtain ⟨rfl, hle, hl, hcell⟩ := hh
                have hblt := lookH_lt hc
                have hmul : min n2 n * j.sz ≤ n2 * j.sz := Nat.mul_le_mul_right _ (Nat.min_le_left _ _)
                have hmul2 : min n2 n * j.sz ≤ n * j.sz := Nat.mul_le_mul_right _ (Nat.min_le_right _ _)
                obtain ⟨us, f1, f2⟩ := hfc (min n2 n) (Nat.min_le_left _ _) (by omega)
                have hfl := f2.length
                rw [List.length_take] at hfl
                simp only [Array.length_toList] at hfl
                have hcell' : (ys.take (min n2 n * j.sz)).all cellB = true := by
                  rw [List.all_eq_true] at hcell ⊢
                  exact fun t ht => hcell t (List.mem_of_mem_take ht)
                have hrun : (Builtin.copy_ #[t1, t2] ty #[u, v]).run P M.w = match u with
                    | .slice (some a) _ _ => ((storeCells a us.toList).run P M.w).andThen fun _ w' => .ok (.int .i64 (min n2 n : Nat)) w'
                    | _ => .ok (.int .i64 (min n2 n : Nat)) M.w := by
                  obtain ⟨A, k, rfl⟩ : ∃ A k, u = .slice A n k := by
                    rcases hx with ⟨-, rfl, -, -, A, rfl⟩ | ⟨B, O, k, -, rfl, -⟩
                    · exact ⟨_, _, rfl⟩
                    · exact ⟨_, _, rfl⟩
                  have f1' := f1 M.w.drawn
                  have hmin : Nat.min n2 n = min n2 n := rfl
                  simp only [Builtin.copy_, List.getElem?_toArray, List.getElem?_cons_zero, List.getElem?_cons_succ, Sem.run_bind, run_underlying hD1, Result.andThen_ok, hlen, hjo.size_, hmin, f1']
                  cases A <;> simp [goInt]
                rcases hx with ⟨b1, rfl, rfl, b4, A, rfl⟩ | ⟨B, O, k, b1, rfl, b2, b3, b4, e', s, b5, b6⟩
                · have hus : us = #[] := Array.eq_empty_of_size_eq_zero (by rw [Nat.min_zero, Nat.zero_mul, Nat.zero_min] at hfl; exact hfl)
                  have hcs : putL cs 0 (ys.take (min n2 0 * j.sz)) = cs := by simp [putL]
                  refine ⟨.int .i64 (min n2 0 : Nat), M, ?_, Evo.refl _ _, ?_, rfl⟩
                  · rw [hrun, hus]; cases A <;> rfl
                  · rw [hcs]
                    refine SimH.set hblt (hS.congr (fun c => ?_) (fun c => Iff.rfl))
                    unfold updL
                    split
                    · rename_i he; rw [he, lookH_c.1 hc]
                    · rfl
                · obtain ⟨a0, e0, fz0, g1, g2, g3, g4, g5⟩ := hS.block b1 (lookH_c.1 hc)
                  have hsz : O + o + 0 + us.toList.length ≤ a0.size := by
                    rcases Nat.eq_zero_or_pos cs.length with h0 | h0
                    · simp; omega
                    · have := g3.size h0; simp; omega
                  obtain ⟨a', k1, k2, k3⟩ := run_storeCells_any (P := P) (o := O + o) us.toList 0 a0 M.w g1 g2 hsz (rep_cells f2 hcell')
                  have hr := written (a' := a') (o := o) g3 f2 (by rw [List.length_take]; omega) (fun k => by simpa using k3 k)
                  obtain ⟨Ev, S⟩ := hS.write b1 (lookH_c.1 hc) g1 k2 hr
                  refine ⟨.int .i64 (min n2 n : Nat), _, ?_, Ev, SimH.set hblt S, rfl⟩
                  rw [hrun]
                  simp only [k1, Result.andThen_ok]
                  rfl
              · cases h
          · cases h
    · cases h
theorem mClear_ok [Dr] (hT : TabOk P tab) {H H' : Hp} {X0 : Nat → Prop} (hS : SimH H X0 M) {t ty : Nat} {x r : T} {u : Value} (hx : Rep M x u) (h : mClear tab H t x = some (r, H')) :
    Writes X0 M P (Builtin.clear_ #[t] ty #[u]) r H' := by
  unfold mClear at h
  split at h
  · cases h
  · rename_i i hi
    obtain ⟨D1, hD1, hk1⟩ := (hT t i hi).kind
    split at h
    · rename_i e hfs
      rw [hfs] at hk1
      cases D1 <;> simp only [kdOk] at hk1
      rename_i E
      subst hk1
      split at h
      · cases h
      · rename_i j hj
        have hjo := hT _ j hj
        split at h
        · rename_i b o n z c
          split at h
          · cases h
          · rename_i cs hc
            split at h
            · rename_i hh
              injection h with h; injection h with h1 h2; subst h1 h2
              obtain ⟨rfl, hle, hcell⟩ := hh
              have hblt := lookH_lt hc
              obtain ⟨zz, hz1, hz2, hz3⟩ := hjo.zero_ M.w
              rcases hx with ⟨b1, rfl, rfl, b4, A, rfl⟩ | ⟨B, O, k, b1, rfl, b2, b3, b4, e', s, b5, b6⟩
              · have hz0 : zeros 0 j.zero = [] := List.eq_nil_of_length_eq_zero (by rw [zeros_length, Nat.zero_mul])
                have hcs : putL cs 0 (zeros 0 j.zero) = cs := by rw [hz0]; simp [putL]
                refine ⟨.tuple #[], M, ?_, Evo.refl _ _, ?_, [], rfl, rfl⟩
                · cases A <;> simp [Builtin.clear_, run_underlying hD1]
                · rw [hcs]
                  refine SimH.set hblt (hS.congr (fun c => ?_) (fun c => Iff.rfl))
                  unfold updL
                  split
                  · rename_i he; rw [he, lookH_c.1 hc]
                  · rfl
              · rcases Nat.eq_zero_or_pos n with h0 | h0
                · subst h0
                  have hz0 : zeros 0 j.zero = [] := List.eq_nil_of_length_eq_zero (by rw [zeros_length, Nat.zero_mul])
                  have hcs : putL cs o (zeros 0 j.zero) = cs := by rw [hz0]; simp [putL]
                  refine ⟨.tuple #[], M, ?_, Evo.refl _ _, ?_, [], rfl, rfl⟩
                  · simp [Builtin.clear_, run_underlying hD1]
                  · rw [hcs]
                    refine SimH.set hblt (hS.congr (fun c => ?_) (fun c => Iff.rfl))
                    unfold updL
                    split
                    · rename_i he; rw [he, lookH_c.1 hc]
                    · rfl
                · obtain ⟨a0, e0, fz0, g1, g2, g3, g4, g5⟩ := hS.block b1 (lookH_c.1 hc)
                  have f2 : RepL M (zeros n j.zero) (Builtin.zeroCells zz.cells n).toList := by rw [← hz2]; exact zeros_rep n zz.cells
                  have hl := f2.length
                  have hzl : (zeros n j.zero).length = n * j.sz := by rw [zeros_length, ← hz2, List.length_map, Array.length_toList, hz3]
                  have hcell' : (zeros n j.zero).all cellB = true := by
                    rw [List.all_eq_true] at hcell ⊢
                    intro t ht
                    obtain ⟨q, hq⟩ := List.mem_iff_getElem?.1 ht
                    rw [zeros_get] at hq
                    split at hq
                    · exact hcell t (List.mem_of_getElem? hq)
                    · cases hq
                  have hsz : O + o + 0 + (Builtin.zeroCells zz.cells n).toList.length ≤ a0.size := by
                    rcases Nat.eq_zero_or_pos cs.length with h1 | h1
                    · omega
                    · have := g3.size h1; omega
                  obtain ⟨a', k1, k2, k3⟩ := run_storeCells_any (P := P) (o := O + o) (Builtin.zeroCells zz.cells n).toList 0 a0 M.w g1 g2 hsz (rep_cells f2 hcell')
                  have hr := written (a' := a') (o := o) g3 f2 (by rw [hzl]; omega) (fun k => by simpa using k3 k)
                  obtain ⟨Ev, S⟩ := hS.write b1 (lookH_c.1 hc) g1 k2 hr
                  refine ⟨.tuple #[], _, ?_, Ev, SimH.set hblt S, [], rfl, rfl⟩
                  obtain ⟨n, rfl⟩ : ∃ m, n = m + 1 := ⟨n - 1, by omega⟩
                  simp [Builtin.clear_, run_underlying hD1, hz1, k1]
                  rfl
            · cases h
        · rename_i cs c
          injection h with h; injection h with h1 h2; subst h1 h2
          obtain ⟨A, k, rfl, -⟩ := hx
          exact ⟨.tuple #[], M, by cases A <;> simp [Builtin.clear_, run_underlying hD1], Evo.refl _ _, hS, [], rfl, rfl⟩
        · rename_i n k
          injection h with h; injection h with h1 h2; subst h1 h2
          obtain rfl := hx
          exact ⟨.tuple #[], M, by simp [Builtin.clear_, run_underlying hD1], Evo.refl _ _, hS, [], rfl, rfl⟩
        · cases h
    · cases h
end
end
section
open Go.RowKit
def Marks (kb : Nat) : List Deferred → Mp → Prop
  | [], _ => True
  | d :: ds, M => (∃ r, d = { target := .collected r, args := #[] } ∧ kb ≤ r ∧ ¬ M.X r ∧ M.w.heap[r]? = some (.deferred (some [])) ∧ ∀ d' ∈ ds, d' ≠ { target := .collected r, args := #[] }) ∧ Marks kb ds M
theorem Marks.evo [Dr] {kb : Nat} {X0 : Nat → Prop} {M M' : Mp} (h : Evo X0 M M') : ∀ {ds : List Deferred}, Marks kb ds M → Marks kb ds M'
  | [], _ => trivial
  | _ :: _, ⟨⟨r, h1, h0, h2, h3, h4⟩, k⟩ => ⟨⟨r, h1, h0, h.nox r (heap_lt h3) h2, (h.keep r (heap_lt h3) (.inl h2)).trans h3, h4⟩, Marks.evo h k⟩
structure St [Dr] (n kb : Nat) (E : Env) (H : Hp) (X0 : Nat → Prop) (a : Act) (M : Mp) : Prop where
  tm : ∀ d t, E.get d = some t → ∃ u, a.tmps[d]? = some u ∧ Rep M t u
  sz : a.tmps.size = n
  df : Marks kb a.defers M
  ge : kb ≤ M.w.heap.size
  sim : SimH H X0 M
def goB (P : Program) (f : FuncId) : Bool := match P.funcs[f]? with | some fn => !(fn.name == "runtime.NumGoroutine") && !fn.body.isNone | none => false
theorem run_goFunc {P : Program} (f : FuncId) (args : Array Value) (w : World) (h : goB P f = true) : (callFunc f args).run P w = .ok (.enter f args) w := by
  unfold goB at h
  unfold callFunc
  cases hf : P.funcs[f]? with
  | none => rw [hf] at h; cases h
  | some fn =>
    rw [hf] at h
    simp only [Bool.and_eq_true, Bool.not_eq_true'] at h
    rw [Sem.run_bind, show (program.run P w) = .ok P w from rfl]
    simp only [Result.andThen_ok, hf, h.1, h.2, Bool.false_eq_true, if_false, Sem.run_pure]
def FW (r : Option Nat) : Fence := { Fence.wide with round := r }
theorem semAt_eq {o : Oper} {r : Option Nat} {ρ : Operand → Value} (h : ∀ c, o.op ≠ .defer c) : o.semAt r ρ = execOp ρ o := by
  cases r with
  | none => rfl
  | some l => unfold Oper.semAt; cases ho : o.op <;> first | rfl | exact absurd ho (h _)
theorem wpIn_of {P : Program} {o : Oper} {a : Act} {w : World} {r : Option Nat} {K : Act → World → Prop} {Q : Exit → Act → World → Prop} (hd : ∀ c, o.op ≠ .defer c) (h : o.uponIn (FW r) 0 P a K Q ((execOp a.eval o).run P w)) : o.wpIn (FW r) 0 P a w K Q :=
  ⟨fun _ _ => trivial, by rw [semAt_eq hd]; exact h⟩
theorem opM_op {tab : Tab} {look : Look} {nx : Nat} {ρ : EnvF} {op : Op} {x : T × Option (Nat × List T)} (h : opM tab look nx ρ op = some x) : ∀ c, op ≠ .defer c := by
  intro c e; subst e; simp [opM] at h
def Came [Dr] (X0 : Nat → Prop) (M : Mp) (Q : T → Hp → Prop) (e : Ending) (w' : World) : Prop := ∃ u t H' M', e = .returned u ∧ M'.w = w' ∧ Q t H' ∧ Evo X0 M M' ∧ SimH H' X0 M' ∧ Rep M' t u
def CallT [Dr] (P : Program) (f : FuncId) (args : List T) (H : Hp) (Q : T → Hp → Prop) : Prop :=
  goB P f = true ∧ ∀ X0 M us, SimH H X0 M → RepL M args us → Calls P f us.toArray M.w (Came X0 M Q)
theorem CallT.mono [Dr] {P : Program} {f : FuncId} {args : List T} {H : Hp} {Q Q' : T → Hp → Prop} (h : CallT P f args H Q) (k : ∀ t H', Q t H' → Q' t H') : CallT P f args H Q' :=
  ⟨h.1, fun X0 M us hS hr => (h.2 X0 M us hS hr).mono fun e w' ⟨u, t, H', M', h1, h2, h3, h4⟩ => ⟨u, t, H', M', h1, h2, k _ _ h3, h4⟩⟩
def YieldT [Dr] (P : Program) (b : Nat) (args : List T) (H : Hp) (Q : T → Hp → Prop) : Prop :=
  ∀ X0 M B O us, SimH H X0 M → M.β b = some (some (B, O)) → RepL M args us → ∃ f tmps asx bd, (Instr.yield B us.toArray).run P M.w = .ok (.round B f tmps asx bd) M.w ∧ ∀ r, RoundIn (FW r) 0 P B f tmps asx bd M.w (Came X0 M Q)
def immT (t : T) (cs : List T) : T := match t with | .ptr _ o => .iptr cs o | .slc _ _ n _ c => .islc cs n c | t => t
def imB (im : List Nat) : Option Nat → Bool
  | none => false
  | some d => im.elem d
def ExtT [Dr] (P : Program) (o : Oper) (H : Hp) (ρ : EnvF) (Q : T → Hp → Prop) : Prop :=
  (∀ c, o.op ≠ .defer c) ∧ ∀ (X0 : Nat → Prop) (M : Mp) (ρ' : Operand → Value), SimH H X0 M → (∀ x t, ρ x = some t → Rep M t (ρ' x)) →
    ∃ t H' M', ((∃ u, (execOp ρ' o).run P M.w = .ok (.value u) M'.w ∧ Rep M' t u) ∨ ((execOp ρ' o).run P M.w = .ok .skip M'.w ∧ t = .v undef)) ∧ Evo X0 M M' ∧ SimH H' X0 M' ∧ Q t H'
def vcOp [Dr] (P : Program) (tab : Tab) (im : List Nat) (o : Oper) (E : Env) (H : Hp) (K : Env → Hp → Prop) : Prop :=
  match o.op with
  | .store t a x =>
    match E.opd a, E.opd x with
    | some ta, some tx => match mStore tab H t ta tx with | some H' => K (E.put o.dst (.v undef)) H' | none => False
    | _, _ => False
  | .call ⟨.value f, args, _⟩ =>
    match E.opd f, optL E.opd args.toList with
    | some (.clo g fs cs), some ts => CallT P g (fs ++ ts ++ cs) H (fun t H' => K (E.put o.dst t) H')
    | some (.yl b), some ts => YieldT P b ts H (fun t H' => K (E.put o.dst t) H')
    | _, _ => False
  | .call ⟨.builtin .append, args, ats⟩ =>
    match args.toList, ats.toList with
    | [x, y], [t1, t2] =>
      match E.opd x, E.opd y with
      | some a, some b => match mAppend tab H t1 t2 a b with | some (r, H') => K (E.put o.dst r) H' | none => False
      | _, _ => False
    | _, _ => False
  | .call ⟨.builtin .copy, args, ats⟩ =>
    match args.toList, ats.toList with
    | [x, y], [t1, t2] =>
      match E.opd x, E.opd y with
      | some a, some b => match mCopy tab H t1 t2 a b with | some (r, H') => K (E.put o.dst r) H' | none => False
      | _, _ => False
    | _, _ => False
  | .call ⟨.builtin .clear, args, ats⟩ =>
    match args.toList, ats.toList with
    | [x], [t] =>
      match E.opd x with
      | some a => match mClear tab H t a with | some (r, H') => K (E.put o.dst r) H' | none => False
      | _ => False
    | _, _ => False
  | op =>
    match opM tab (lookH H) H.length E.opd op with
    | some (t, none) => K (E.put o.dst t) H
    | some (t, some (_, cs)) => if imB im o.dst = true then K (E.put o.dst (immT t cs)) H else K (E.put o.dst t) (H ++ [.c cs])
    | none => ExtT P o H E.opd fun t H' => K (E.put o.dst t) H'
def vcGuard (ds : List (Option Nat)) (E : Env) (o : Oper) (K1 K0 : Prop) : Prop :=
  match o.guard with
  | none => K1
  | some (j, want) =>
    match ds[j]? with
    | some (some d) => match E.get d with | some (.v (.bool b)) => if b = want then K1 else K0 | some (.v (.tuple _)) => K0 | _ => False
    | _ => False
def vcSeq [Dr] (P : Program) (tab : Tab) (im : List Nat) (ds : List (Option Nat)) : List Oper → Env → Hp → (Env → Hp → Prop) → Prop
  | [], E, H, K => K E H
  | o :: l, E, H, K => vcGuard ds E o (vcOp P tab im o E H fun E H => vcSeq P tab im ds l E H K) (vcSeq P tab im ds l (E.put o.dst (.v undef)) H K)
def dstB (n : Nat) (l : List Oper) : Bool := l.all fun o => match o.dst with | some d => decide (d < n) | none => true
section
variable {P : Program} {tab : Tab} {n kb : Nat} {E : Env} {H : Hp} {X0 : Nat → Prop} {a : Act} {M : Mp}
theorem rep_opd [Dr] (h : St n kb E H X0 a M) (x : Operand) (t : T) (hx : E.opd x = some t) : Rep M t (a.eval x) := by
  cases x with
  | tmp d =>
    obtain ⟨u, h1, h2⟩ := h.tm d t hx
    have : a.eval (.tmp d) = u := by show a.tmps.getD d undef = u; simp [h1]
    rw [this]; exact h2
  | const v => simp only [Env.opd] at hx; injection hx with hx; subst hx; exact rep_ofV v
  | func f => simp only [Env.opd] at hx; injection hx with hx; subst hx; exact ⟨[], [], rfl, rfl, rfl⟩
  | global g => simp only [Env.opd] at hx; injection hx with hx; subst hx; exact rfl
theorem St.put [Dr] (h : St n kb E H X0 a M) {M' : Mp} {H' : Hp} {t : T} {u : Value} (hE : Evo X0 M M') (hS : SimH H' X0 M') (hr : Rep M' t u) {d : Option Nat} (hd : ∀ k, d = some k → k < n) : St n kb (E.put d t) H' X0 (a.put d u) M' := by
  cases d with
  | none => exact ⟨fun k s hs => by obtain ⟨v, h1, h2⟩ := h.tm k s hs; exact ⟨v, h1, Rep.stays hE.stays _ _ h2⟩, h.sz, h.df.evo hE, Nat.le_trans h.ge hE.size, hS⟩
  | some d =>
    refine ⟨fun k s hs => ?_, by simp [Act.put, h.sz], h.df.evo hE, Nat.le_trans h.ge hE.size, hS⟩
    rw [get_put] at hs
    simp only [Act.put]
    by_cases hk : k = d
    · subst hk
      rw [if_pos rfl] at hs; injection hs with hs; subst hs
      exact ⟨u, by simp [h.sz, hd _ rfl], hr⟩
    · rw [if_neg hk] at hs
      obtain ⟨v, h1, h2⟩ := h.tm k s hs
      exact ⟨v, by rw [Array.getElem?_setIfInBounds_ne (Ne.symm hk)]; exact h1, Rep.stays hE.stays _ _ h2⟩
def AtNew (nx : Nat) (t : T) : Prop := match t with | .ptr b o => b = nx ∧ o = 0 | .slc b o _ _ _ => b = nx ∧ o = 0 | _ => False
theorem imm_new [Dr] {nx : Nat} {x : Sem Next} {t : T} {e : Nat} {cs : List T} {D : Nat → Prop} {blk : Nat → Blk} (hS : Sim blk D X0 M) (h : Meek1 M P nx x t (some (e, cs))) (ht : AtNew nx t) :
    ∃ u w', x.run P M.w = .ok (.value u) w' ∧ Evo X0 M ⟨M.β, M.X, w'⟩ ∧ (∀ B, B < M.w.heap.size → w'.heap[B]? = M.w.heap[B]?) ∧ Rep ⟨M.β, M.X, w'⟩ (immT t cs) u := by
  obtain ⟨u, a, h1, h2, h3⟩ := h
  have hk : ∀ B, B < M.w.heap.size → (M.w.heap.push (.cells a e))[B]? = M.w.heap[B]? := fun B hB => by rw [heap_push, if_neg (by omega)]
  have hE : Evo X0 M ⟨M.β, M.X, { M.w with heap := M.w.heap.push (.cells a e) }⟩ := by
    refine ⟨fun _ _ h => h, fun _ _ h => h, fun B hB _ => hk B hB, fun B s hs => ?_, rfl, ⟨rfl, fun _ => Nat.le_refl _⟩, rfl, by simp⟩
    have : B < M.w.heap.size := by
      rcases Nat.lt_or_ge B M.w.heap.size with h1 | h1
      · exact h1
      · simp [World.shape?, Array.getElem?_eq_none h1] at hs
    rw [← hs]
    exact shape_block (hk B this)
  have hnew : (M.w.heap.push (.cells a e))[M.w.heap.size]? = some (.cells a e (0, 0)) := by rw [heap_push, if_pos rfl]
  have himm : Mp.imm ⟨M.β, M.X, { M.w with heap := M.w.heap.push (.cells a e) }⟩ M.w.heap.size a := ⟨fun hx => by have := hS.bnd _ hx; omega, e, (0, 0), hnew⟩
  have hr := RepA.stays hE.stays _ _ _ h2
  have h4 := h3 (newM M nx { M.w with heap := M.w.heap.push (.cells a e) }) (if_pos rfl) (shape_of_heap hnew)
  refine ⟨u, _, h1, hE, hk, ?_⟩
  cases t with
  | ptr b o =>
    obtain ⟨rfl, rfl⟩ := ht
    obtain ⟨B, O, q1, q2⟩ := h4
    have q1 : (if b = b then some (some (M.w.heap.size, 0)) else M.β b) = some (some (B, O)) := q1
    rw [if_pos rfl] at q1; injection q1 with q1; injection q1 with q1; injection q1 with e1 e2; subst e1 e2
    exact ⟨M.w.heap.size, 0, a, q2, himm, hr⟩
  | slc b o n z c =>
    obtain ⟨rfl, rfl⟩ := ht
    rcases h4 with ⟨q1, -⟩ | ⟨B, O, k, q1, q2, q3, q4, q5, -⟩
    · have q1 : (if b = b then some (some (M.w.heap.size, 0)) else M.β b) = some none := q1
      rw [if_pos rfl] at q1; injection q1 with q1; cases q1
    · have q1 : (if b = b then some (some (M.w.heap.size, 0)) else M.β b) = some (some (B, O)) := q1
      rw [if_pos rfl] at q1; injection q1 with q1; injection q1 with q1; injection q1 with e1 e2; subst e1 e2
      exact ⟨_, k, q2, q3, q4, q5, .inr ⟨M.w.heap.size, 0, a, rfl, himm, hr⟩⟩
  | _ => exact ht.elim
theorem mBuildSlice_new {nx t len : Nat} {ps : List (Nat × T)} {r : T} {nb : Option (Nat × List T)} (h : mBuildSlice tab nx t len ps = some (r, nb)) : AtNew nx r := by
  unfold mBuildSlice at h
  repeat' split at h
  all_goals first
    | (cases h; done)
    | (injection h with h; injection h with h1 h2; subst h1; exact ⟨rfl, rfl⟩)
theorem mMakeSlice_new {nx t : Nat} {l c r : T} {nb : Option (Nat × List T)} (h : mMakeSlice tab nx t l c = some (r, nb)) : AtNew nx r := by
  unfold mMakeSlice at h
  repeat' split at h
  all_goals first
    | (cases h; done)
    | (injection h with h; injection h with h1 h2; subst h1; exact ⟨rfl, rfl⟩)
theorem opM_new {look : Look} {nx : Nat} {ρ : EnvF} {op : Op} {t : T} {p : Nat × List T} (h : opM tab look nx ρ op = some (t, some p)) : AtNew nx t := by
  unfold opM at h
  repeat' split at h
  all_goals first
    | exact mBuildSlice_new h
    | exact mMakeSlice_new h
    | (injection h with h; injection h with h1 h2; first | (cases h2; done) | (subst h1; exact ⟨rfl, rfl⟩))
    | (cases h; done)
theorem Sim.world [Dr] {blk : Nat → Blk} {D : Nat → Prop} {M : Mp} {w' : World} (h : Sim blk D X0 M) (hE : Evo X0 M ⟨M.β, M.X, w'⟩) (hk : ∀ B, B < M.w.heap.size → w'.heap[B]? = M.w.heap[B]?) : Sim blk D X0 ⟨M.β, M.X, w'⟩ := by
  refine ⟨fun b cs hl hd => ?_, fun b p hl hd => ?_, h.inj, h.dom, h.own, fun B hB => Nat.lt_of_lt_of_le (h.bnd B hB) hE.size, Glo.evo hE h.glo⟩
  · rcases h.live b cs hl hd with g | ⟨B, O, a, e, fz, g1, g2, g3, g4, g5, g6⟩
    · exact .inl g
    · exact .inr ⟨B, O, a, e, fz, g1, (hk B (heap_lt g2)).trans g2, g3, RepA.stays hE.stays _ _ _ g4, g5, g6⟩
  · obtain ⟨B, o, g1, g2, g3, g4, g5⟩ := h.liveo b p hl hd
    exact ⟨B, o, g1, (hk B (heap_lt g2)).trans g2, g3, p.st hE.stays g4, g5⟩
theorem vcOp_ok [Dr] (hT : TabOk P tab) {im : List Nat} {o : Oper} {K : Env → Hp → Prop} {r : Option Nat} {KA : Act → World → Prop} {Q : Exit → Act → World → Prop} (h : St n kb E H X0 a M) (hd : ∀ k, o.dst = some k → k < n)
    (hK : ∀ E' H' a' M', K E' H' → Evo X0 M M' → St n kb E' H' X0 a' M' → KA a' M'.w) (hv : vcOp P tab im o E H K) : o.wpIn (FW r) 0 P a M.w KA Q := by
  have meek : ∀ t nb, opM tab (lookH H) H.length E.opd o.op = some (t, nb) → (match nb with | none => K (E.put o.dst t) H | some (_, cs) => if imB im o.dst = true then K (E.put o.dst (immT t cs)) H else K (E.put o.dst t) (H ++ [.c cs])) → o.wpIn (FW r) 0 P a M.w KA Q := by
    intro t nb hm hk
    have := opM_ok (M := M) (ρ' := a.eval) hT h.sim.look (fun x _ t ht => rep_opd h x t ht) hm
    refine wpIn_of (opM_op hm) ?_
    cases nb with
    | none =>
      obtain ⟨u, h1, h2⟩ := this
      rw [h1]
      exact hK _ _ _ M hk (Evo.refl _ _) (h.put (Evo.refl _ _) h.sim h2 hd)
    | some p =>
      obtain ⟨e, cs⟩ := p
      simp only at hk
      split at hk
      · obtain ⟨u, w', q1, q2, q3, q4⟩ := imm_new h.sim this (opM_new hm)
        rw [q1]
        exact hK _ _ _ _ hk q2 (h.put q2 (h.sim.world q2 q3) q4 hd)
      obtain ⟨u, ar, h1, h2, h3⟩ := this
      rw [h1]
      obtain ⟨Ev, S, hsh⟩ := h.sim.new (nx := H.length) (fun hh => Nat.lt_irrefl _ hh) (w := { M.w with heap := M.w.heap.push (.cells ar e) }) rfl rfl ⟨rfl, fun _ => Nat.le_refl _⟩ rfl (fun j _ hj => by simp at hj) h2
      exact hK _ _ _ (newM M H.length _) hk Ev (h.put Ev (SimH.push S) (h3 _ (if_pos rfl) hsh) hd)
  obtain ⟨dst, op, ty, pos, after, guard⟩ := o
  simp only at hd
  unfold vcOp at hv
  simp only at hv
  split at hv
  · rename_i t x y
    split at hv
    · rename_i ta tx h1 h2
      split at hv
      · rename_i H' hs
        obtain ⟨M', k1, k2, k3⟩ := mStore_ok hT h.sim (rep_opd h _ _ h1) (rep_opd h _ _ h2) hs
        refine wpIn_of (by simp) ?_
        have hr : (execOp a.eval ⟨dst, .store t x y, ty, pos, after, guard⟩).run P M.w = .ok .skip M'.w := by simp [execOp, k1]
        rw [hr]
        exact hK _ _ _ M' hv k2 (h.put k2 k3 (t := .v undef) rfl hd)
      · exact hv.elim
    · exact hv.elim
  · rename_i f args ats
    split at hv
    · rename_i g fs cs ts h1 h2
      obtain ⟨hgo, hc⟩ := hv
      obtain ⟨us, ws, e1, r1, r2⟩ := rep_opd h _ _ h1
      have r3 := optL_ok (M := M) (ρ' := a.eval) _ _ (fun x _ t ht => rep_opd h x t ht) h2
      refine wpIn_of (by simp) ?_
      have hr : (execOp a.eval ⟨dst, .call ⟨.value f, args, ats⟩, ty, pos, after, guard⟩).run P M.w = .ok (.enter g (us ++ args.toList.map a.eval ++ ws).toArray) M.w := by
        simp only [execOp, resolve, Sem.run_bind, e1, Deferred.ofValue, Sem.run_pure, Result.andThen_ok, invoke]
        rw [run_goFunc _ _ _ hgo, ← map_arr]
        simp
      rw [hr]
      refine ⟨fun hh => (by cases hh), callsIn_wide.2 ((hc X0 M _ h.sim (RepL.append (RepL.append r1 r3) r2)).mono ?_)⟩
      rintro e w' ⟨u, t, H', M', rfl, rfl, k1, k2, k3, k4⟩
      exact hK _ _ _ M' k1 k2 (h.put k2 k3 k4 hd)
    · rename_i b ts h1 h2
      obtain ⟨B, O, hb, e1⟩ := rep_opd h _ _ h1
      have r3 := optL_ok (M := M) (ρ' := a.eval) _ _ (fun x _ t ht => rep_opd h x t ht) h2
      obtain ⟨fn, tmps, asx, bd, y1, y2⟩ := hv X0 M B O _ h.sim hb r3
      refine wpIn_of (by simp) ?_
      have hr : (execOp a.eval ⟨dst, .call ⟨.value f, args, ats⟩, ty, pos, after, guard⟩).run P M.w = .ok (.round B fn tmps asx bd) M.w := by
        simp only [execOp, resolve, Sem.run_bind, e1, Deferred.ofValue, Sem.run_pure, Result.andThen_ok, invoke]
        rw [← y1, ← map_arr]
        simp
      rw [hr]
      refine ⟨fun hh => (by cases hh), (y2 r).mono ?_⟩
      rintro e w' ⟨u, t, H', M', rfl, rfl, k1, k2, k3, k4⟩
      exact hK _ _ _ M' k1 k2 (h.put k2 k3 k4 hd)
    · exact hv.elim
  · rename_i args ats
    split at hv
    · rename_i x y t1 t2 ha ht
      split at hv
      · rename_i ta tb h1 h2
        split at hv
        · rename_i r H' hs
          obtain rfl : args = #[x, y] := by rw [← Array.toArray_toList (xs := args), ha]
          obtain rfl : ats = #[t1, t2] := by rw [← Array.toArray_toList (xs := ats), ht]
          obtain ⟨u, M', k1, k2, k3, k4⟩ := mAppend_ok (ty := ty) hT h.sim (rep_opd h _ _ h1) (rep_opd h _ _ h2) hs
          refine wpIn_of (by simp) ?_
          have hr : (execOp a.eval ⟨dst, .call ⟨.builtin .append, #[x, y], #[t1, t2]⟩, ty, pos, after, guard⟩).run P M.w = .ok (.value u) M'.w := by simp [execOp, resolve, invoke, builtin, k1]
          rw [hr]
          exact hK _ _ _ M' hv k2 (h.put k2 k3 k4 hd)
        · exact hv.elim
      · exact hv.elim
    · exact hv.elim
  · rename_i args ats
    split at hv
    · rename_i x y t1 t2 ha ht
      split at hv
      · rename_i ta tb h1 h2
        split at hv
        · rename_i r H' hs
          obtain rfl : args = #[x, y] := by rw [← Array.toArray_toList (xs := args), ha]
          obtain rfl : ats = #[t1, t2] := by rw [← Array.toArray_toList (xs := ats), ht]
          obtain ⟨u, M', k1, k2, k3, k4⟩ := mCopy_ok (ty := ty) hT h.sim (rep_opd h _ _ h1) (rep_opd h _ _ h2) hs
          refine wpIn_of (by simp) ?_
          have hr : (execOp a.eval ⟨dst, .call ⟨.builtin .copy, #[x, y], #[t1, t2]⟩, ty, pos, after, guard⟩).run P M.w = .ok (.value u) M'.w := by simp [execOp, resolve, invoke, builtin, k1]
          rw [hr]
          exact hK _ _ _ M' hv k2 (h.put k2 k3 k4 hd)
        · exact hv.elim
      · exact hv.elim
    · exact hv.elim
  · rename_i args ats
    split at hv
    · rename_i x t ha ht
      split at hv
      · rename_i ta h1
        split at hv
        · rename_i r H' hs
          obtain rfl : args = #[x] := by rw [← Array.toArray_toList (xs := args), ha]
          obtain rfl : ats = #[t] := by rw [← Array.toArray_toList (xs := ats), ht]
          obtain ⟨u, M', k1, k2, k3, k4⟩ := mClear_ok (ty := ty) hT h.sim (rep_opd h _ _ h1) hs
          refine wpIn_of (by simp) ?_
          have hr : (execOp a.eval ⟨dst, .call ⟨.builtin .clear, #[x], #[t]⟩, ty, pos, after, guard⟩).run P M.w = .ok (.value u) M'.w := by simp [execOp, resolve, invoke, builtin, k1]
          rw [hr]
          exact hK _ _ _ M' hv k2 (h.put k2 k3 k4 hd)
        · exact hv.elim
      · exact hv.elim
    · exact hv.elim
  · split at hv
    · rename_i t hm; exact meek _ _ hm hv
    · rename_i t e cs hm; exact meek _ _ hm hv
    · obtain ⟨hnd, hx⟩ := hv
      obtain ⟨t, H', M', hr, hE, hS, hk⟩ := hx X0 M a.eval h.sim (fun x t ht => rep_opd h x t ht)
      refine wpIn_of hnd ?_
      rcases hr with ⟨u, hr, hu⟩ | ⟨hr, rfl⟩
      · rw [hr]; exact hK _ _ _ M' hk hE (h.put hE hS hu hd)
      · rw [hr]; exact hK _ _ _ M' hk hE (h.put hE hS (t := .v undef) rfl hd)
theorem vcGuard_ok [Dr] {ops : Array Oper} {o : Oper} {K1 K0 : Prop} (h : St n kb E H X0 a M) (hv : vcGuard (ops.toList.map (·.dst)) E o K1 K0) : if Region.wanted o (yielded ops a.tmps) then K1 else K0 := by
  unfold vcGuard at hv
  split at hv
  · rename_i hg; simpa [Region.wanted, hg] using hv
  · rename_i j want hg
    split at hv
    · rename_i d hd
      split at hv
      · rename_i b hb
        obtain ⟨u, h1, h2⟩ := h.tm d _ hb
        obtain rfl := h2
        have hd' : (ops[j]?).bind (·.dst) = some d := by
          rw [List.getElem?_map, Option.map_eq_some_iff] at hd
          obtain ⟨oj, e1, e2⟩ := hd
          rw [Array.getElem?_toList] at e1
          rw [e1]; exact e2
        have hy : yielded ops a.tmps j = some b := by simp only [yielded, hd', Option.bind_some, h1]
        simp only [Region.wanted, hg, hy]
        cases b <;> cases want <;> simpa using hv
      · rename_i xs hb
        obtain ⟨u, h1, h2⟩ := h.tm d _ hb
        obtain rfl := h2
        have hd' : (ops[j]?).bind (·.dst) = some d := by
          rw [List.getElem?_map, Option.map_eq_some_iff] at hd
          obtain ⟨oj, e1, e2⟩ := hd
          rw [Array.getElem?_toList] at e1
          rw [e1]; exact e2
        have hy : yielded ops a.tmps j = none := by simp only [yielded, hd', Option.bind_some, h1]
        simp only [Region.wanted, hg, hy]
        simpa using hv
      · exact hv.elim
    · exact hv.elim
theorem vcSeq_ok [Dr] (hT : TabOk P tab) {im : List Nat} {ops : Array Oper} {r : Option Nat} {Q : Exit → Act → World → Prop} {K : Env → Hp → Prop} : ∀ (l : List Oper) {E : Env} {H : Hp} {a : Act} {M : Mp}, dstB n l = true → St n kb E H X0 a M →
    (∀ E' H' a' M', K E' H' → Evo X0 M M' → St n kb E' H' X0 a' M' → Q .normal a' M'.w) → vcSeq P tab im (ops.toList.map (·.dst)) l E H K → wpListIn (FW r) 0 P ops Q l a M.w
  | [], E, H, a, M, _, h, hK, hv => wpListIn_nil (hK E H a M hv (Evo.refl _ _) h)
  | o :: l, E, H, a, M, hd, h, hK, hv => by
    simp only [dstB, List.all_cons, Bool.and_eq_true] at hd
    have hdo : ∀ k, o.dst = some k → k < n := fun k hk => by have := hd.1; rw [hk] at this; simpa using this
    have hg := vcGuard_ok h hv
    refine wpListIn_step fun KA hKA => ?_
    split
    · rename_i hw
      rw [if_pos hw] at hg
      refine vcOp_ok hT h hdo (fun E' H' a' M' hk he hs => hKA _ _ ?_) hg
      exact vcSeq_ok hT l hd.2 hs (fun E2 H2 a2 M2 k1 k2 k3 => hK E2 H2 a2 M2 k1 (he.trans k2) k3) hk
    · rename_i hw
      rw [if_neg hw] at hg
      refine ⟨fun _ _ => trivial, hKA _ _ ?_⟩
      exact vcSeq_ok hT l hd.2 (h.put (Evo.refl _ _) h.sim (t := .v undef) rfl hdo) hK hg
end
structure EvoK [Dr] (lb : Nat) (X0 : Nat → Prop) (M M' : Mp) : Prop where
  at_ : ∀ b p, b < lb → M.β b = some p → M'.β b = some p
  nox : ∀ B, B < M.w.heap.size → ¬ M.X B → ¬ M'.X B
  keep : ∀ B, B < M.w.heap.size → (¬ M.X B ∨ X0 B) → M'.w.heap[B]? = M.w.heap[B]?
  shape : ∀ B s, M.w.shape? B = some s → M'.w.shape? B = some s
  os : M'.w.os = M.w.os
  tape : Tp M.w M'.w
  output : M'.w.output = M.w.output
  size : M.w.heap.size ≤ M'.w.heap.size
theorem Evo.toK [Dr] {X0 : Nat → Prop} {M M' : Mp} (lb : Nat) (h : Evo X0 M M') : EvoK lb X0 M M' := ⟨fun b p _ hp => h.at_ b p hp, h.nox, h.keep, h.shape, h.os, h.tape, h.output, h.size⟩
theorem EvoK.refl [Dr] {lb : Nat} (X0 : Nat → Prop) (M : Mp) : EvoK lb X0 M M := (Evo.refl X0 M).toK lb
theorem EvoK.trans [Dr] {lb : Nat} {X0 : Nat → Prop} {a b c : Mp} (h : EvoK lb X0 a b) (k : EvoK lb X0 b c) : EvoK lb X0 a c :=
  ⟨fun x p hx q => k.at_ x p hx (h.at_ x p hx q), fun B hB hx => k.nox B (Nat.lt_of_lt_of_le hB h.size) (h.nox B hB hx),
   fun B hB hx => (k.keep B (Nat.lt_of_lt_of_le hB h.size) (hx.imp (h.nox B hB) id)).trans (h.keep B hB hx),
   fun B s hs => k.shape B s (h.shape B s hs), k.os.trans h.os, k.tape.trans h.tape, k.output.trans h.output, Nat.le_trans h.size k.size⟩
theorem EvoK.evo [Dr] {lb : Nat} {X0 : Nat → Prop} {M M' : Mp} (h : EvoK lb X0 M M') (hd : ∀ b, ¬ b < lb → M.β b = none) : Evo X0 M M' :=
  ⟨fun b p hp => h.at_ b p (Classical.byContradiction fun hb => by rw [hd b hb] at hp; cases hp) hp, h.nox, h.keep, h.shape, h.os, h.tape, h.output, h.size⟩
def Lift [Dr] (n kb lb : Nat) (X0 : Nat → Prop) (M : Mp) (QT : Exit → Env → Hp → Prop) (e : Exit) (a' : Act) (w' : World) : Prop := ∃ E' H' M', QT e E' H' ∧ M'.w = w' ∧ EvoK lb X0 M M' ∧ St n kb E' H' X0 a' M'
def VC [Dr] (z : Bool) (P : Program) (n lb : Nat) (c : Code) (QT : Exit → Env → Hp → Prop) (E : Env) (H : Hp) : Prop := ∀ X0 M a r kb, (z = true → r = none) → St n kb E H X0 a M → c.wpIn (FW r) 0 P (Lift n kb lb X0 M QT) a M.w
def ExThen (K : Env → Hp → Prop) (QT : Exit → Env → Hp → Prop) : Exit → Env → Hp → Prop
  | .normal, E, H => K E H
  | e, E, H => QT e E H
def ExBlock (id : Nat) (QT : Exit → Env → Hp → Prop) : Exit → Env → Hp → Prop
  | .exit k, E, H => if k = id then QT .normal E H else QT (.exit k) E H
  | e, E, H => QT e E H
section
variable {z : Bool} {P : Program} {tab : Tab} {n lb : Nat} {E : Env} {H : Hp} {QT : Exit → Env → Hp → Prop}
theorem Lift.evo [Dr] {kb : Nat} {X0 : Nat → Prop} {M M1 : Mp} {e : Exit} {a : Act} {w : World} (h : Lift n kb lb X0 M1 QT e a w) (k : EvoK lb X0 M M1) : Lift n kb lb X0 M QT e a w := by
  obtain ⟨E', H', M', h1, h2, h3, h4⟩ := h
  exact ⟨E', H', M', h1, h2, k.trans h3, h4⟩
theorem VC.mono [Dr] {c : Code} {QT' : Exit → Env → Hp → Prop} (h : VC z P n lb c QT E H) (k : ∀ e E H, QT e E H → QT' e E H) : VC z P n lb c QT' E H :=
  fun X0 M a r kb hz hs => wpIn_mono (h X0 M a r kb hz hs) fun e a' w' ⟨E', H', M', h1, h2⟩ => ⟨E', H', M', k _ _ _ h1, h2⟩
theorem VC.skip [Dr] (h : QT .normal E H) : VC z P n lb .skip QT E H := fun X0 M a r kb hz hs => wpIn_skip ⟨E, H, M, h, rfl, EvoK.refl _ _, hs⟩
theorem VC.exit [Dr] {id : Nat} (h : QT (.exit id) E H) : VC z P n lb (.exit id) QT E H := fun X0 M a r kb hz hs => wpIn_exit ⟨E, H, M, h, rfl, EvoK.refl _ _, hs⟩
theorem VC.ret [Dr] (h : QT .ret E H) : VC z P n lb .ret QT E H := fun X0 M a r kb hz hs => wpIn_ret ⟨E, H, M, h, rfl, EvoK.refl _ _, hs⟩
theorem VC.seq [Dr] {x y : Code} (h : VC z P n lb x (ExThen (VC z P n lb y QT) QT) E H) : VC z P n lb (.seq x y) QT E H := by
  intro X0 M a r kb hz hs
  refine wpIn_seq (wpIn_mono (h X0 M a r kb hz hs) fun e a' w' hl => ?_)
  obtain ⟨E', H', M', h1, rfl, h3, h4⟩ := hl
  cases e with
  | normal => exact wpIn_mono (h1 X0 M' a' r kb hz h4) fun e a2 w2 hl => hl.evo h3
  | _ => exact ⟨E', H', M', h1, rfl, h3, h4⟩
theorem VC.cond [Dr] {c : Operand} {x y : Code} {b : Bool} (hc : E.opd c = some (.v (.bool b))) (h1 : b = true → VC z P n lb x QT E H) (h2 : b = false → VC z P n lb y QT E H) : VC z P n lb (.cond c x y) QT E H := by
  intro X0 M a r kb hz hs
  have hb : a.eval c = .bool b := rep_opd hs _ _ hc
  refine wpIn_cond hb ?_
  cases b
  · exact h2 rfl X0 M a r kb hz hs
  · exact h1 rfl X0 M a r kb hz hs
theorem VC.block [Dr] {id : Nat} {c : Code} (h : VC z P n lb c (ExBlock id QT) E H) : VC z P n lb (.block id c) QT E H := by
  intro X0 M a r kb hz hs
  refine wpIn_block (wpIn_mono (h X0 M a r kb hz hs) fun e a' w' hl => ?_)
  obtain ⟨E', H', M', h1, h2⟩ := hl
  cases e with
  | exit k =>
    simp only [ExBlock] at h1
    simp only [Exit.inBlock]
    split
    · rename_i hk; rw [if_pos hk] at h1; exact ⟨E', H', M', h1, h2⟩
    · rename_i hk; rw [if_neg hk] at h1; exact ⟨E', H', M', h1, h2⟩
  | _ => exact ⟨E', H', M', h1, h2⟩
theorem VC.region [Dr] {id : Nat} {l : List Oper} (hT : TabOk P tab) (im : List Nat) (hd : dstB n l = true) (h : vcSeq P tab im (l.map (·.dst)) l E H (QT .normal)) : VC z P n lb (.region id l.toArray false) QT E H := by
  intro X0 M a r kb hz hs
  refine wpIn_region_lit (vcSeq_ok hT l hd hs (fun E' H' a' M' k1 k2 k3 => ?_) h)
  exact ⟨E', H', M', k1, rfl, k2.toK lb, k3⟩
def subL : Env → Env → Prop
  | [], _ => True
  | (d, t) :: r, E => E.get d = some t ∧ subL r E
theorem subL_get : ∀ {L E : Env}, subL L E → ∀ d t, L.get d = some t → E.get d = some t
  | [], _, _, d, t, h => by cases h
  | (k, x) :: r, E, ⟨h1, h2⟩, d, t, h => by
    simp only [Env.get] at h
    split at h
    · rename_i hk; subst hk; injection h with h; subst h; exact h1
    · exact subL_get h2 d t h
theorem St.sub [Dr] {kb : Nat} {X0 : Nat → Prop} {a : Act} {M : Mp} {L : Env} (h : St n kb E H X0 a M) (hl : subL L E) : St n kb L H X0 a M := ⟨fun d t ht => h.tm d t (subL_get hl d t ht), h.sz, h.df, h.ge, h.sim⟩
theorem VC.sub [Dr] {c : Code} (L : Env) (hl : subL L E) (h : VC z P n lb c QT L H) : VC z P n lb c QT E H := fun X0 M a r kb hz hs => h X0 M a r kb hz (hs.sub hl)
theorem least_nat {p : Nat → Prop} : (∃ m, p m) → ∃ m, p m ∧ ∀ k, p k → m ≤ k := by
  rintro ⟨m, hm⟩
  induction m using Nat.strongRecOn with
  | ind m ih =>
    by_cases h : ∃ k, k < m ∧ p k
    · obtain ⟨k, h1, h2⟩ := h; exact ih k h1 h2
    · exact ⟨m, hm, fun k hk => Nat.le_of_not_lt fun hlt => h ⟨k, hlt, hk⟩⟩
theorem wp_loop_g {c : Code} {r : Option Nat} {Q : Exit → Act → World → Prop} {a : Act} {w : World} (I : Nat → Act → World → Prop) (m : Nat) (h0 : I m a w)
    (round : ∀ m a w, I m a w → c.wpIn (FW r) 0 P (Exit.then (fun a' w' => ∃ m', m' < m ∧ I m' a' w') Q) a w) : (Code.loop c).wpIn (FW r) 0 P Q a w := by
  classical
  let J : Act → World → Prop := fun a w => ∃ m, I m a w
  let μ : Act → World → Nat := fun a w => if h : ∃ m, I m a w then Classical.choose (least_nat h) else 0
  refine wpIn_loop J μ ⟨m, h0⟩ fun a w hJ => ?_
  have hm : I (μ a w) a w := by
    have : μ a w = Classical.choose (least_nat hJ) := dif_pos hJ
    rw [this]; exact (Classical.choose_spec (least_nat hJ)).1
  refine wpIn_mono (round _ a w hm) fun e a' w' hq => ?_
  cases e with
  | normal =>
    obtain ⟨m', h1, h2⟩ := hq
    refine ⟨⟨m', h2⟩, ?_⟩
    have hex : ∃ m, I m a' w' := ⟨m', h2⟩
    have : μ a' w' = Classical.choose (least_nat hex) := dif_pos hex
    rw [this]
    exact Nat.lt_of_le_of_lt ((Classical.choose_spec (least_nat hex)).2 _ h2) h1
  | _ => exact hq
theorem VC.loop [Dr] {c : Code} (I : Nat → Env → Hp → Prop) (m : Nat) (L : Env) (hl : subL L E) (h0 : I m L H)
    (round : ∀ m L H, I m L H → VC z P n lb c (ExThen (fun E' H' => ∃ m' L', m' < m ∧ I m' L' H' ∧ subL L' E') QT) L H) : VC z P n lb (.loop c) QT E H := by
  intro X0 M a r kb hz hs
  refine wp_loop_g (fun m a' w' => ∃ L' H' M', I m L' H' ∧ M'.w = w' ∧ EvoK lb X0 M M' ∧ St n kb L' H' X0 a' M') m ⟨L, H, M, h0, rfl, EvoK.refl _ _, hs.sub hl⟩ fun m a' w' ⟨L', H', M', h1, h2, h3, h4⟩ => ?_
  subst h2
  refine wpIn_mono (round m L' H' h1 X0 M' a' r kb hz h4) fun e a2 w2 hq => ?_
  obtain ⟨E2, H2, M2, k1, k2, k3, k4⟩ := hq
  cases e with
  | normal =>
    obtain ⟨m', L2, j1, j2, j3⟩ := k1
    exact ⟨m', j1, L2, H2, M2, j2, k2, h3.trans k3, k4.sub j3⟩
  | _ => exact ⟨E2, H2, M2, k1, k2, h3.trans k3, k4⟩

/- the results -/
def resL (tab : Tab) (E : Env) (H : Hp) : List ResultVar → Option (List T)
  | [] => some []
  | .tmp d :: r => match E.get d, resL tab E H r with | some t, some ts => some (t :: ts) | _, _ => none
  | .cell d ty :: r => match E.get d, resL tab E H r with | some x, some ts => (match mLoad tab (lookH H) ty x with | some t => some (t :: ts) | none => none) | _, _ => none
def resT (tab : Tab) (E : Env) (H : Hp) (rs : List ResultVar) : Option T :=
  match resL tab E H rs with
  | some [t] => some t
  | some ts => some (.tup ts)
  | none => none
theorem asAddr_load {a : Value} {ty : TypeId} {w : World} {u : Value} (h : (Instr.loadAt ty a).run P w = .ok u w) : (do loadVar ty (← asAddr a) : Sem Value).run P w = .ok u w := by
  cases a with
  | pointer p =>
    cases p with
    | some p => simpa [Instr.loadAt, Instr.sureAddr, asAddr] using h
    | none => simp [Instr.loadAt, Instr.sureAddr] at h
  | _ => simp [Instr.loadAt, Instr.sureAddr] at h
theorem resL_ok [Dr] (hT : TabOk P tab) {kb : Nat} {X0 : Nat → Prop} {a : Act} {M : Mp} (hs : St n kb E H X0 a M) {f : ResultVar → Sem Value} (hf1 : ∀ t, f (.tmp t) = pure (a.tmps.getD t undef)) (hf2 : ∀ x t, f (.cell x t) = (do loadVar t (← asAddr (a.tmps.getD x undef)))) : ∀ (rs : List ResultVar) (ts : List T), resL tab E H rs = some ts →
    ∃ us, (rs.mapM f : Sem (List Value)).run P M.w = .ok us M.w ∧ RepL M ts us
  | [], ts, h => by simp only [resL] at h; injection h with h; subst h; exact ⟨[], rfl, rfl⟩
  | .tmp d :: rs, ts, h => by
    simp only [resL] at h
    split at h
    · rename_i t ts' h1 h2
      injection h with h; subst h
      obtain ⟨us, k1, k2⟩ := resL_ok hT hs hf1 hf2 rs ts' h2
      obtain ⟨u, e1, e2⟩ := hs.tm d t h1
      refine ⟨u :: us, ?_, u, us, rfl, e2, k2⟩
      have : a.tmps.getD d undef = u := by simp [e1]
      simp only [List.mapM_cons, hf1, Sem.run_bind, Sem.run_pure, Result.andThen_ok, k1, this]
    · cases h
  | .cell d ty :: rs, ts, h => by
    simp only [resL] at h
    split at h
    · rename_i x ts' h1 h2
      split at h
      · rename_i t hm
        injection h with h; subst h
        obtain ⟨us, k1, k2⟩ := resL_ok hT hs hf1 hf2 rs ts' h2
        obtain ⟨u, e1, e2⟩ := hs.tm d x h1
        have hv : a.tmps.getD d undef = u := by simp [e1]
        obtain ⟨v, f1, f2⟩ := mLoad_ok hT hs.sim.look e2 hm
        have f3 := asAddr_load f1
        refine ⟨v :: us, ?_, v, us, rfl, f2, k2⟩
        rw [← hv] at f3
        simp only [Sem.run_bind] at f3
        simp only [List.mapM_cons, hf2, Sem.run_bind, Sem.run_pure, f3, Result.andThen_ok, k1]
      · cases h
    · cases h
theorem resT_ok [Dr] (hT : TabOk P tab) {kb : Nat} {X0 : Nat → Prop} {a : Act} {M : Mp} (hs : St n kb E H X0 a M) {fn : Func} {t : T} (h : resT tab E H fn.results.toList = some t) : ∃ u, (results fn a.tmps).run P M.w = .ok u M.w ∧ Rep M t u := by
  have key : ∀ ts, resL tab E H fn.results.toList = some ts → ∃ us : List Value, (results fn a.tmps).run P M.w = .ok (if h : us.toArray.size = 1 then us.toArray[0] else .tuple us.toArray) M.w ∧ RepL M ts us := by
    intro ts hts
    obtain ⟨us, k1, k2⟩ := resL_ok hT hs (f := fun | .tmp t => pure (a.tmps.getD t undef) | .cell x t => do loadVar t (← asAddr (a.tmps.getD x undef))) (fun _ => rfl) (fun _ _ => rfl) _ _ hts
    refine ⟨us, ?_, k2⟩
    unfold results
    rw [Sem.run_bind, Array.mapM_eq_mapM_toList, Sem.run_map]
    refine (congrArg (fun r => (Result.andThen r _).andThen _) k1).trans ?_
    simp only [Result.andThen_ok, Sem.run_pure]
  unfold resT at h
  split at h
  · rename_i t' h1
    injection h with h; subst h
    obtain ⟨us, k1, u, r, rfl, k2, rfl⟩ := key _ h1
    exact ⟨u, by simpa using k1, k2⟩
  · rename_i ts hne h1
    injection h with h; subst h
    obtain ⟨us, k1, k2⟩ := key _ h1
    have hl := k2.length
    have hn1 : us.length ≠ 1 := fun e => by
      rw [e] at hl
      match ts, hl with
      | [t'], _ => exact hne t' rfl
    refine ⟨.tuple us.toArray, ?_, us, rfl, k2⟩
    rw [k1, dif_neg (by simpa using hn1)]
  · cases h
def enumE : Nat → List T → Env
  | _, [] => []
  | k, t :: r => (k, t) :: enumE (k + 1) r
theorem enumE_get : ∀ (k : Nat) (ts : List T) (d : Nat) (t : T), (enumE k ts).get d = some t → k ≤ d ∧ ts[d - k]? = some t
  | _, [], _, _, h => by cases h
  | k, x :: r, d, t, h => by
    simp only [enumE, Env.get] at h
    split at h
    · rename_i hk; subst hk; injection h with h; subst h; simp
    · rename_i hk
      obtain ⟨h1, h2⟩ := enumE_get (k + 1) r d t h
      exact ⟨by omega, by rw [show d - k = (d - (k + 1)) + 1 from by omega]; simpa using h2⟩
theorem CallT.intro [Dr] (hT : TabOk P tab) {f : FuncId} {fn : Func} {c : Code} {args : List T} {Q : T → Hp → Prop} (hf : P.funcs[f]? = some fn) (hb : fn.body = some c) (hgo : goB P f = true) (hl : args.length ≤ fn.ntmps)
    (h : VC true P fn.ntmps H.length c (fun e E H' => (match e with | .normal => True | .ret => True | _ => False) ∧ ∃ t, resT tab E H' fn.results.toList = some t ∧ Q t H') (enumE 0 args) H) : CallT P f args H Q := by
  refine ⟨hgo, fun X0 M us hS hr => callsIn_wide (n := 0).1 (callsIn_of_wp_marks hf hb trivial ?_)⟩
  have hlen := hr.length
  have hs : St fn.ntmps M.w.heap.size (enumE 0 args) H X0 { tmps := us.toArray ++ Array.replicate (fn.ntmps - us.toArray.size) undef, defers := [] } M := by
    refine ⟨fun d t ht => ?_, by simp; omega, trivial, Nat.le_refl _, hS⟩
    obtain ⟨-, h2⟩ := enumE_get 0 args d t ht
    rw [Nat.sub_zero] at h2
    obtain ⟨u, h3, h4⟩ := hr.get d t h2
    refine ⟨u, ?_, h4⟩
    have hd := (List.getElem?_eq_some_iff.1 h3).1
    rw [Array.getElem?_append_left (by simpa using hd)]
    simpa using h3
  refine wpIn_mono (h X0 M _ none _ (fun _ => rfl) hs) fun e a' w' ⟨E', H', M', ⟨h1, t, h2, h3⟩, h4, h5, h6⟩ => ?_
  subst h4
  have h5 := h5.evo fun b hb => hS.dom b hb
  have go : ∀ (ds : List Deferred) (M2 : Mp), Marks M.w.heap.size ds M2 → St fn.ntmps M.w.heap.size E' H' X0 { a' with defers := [] } M2 → Evo X0 M M2 → LeavesInM Fence.wide 0 P fn a'.tmps (Came X0 M Q) ds .returning M2.w := by
    intro ds
    induction ds with
    | nil =>
      intro M2 _ hs2 he
      obtain ⟨u, k1, k2⟩ := resT_ok hT hs2 h2
      exact ⟨u, k1, u, t, H', M2, rfl, rfl, h3, he, hs2.sim, k2⟩
    | cons d ds ih =>
      intro M2 hm hs2 he
      obtain ⟨⟨r, rfl, q1, q2, q3, q4⟩, hm'⟩ := hm
      have hrl := heap_lt q3
      let M3 : Mp := ⟨M2.β, M2.X, M2.w.putObj r (.deferred none)⟩
      have hoth : ∀ B, B ≠ r → M3.w.heap[B]? = M2.w.heap[B]? := fun B hB => World.putObj_heap_other hB
      have hev : Evo X0 M M3 := by
        refine ⟨he.at_, he.nox, fun B hB hx => ?_, fun B s hs => ?_, he.os, he.tape, he.output, by show M.w.heap.size ≤ (M2.w.putObj r _).heap.size; rw [World.putObj_size]; exact he.size⟩
        · rw [hoth B (by omega)]; exact he.keep B hB hx
        · have h1 := he.shape B s hs
          by_cases hB : B = r
          · subst hB; unfold World.shape? at h1; rw [q3] at h1; cases h1
          · rw [← h1]; exact shape_block (hoth B hB)
      have hst : Stays M2 M3 := by
        refine ⟨fun _ _ h => h, fun B o hx ho hd => ⟨hx, by rw [hoth B (fun e1 => by subst e1; rw [q3] at ho; injection ho with ho; exact hd _ ho.symm)]; exact ho⟩, fun B s hs => ?_⟩
        by_cases hB : B = r
        · subst hB; unfold World.shape? at hs; rw [q3] at hs; cases hs
        · rw [← hs]; exact shape_block (hoth B hB)
      have hsim : SimH H' X0 M3 := by
        have S := hs2.sim
        refine ⟨fun b cs hl hd => ?_, fun b p hl hd => ?_, S.inj, S.dom, S.own, fun B hB => by show B < (M2.w.putObj r _).heap.size; rw [World.putObj_size]; exact S.bnd B hB, Glo.evo hev hS.glo⟩
        · rcases S.live b cs hl hd with g | ⟨B, O, a, e, fz, g1, g2, g3, g4, g5, g6⟩
          · exact .inl g
          · exact .inr ⟨B, O, a, e, fz, g1, (hoth B (fun e1 => by subst e1; rw [q3] at g2; cases g2)).trans g2, g3, RepA.stays hst _ _ _ g4, g5, g6⟩
        · obtain ⟨B, o, g1, g2, g3, g4, g5⟩ := S.liveo b p hl hd
          refine ⟨B, o, g1, (hoth B (fun e1 => ?_)).trans g2, g3, p.st hst g4, g5⟩
          subst e1
          exact q2 ((S.own B).2 (.inr ⟨b, 0, by rw [hl]; simp, g1⟩))
      have hs3 : St fn.ntmps M.w.heap.size E' H' X0 { a' with defers := [] } M3 :=
        ⟨fun d t ht => by obtain ⟨v, k1, k2⟩ := hs2.tm d t ht; exact ⟨v, k1, Rep.stays hst _ _ k2⟩, hs2.sz, trivial, by show _ ≤ (M2.w.putObj r _).heap.size; rw [World.putObj_size]; exact hs2.ge, hsim⟩
      have hm3 : Marks M.w.heap.size ds M3 := by
        have aux : ∀ (l : List Deferred), Marks M.w.heap.size l M2 → (∀ d' ∈ l, d' ≠ { target := .collected r, args := #[] }) → Marks M.w.heap.size l M3 := by
          intro l
          induction l with
          | nil => intro _ _; trivial
          | cons d l ihl =>
            rintro ⟨⟨r', rfl, p1, p2, p3, p4⟩, hl'⟩ hne
            refine ⟨⟨r', rfl, p1, p2, (hoth r' (fun e1 => ?_)).trans p3, p4⟩, ihl hl' fun d' hd' => hne d' (List.mem_cons_of_mem _ hd')⟩
            subst e1
            exact hne _ List.mem_cons_self rfl
        exact aux ds hm' q4
      exact ⟨by simp, .inl ⟨r, M3.w, rfl, run_takeDeferred q3, ih M3 hm3 hs3 hev⟩⟩
  cases e with
  | normal => exact go _ _ h6.df ⟨h6.tm, h6.sz, trivial, h6.ge, h6.sim⟩ h5
  | ret => exact go _ _ h6.df ⟨h6.tm, h6.sz, trivial, h6.ge, h6.sim⟩ h5
  | _ => exact h1.elim
end
end
section
open Go.RowKit
section
variable {z : Bool} {P : Program} {tab : Tab} {n kb lb : Nat} {E : Env} {H : Hp} {QT : Exit → Env → Hp → Prop} {X0 : Nat → Prop} {a : Act} {M : Mp}
theorem VC.virt [Dr] {c : Code} (d zz : Nat) (hd : E.get d = some (.v (.slice none 0 0))) (h : VC z P n lb c QT (E.put (some d) (.slc H.length 0 0 zz none)) (H ++ [.c []])) : VC z P n lb c QT E H := by
  intro X0 M a r kb hz hs
  obtain ⟨Ev, S⟩ := hs.sim.virt (nx := H.length) (fun hh => Nat.lt_irrefl _ hh)
  have hs' : St n kb (E.put (some d) (.slc H.length 0 0 zz none)) (H ++ [.c []]) X0 a (renM M H.length none) := ⟨fun k t ht => by
    rw [get_put] at ht
    split at ht
    · rename_i hk; subst hk
      injection ht with ht; subst ht
      obtain ⟨u, h1, h2⟩ := hs.tm k _ hd
      obtain rfl := h2
      exact ⟨_, h1, .inl ⟨if_pos rfl, rfl, rfl, fun q hq => (by cases hq), none, rfl⟩⟩
    · obtain ⟨u, h1, h2⟩ := hs.tm k t ht
      exact ⟨u, h1, Rep.stays Ev.stays _ _ h2⟩, hs.sz, hs.df.evo Ev, Nat.le_trans hs.ge Ev.size, SimH.push S⟩
  exact wpIn_mono (h X0 (renM M H.length none) a r kb hz hs') fun e a' w' hl => hl.evo (Ev.toK lb)
def Weaker (t t' : T) : Prop := ∀ M u, Rep M t u → Rep M t' u
theorem VC.weaker [Dr] {c : Code} (d : Nat) (t t' : T) (hw : Weaker t t') (hd : E.get d = some t) (h : VC z P n lb c QT (E.put (some d) t') H) : VC z P n lb c QT E H := by
  intro X0 M a r kb hz hs
  refine h X0 M a r kb hz ⟨fun k s hk => ?_, hs.sz, hs.df, hs.ge, hs.sim⟩
  rw [get_put] at hk
  split at hk
  · rename_i hkd; subst hkd
    injection hk with hk; subst hk
    obtain ⟨u, h1, h2⟩ := hs.tm k _ hd
    exact ⟨u, h1, hw M u h2⟩
  · exact hs.tm k s hk

/- calls that see nothing of the own blocks -/
def CallP [Dr] (P : Program) (f : FuncId) (args : List T) (r : T) : Prop := T.pureL args = true ∧ r.pure = true ∧ CallT P f args [] (fun t _ => t = r)
theorem sim_none [Dr] (X : Nat → Prop) (w : World) (hX : ∀ B, X B → B < w.heap.size) (hG : Glo ⟨fun _ => none, X, w⟩) : SimH [] X ⟨fun _ => none, X, w⟩ :=
  ⟨fun b cs h => (by cases h), fun b p h => (by cases h), fun b b' B O O' h => absurd rfl h, fun b hb => rfl, fun B => ⟨.inl, fun h => h.elim id fun ⟨b, O, h, _⟩ => absurd rfl h⟩, hX, hG⟩
theorem CallP.run [Dr] {f : FuncId} {args : List T} {r : T} (h : CallP P f args r) (X0 : Nat → Prop) (M : Mp) (us : List Value) (hX : ∀ B, M.X B → B < M.w.heap.size) (hG : Glo M) (hr : RepL M args us) :
    Calls P f us.toArray M.w (fun e w' => ∃ u, e = .returned u ∧ Evo X0 M ⟨M.β, M.X, w'⟩ ∧ Rep ⟨M.β, M.X, w'⟩ r u ∧ ∀ B, B < M.w.heap.size → w'.heap[B]? = M.w.heap[B]?) := by
  obtain ⟨h1, h2, h3, h4⟩ := h
  have hr0 : RepL ⟨fun _ => none, M.X, M.w⟩ args us := RepL.staysI (M := M) (M' := ⟨fun _ => none, M.X, M.w⟩) ⟨fun B o h k _ => ⟨h, k⟩⟩ _ _ h1 hr
  refine (h4 M.X ⟨fun _ => none, M.X, M.w⟩ us (sim_none M.X M.w hX hG) hr0).mono ?_
  rintro e w' ⟨u, t, H', M', rfl, rfl, rfl, k2, k3, k4⟩
  have hk : ∀ B, B < M.w.heap.size → M'.w.heap[B]? = M.w.heap[B]? := fun B hB => by
    refine k2.keep B hB ?_
    show ¬ M.X B ∨ M.X B
    exact (Classical.em _).symm
  refine ⟨u, rfl, ⟨fun _ _ hp => hp, fun _ _ hx => hx, fun B hB hx => hk B hB, fun B s hs => k2.shape B s hs, k2.os, k2.tape, k2.output, k2.size⟩, ?_, hk⟩
  · exact Rep.staysI (M := M') (M' := ⟨M.β, M.X, M'.w⟩) ⟨fun B o hx hb _ => ⟨fun hX' => hx ((k3.own B).2 (.inl hX')), hb⟩⟩ _ _ h2 k4
theorem CallP.callT [Dr] {f : FuncId} {args : List T} {r : T} (h : CallP P f args r) (H : Hp) : CallT P f args H (fun t H' => t = r ∧ H' = H) := by
  refine ⟨h.2.2.1, fun X0 M us hS hr => (h.run X0 M us hS.bnd hS.glo hr).mono ?_⟩
  rintro e w' ⟨u, rfl, k1, k2, k3⟩
  refine ⟨u, r, H, _, rfl, rfl, ⟨rfl, rfl⟩, k1, ?_, k2⟩
  exact hS.world k1 k3
end
end
section
open Go.RowKit

/- which operations must go ahead of which -/
def maskOf (o : Oper) (ms : List Nat) : Nat := o.after.toList.foldl (fun s e => if Region.binds .any e then s ||| (1 <<< e.on) ||| ms.getD e.on 0 else s) 0
def masks : List Oper → List Nat → List Nat
  | [], ms => ms
  | o :: l, ms => masks l (ms ++ [maskOf o ms])
def backB : List Oper → Nat → Bool
  | [], _ => true
  | o :: l, k => (o.after.toList.all fun e => !Region.binds .any e || decide (e.on < k)) && backB l (k + 1)
def readsOf (ops : Array Oper) (o : Oper) : List Nat := o.looksAt ops
def pairB (ops : Array Oper) (ms : List Nat) (k j : Nat) (o oj : Oper) : Bool :=
  j == k || match oj.dst with
    | none => true
    | some d => o.dst != some d && (!(readsOf ops o).contains d || (if j < k then (ms.getD k 0).testBit j else (ms.getD j 0).testBit k))
def rowB (ops : Array Oper) (ms : List Nat) (k : Nat) (o : Oper) : List Oper → Nat → Bool
  | [], _ => true
  | oj :: l, j => pairB ops ms k j o oj && rowB ops ms k o l (j + 1)
def allB (ops : Array Oper) (ms : List Nat) (pre : List Oper) : List Oper → Nat → Bool
  | [], _ => true
  | o :: l, k => rowB ops ms k o pre 0 && (match o.guard with | some (g, _) => decide (g < k) | none => true) && allB ops ms pre l (k + 1)
def fullB (ms : List Nat) : List Oper → Nat → Bool
  | [], _ => true
  | _ :: l, k => ms.getD k 0 == 2 ^ k - 1 && fullB ms l (k + 1)
def drawB (n m : Nat) (l : List Oper) : Bool :=
  let ms := masks l []
  backB l 0 && allB l.toArray ms (l.take m) (l.take m) 0 && fullB ms (l.drop m) m && dstB n l && decide (m ≤ l.length)
theorem foldl_bits (f : Nat → Edge → Nat) (ms : List Nat) (hf : ∀ s e, f s e = if Region.binds .any e then s ||| (1 <<< e.on) ||| ms.getD e.on 0 else s) : ∀ (l : List Edge) (s j : Nat), (l.foldl f s).testBit j = true → s.testBit j = true ∨ ∃ e ∈ l, Region.binds .any e = true ∧ (e.on = j ∨ (ms.getD e.on 0).testBit j = true)
  | [], s, j, h => .inl h
  | e :: l, s, j, h => by
    rw [List.foldl_cons] at h
    rcases foldl_bits f ms hf l _ j h with h1 | ⟨e', h1, h2⟩
    · rw [hf] at h1
      split at h1
      · rename_i hb
        rw [Nat.testBit_or, Nat.testBit_or, Bool.or_eq_true, Bool.or_eq_true] at h1
        rcases h1 with (h1 | h1) | h1
        · exact .inl h1
        · refine .inr ⟨e, List.mem_cons_self .., hb, .inl ?_⟩
          rw [Nat.one_shiftLeft, Nat.testBit_two_pow] at h1
          simpa using h1
        · exact .inr ⟨e, List.mem_cons_self .., hb, .inr h1⟩
      · exact .inl h1
    · exact .inr ⟨e', List.mem_cons_of_mem _ h1, h2⟩
theorem masks_keep : ∀ (l : List Oper) (ms : List Nat) (k : Nat), k < ms.length → (masks l ms).getD k 0 = ms.getD k 0
  | [], _, _, _ => rfl
  | o :: l, ms, k, h => by
    rw [masks, masks_keep l _ k (by simp; omega)]
    simp only [List.getD_eq_getElem?_getD]
    rw [List.getElem?_append_left h]
theorem masks_at : ∀ (l : List Oper) (ms : List Nat) (i : Nat) (o : Oper), l[i]? = some o → ∃ ms', (masks l ms).getD (ms.length + i) 0 = maskOf o ms' ∧ ∀ k, k < ms.length + i → ms'.getD k 0 = (masks l ms).getD k 0
  | [], _, _, _, h => by simp at h
  | x :: l, ms, 0, o, h => by
    simp at h; subst h
    refine ⟨ms, ?_, fun k hk => ?_⟩
    · rw [masks, masks_keep l _ _ (by simp)]
      simp [List.getD_eq_getElem?_getD]
    · rw [masks, masks_keep l _ k (by simp; omega)]
      simp only [List.getD_eq_getElem?_getD]
      rw [List.getElem?_append_left (by omega)]
  | x :: l, ms, i + 1, o, h => by
    obtain ⟨ms', h1, h2⟩ := masks_at l (ms ++ [maskOf x ms]) i o (by simpa using h)
    rw [List.length_append, List.length_singleton] at h1 h2
    refine ⟨ms', by rw [masks, show ms.length + (i + 1) = ms.length + 1 + i from by omega]; exact h1, fun k hk => by rw [masks]; exact h2 k (by omega)⟩
def Closed (l : List Oper) (L : Nat → Prop) : Prop := ∀ k o, l[k]? = some o → L k → ∀ e ∈ o.after, Region.binds .any e = true → L e.on
theorem back_at : ∀ (l : List Oper) (n k : Nat) (o : Oper), backB l n = true → l[k]? = some o → ∀ e ∈ o.after, Region.binds .any e = true → e.on < n + k
  | [], _, _, _, _, h => by simp at h
  | x :: l, n, 0, o, hb, h => by
    simp at h; subst h
    simp only [backB, Bool.and_eq_true, List.all_eq_true] at hb
    intro e he hbi
    have := hb.1 e (by simpa using he)
    simpa [hbi] using this
  | x :: l, n, k + 1, o, hb, h => by
    simp only [backB, Bool.and_eq_true] at hb
    have := back_at l (n + 1) k o hb.2 (by simpa using h)
    intro e he hbi
    have := this e he hbi
    omega
theorem mask_listed {l : List Oper} {L : Nat → Prop} (hb : backB l 0 = true) (hc : Closed l L) : ∀ k, L k → ∀ j, ((masks l []).getD k 0).testBit j = true → L j := by
  intro k
  induction k using Nat.strongRecOn with
  | ind k ih =>
    intro hk j hj
    cases ho : l[k]? with
    | none =>
      exfalso
      have key : ∀ (l : List Oper) (ms : List Nat) (q : Nat), ms.length + l.length ≤ q → (masks l ms).getD q 0 = 0 := by
        intro l
        induction l with
        | nil => intro ms q hq; simp only [masks, List.getD_eq_getElem?_getD]; rw [List.getElem?_eq_none (by simpa using hq)]; rfl
        | cons x l ih' => intro ms q hq; rw [masks]; exact ih' _ q (by simp at hq ⊢; omega)
      rw [key l [] k (by simpa using List.getElem?_eq_none_iff.1 ho)] at hj
      simp at hj
    | some o =>
      obtain ⟨ms', h1, h2⟩ := masks_at l [] k o ho
      rw [List.length_nil, Nat.zero_add] at h1 h2
      rw [h1] at hj
      unfold maskOf at hj
      rcases foldl_bits _ ms' (fun _ _ => rfl) _ _ _ hj with h3 | ⟨e, he, hbi, h3⟩
      · simp at h3
      · have hem : e ∈ o.after := by simpa using he
        have hlt := back_at l 0 k o hb ho e hem hbi
        have hL := hc k o ho hk e hem hbi
        rcases h3 with h3 | h3
        · rw [← h3]; exact hL
        · rw [h2 e.on (by omega)] at h3
          exact ih e.on (by omega) hL j h3
theorem mask_next {l : List Oper} {L : Nat → Prop} (hb : backB l 0 = true) (hc : Closed l L) {k : Nat} {o : Oper} (ho : l[k]? = some o) (hr : ∀ e ∈ o.after, Region.binds .any e = true → L e.on) {j : Nat} (hj : ((masks l []).getD k 0).testBit j = true) : L j := by
  obtain ⟨ms', h1, h2⟩ := masks_at l [] k o ho
  rw [List.length_nil, Nat.zero_add] at h1 h2
  rw [h1] at hj
  unfold maskOf at hj
  rcases foldl_bits _ ms' (fun _ _ => rfl) _ _ _ hj with h3 | ⟨e, he, hbi, h3⟩
  · simp at h3
  · have hem : e ∈ o.after := by simpa using he
    have hlt := back_at l 0 k o hb ho e hem hbi
    have hL := hr e hem hbi
    rcases h3 with h3 | h3
    · rw [← h3]; exact hL
    · rw [h2 e.on (by omega)] at h3
      exact mask_listed hb hc e.on hL j h3
theorem row_at {ops : Array Oper} {ms : List Nat} {k : Nat} {o : Oper} : ∀ (l : List Oper) (n j : Nat) (oj : Oper), rowB ops ms k o l n = true → l[j]? = some oj → pairB ops ms k (n + j) o oj = true
  | [], _, _, _, _, h => by simp at h
  | x :: l, n, 0, oj, hb, h => by simp at h; subst h; simp only [rowB, Bool.and_eq_true] at hb; exact hb.1
  | x :: l, n, j + 1, oj, hb, h => by
    simp only [rowB, Bool.and_eq_true] at hb
    have := row_at l (n + 1) j oj hb.2 (by simpa using h)
    rwa [show n + (j + 1) = n + 1 + j from by omega]
theorem all_at {ops : Array Oper} {ms : List Nat} {pre : List Oper} : ∀ (l : List Oper) (n k : Nat) (o : Oper), allB ops ms pre l n = true → l[k]? = some o → rowB ops ms (n + k) o pre 0 = true ∧ ∀ g w, o.guard = some (g, w) → g < n + k
  | [], _, _, _, _, h => by simp at h
  | x :: l, n, 0, o, hb, h => by
    simp at h; subst h; simp only [allB, Bool.and_eq_true] at hb
    refine ⟨hb.1.1, fun g w hg => ?_⟩
    have := hb.1.2
    rw [hg] at this; simpa using this
  | x :: l, n, k + 1, o, hb, h => by
    simp only [allB, Bool.and_eq_true] at hb
    have := all_at l (n + 1) k o hb.2 (by simpa using h)
    rwa [show n + (k + 1) = n + 1 + k from by omega]
theorem full_at {ms : List Nat} : ∀ (l : List Oper) (n k : Nat), fullB ms l n = true → k < l.length → ms.getD (n + k) 0 = 2 ^ (n + k) - 1
  | [], _, _, _, h => by simp at h
  | x :: l, n, 0, hb, _ => by simp only [fullB, Bool.and_eq_true, beq_iff_eq] at hb; exact hb.1
  | x :: l, n, k + 1, hb, h => by
    simp only [fullB, Bool.and_eq_true] at hb
    have := full_at l (n + 1) k hb.2 (by simpa using h)
    rwa [show n + (k + 1) = n + 1 + k from by omega]

/- the operations asx they go by the text -/
structure Stp where
  t : T
  nb : Option (List T)
def newsOf : Option (List T) → Hp
  | none => []
  | some cs => [.c cs]
def StpOk [Dr] (P : Program) (tab : Tab) (im : List Nat) (ops : Array Oper) (o : Oper) (E : Env) (H : Hp) (s : Stp) : Prop :=
  (s.t = .v undef ∧ s.nb = none ∧ ∃ g want d x, o.guard = some (g, want) ∧ (ops[g]?).bind (·.dst) = some d ∧ E.get d = some (.v x) ∧ x ≠ .bool want) ∨
  ((o.guard = none ∨ ∃ g want d, o.guard = some (g, want) ∧ (ops[g]?).bind (·.dst) = some d ∧ E.get d = some (.v (.bool want))) ∧
    ((∃ t nb, opM tab (lookH H) H.length E.opd o.op = some (t, nb) ∧ ((s.t = t ∧ s.nb = nb.map (·.2)) ∨ ∃ p, nb = some p ∧ s.t = immT t p.2 ∧ s.nb = none)) ∨
     (∃ f args ats g fs cs ts, o.op = .call ⟨.value f, args, ats⟩ ∧ E.opd f = some (.clo g fs cs) ∧ optL E.opd args.toList = some ts ∧ CallP P g (fs ++ ts ++ cs) s.t ∧ s.nb = none)))
inductive Run [Dr] (P : Program) (tab : Tab) (im : List Nat) (ops : Array Oper) : List Oper → Env → Hp → List Stp → Env → Hp → Prop
  | nil (E : Env) (H : Hp) : Run P tab im ops [] E H [] E H
  | cons {o : Oper} {l : List Oper} {E : Env} {H : Hp} {s : Stp} {r : List Stp} {E' : Env} {H' : Hp} (h : StpOk P tab im ops o E H s) (k : Run P tab im ops l (E.put o.dst s.t) (H ++ newsOf s.nb) r E' H') : Run P tab im ops (o :: l) E H (s :: r) E' H'
def vcOpM [Dr] (P : Program) (tab : Tab) (im : List Nat) (o : Oper) (E : Env) (H : Hp) (K : Env → Hp → Prop) : Prop :=
  match o.op with
  | .call ⟨.value f, args, _⟩ =>
    match E.opd f, optL E.opd args.toList with
    | some (.clo g fs cs), some ts => ∃ r, CallP P g (fs ++ ts ++ cs) r ∧ K (E.put o.dst r) H
    | _, _ => False
  | op =>
    match opM tab (lookH H) H.length E.opd op with
    | some (t, none) => K (E.put o.dst t) H
    | some (t, some (_, cs)) => if imB im o.dst = true then K (E.put o.dst (immT t cs)) H else K (E.put o.dst t) (H ++ [.c cs])
    | none => False
def vcDraw [Dr] (P : Program) (tab : Tab) (im : List Nat) (ds : List (Option Nat)) : List Oper → Env → Hp → (Env → Hp → Prop) → Prop
  | [], E, H, K => K E H
  | o :: l, E, H, K => vcGuard ds E o (vcOpM P tab im o E H fun E H => vcDraw P tab im ds l E H K) (vcDraw P tab im ds l (E.put o.dst (.v undef)) H K)
theorem vcOpM_stp [Dr] {P : Program} {tab : Tab} {im : List Nat} {o : Oper} {E : Env} {H : Hp} {K : Env → Hp → Prop} (h : vcOpM P tab im o E H K) :
    ∃ s : Stp, ((∃ t nb, opM tab (lookH H) H.length E.opd o.op = some (t, nb) ∧ ((s.t = t ∧ s.nb = nb.map (·.2)) ∨ ∃ p, nb = some p ∧ s.t = immT t p.2 ∧ s.nb = none)) ∨
     (∃ f args ats g fs cs ts, o.op = .call ⟨.value f, args, ats⟩ ∧ E.opd f = some (.clo g fs cs) ∧ optL E.opd args.toList = some ts ∧ CallP P g (fs ++ ts ++ cs) s.t ∧ s.nb = none)) ∧ K (E.put o.dst s.t) (H ++ newsOf s.nb) := by
  unfold vcOpM at h
  split at h
  · rename_i f args ats hop
    split at h
    · rename_i g fs cs ts h1 h2
      obtain ⟨r, h3, h4⟩ := h
      exact ⟨⟨r, none⟩, .inr ⟨f, args, ats, g, fs, cs, ts, hop, h1, h2, h3, rfl⟩, by simpa [newsOf] using h4⟩
    · exact h.elim
  · split at h
    · rename_i t ht
      exact ⟨⟨t, none⟩, .inl ⟨t, none, ht, .inl ⟨rfl, rfl⟩⟩, by simpa [newsOf] using h⟩
    · rename_i t e cs ht
      split at h
      · exact ⟨⟨immT t cs, none⟩, .inl ⟨t, some (e, cs), ht, .inr ⟨(e, cs), rfl, rfl, rfl⟩⟩, by simpa [newsOf] using h⟩
      · exact ⟨⟨t, some cs⟩, .inl ⟨t, some (e, cs), ht, .inl ⟨rfl, rfl⟩⟩, h⟩
    · exact h.elim
theorem vcDraw_run [Dr] {P : Program} {tab : Tab} {im : List Nat} {ops : Array Oper} {K : Env → Hp → Prop} : ∀ (l : List Oper) (E : Env) (H : Hp), vcDraw P tab im (ops.toList.map (·.dst)) l E H K → ∃ r E' H', Run P tab im ops l E H r E' H' ∧ K E' H'
  | [], E, H, h => ⟨[], E, H, .nil E H, h⟩
  | o :: l, E, H, h => by
    have go : (o.guard = none ∨ ∃ g want d, o.guard = some (g, want) ∧ (ops[g]?).bind (·.dst) = some d ∧ E.get d = some (.v (.bool want))) → (vcOpM P tab im o E H fun E H => vcDraw P tab im (ops.toList.map (·.dst)) l E H K) → ∃ r E' H', Run P tab im ops (o :: l) E H r E' H' ∧ K E' H' := by
      intro hg hv
      obtain ⟨s, h1, h2⟩ := vcOpM_stp hv
      obtain ⟨r, E', H', h3, h4⟩ := vcDraw_run l _ _ h2
      exact ⟨s :: r, E', H', .cons (.inr ⟨hg, h1⟩) h3, h4⟩
    unfold vcDraw vcGuard at h
    split at h
    · rename_i hg; exact go (.inl hg) h
    · rename_i j want hg
      split at h
      · rename_i d hd0
        have hd : (ops[j]?).bind (·.dst) = some d := by
          rw [List.getElem?_map, Option.map_eq_some_iff] at hd0
          obtain ⟨oj, e1, e2⟩ := hd0
          rw [Array.getElem?_toList] at e1
          rw [e1]; exact e2
        split at h
        · rename_i b hb
          split at h
          · rename_i hbw; subst hbw; exact go (.inr ⟨j, b, d, hg, hd, hb⟩) h
          · rename_i hbw
            obtain ⟨r, E', H', h3, h4⟩ := vcDraw_run l _ _ h
            exact ⟨⟨.v undef, none⟩ :: r, E', H', .cons (.inl ⟨rfl, rfl, j, want, d, _, hg, hd, hb, fun e => hbw (by injection e)⟩) (by simpa [newsOf] using h3), h4⟩
        · rename_i xs hb
          obtain ⟨r, E', H', h3, h4⟩ := vcDraw_run l _ _ h
          exact ⟨⟨.v undef, none⟩ :: r, E', H', .cons (.inl ⟨rfl, rfl, j, want, d, _, hg, hd, hb, fun e => by cases e⟩) (by simpa [newsOf] using h3), h4⟩
        · exact h.elim
      · exact h.elim
end
section
open Go.RowKit
def envAt : List Oper → List Stp → Env → Nat → Env
  | _, _, E, 0 => E
  | o :: l, s :: r, E, k + 1 => envAt l r (E.put o.dst s.t) k
  | _, _, E, _ => E
def hpAt : List Stp → Hp → Nat → Hp
  | _, H, 0 => H
  | s :: r, H, k + 1 => hpAt r (H ++ newsOf s.nb) k
  | [], H, _ => H
theorem envAt_succ : ∀ (l : List Oper) (r : List Stp) (E : Env) (k : Nat) (o : Oper) (s : Stp), l[k]? = some o → r[k]? = some s → envAt l r E (k + 1) = (envAt l r E k).put o.dst s.t
  | [], _, _, _, _, _, h, _ => by simp at h
  | _ :: _, [], _, _, _, _, _, h => by simp at h
  | x :: l, y :: r, E, 0, o, s, h1, h2 => by simp at h1 h2; subst h1 h2; cases l <;> cases r <;> rfl
  | x :: l, y :: r, E, k + 1, o, s, h1, h2 => by
    have := envAt_succ l r (E.put x.dst y.t) k o s (by simpa using h1) (by simpa using h2)
    simpa [envAt] using this
theorem hpAt_succ : ∀ (r : List Stp) (H : Hp) (k : Nat) (s : Stp), r[k]? = some s → hpAt r H (k + 1) = hpAt r H k ++ newsOf s.nb
  | [], _, _, _, h => by simp at h
  | y :: r, H, 0, s, h => by simp at h; subst h; cases r <;> rfl
  | y :: r, H, k + 1, s, h => by have := hpAt_succ r (H ++ newsOf y.nb) k s (by simpa using h); simpa [hpAt] using this
theorem run_at [Dr] {P : Program} {tab : Tab} {im : List Nat} {ops : Array Oper} {l : List Oper} {E : Env} {H : Hp} {r : List Stp} {E' : Env} {H' : Hp} (h : Run P tab im ops l E H r E' H') :
    r.length = l.length ∧ E' = envAt l r E l.length ∧ H' = hpAt r H l.length ∧ ∀ k o s, l[k]? = some o → r[k]? = some s → StpOk P tab im ops o (envAt l r E k) (hpAt r H k) s := by
  induction h with
  | nil E H => exact ⟨rfl, rfl, rfl, fun k o s h => by simp at h⟩
  | cons h k ih =>
    obtain ⟨h1, h2, h3, h4⟩ := ih
    refine ⟨by simp [h1], h2, h3, fun k o s ho hs => ?_⟩
    cases k with
    | zero => simp at ho hs; subst ho hs; exact h
    | succ k => exact h4 k o s (by simpa using ho) (by simpa using hs)
theorem hpAt_keep {r : List Stp} {H : Hp} : ∀ (k k' : Nat), k ≤ k' → k' ≤ r.length → (hpAt r H k).length ≤ (hpAt r H k').length ∧ ∀ b, b < (hpAt r H k).length → blkH (hpAt r H k') b = blkH (hpAt r H k) b := by
  intro k k' hkk hk'
  induction k' with
  | zero => obtain rfl : k = 0 := by omega
            exact ⟨Nat.le_refl _, fun b _ => rfl⟩
  | succ k' ih =>
    rcases Nat.lt_or_ge k (k' + 1) with h | h
    · obtain ⟨h1, h2⟩ := ih (by omega) (by omega)
      have hs := hpAt_succ r H k' r[k'] (List.getElem?_eq_getElem (by omega))
      rw [hs]
      refine ⟨by simp; omega, fun b hb => ?_⟩
      rw [← h2 b hb]
      cases r[k'].nb with
      | none => simp [newsOf]
      | some cs => simp only [newsOf]; rw [blkH_push, if_neg (by omega)]
    · obtain rfl : k = k' + 1 := by omega
      exact ⟨Nat.le_refl _, fun b _ => rfl⟩
section
variable {P : Program} {tab : Tab} {n m kb : Nat} {l : List Oper} {E : Env} {H : Hp} {r : List Stp} {X0 : Nat → Prop} {M0 : Mp}
def made (r : List Stp) (H : Hp) (L : Nat → Prop) (b : Nat) : Prop := ∃ k s, r[k]? = some s ∧ s.nb ≠ none ∧ L k ∧ (hpAt r H k).length = b
open Classical in
noncomputable def lookD (r : List Stp) (H : Hp) (L : Nat → Prop) (b : Nat) : Blk := if b < H.length then blkH H b else if made r H L b then blkH (hpAt r H r.length) b else .d
structure Jd [Dr] (n kb : Nat) (pre : List Oper) (r : List Stp) (E : Env) (H : Hp) (X0 : Nat → Prop) (L : Nat → Prop) (a : Act) (M : Mp) : Prop where
  sim : Sim (lookD r H L) (fun b => b < H.length ∨ made r H L b) X0 M
  slot : ∀ k o s d, pre[k]? = some o → r[k]? = some s → L k → o.dst = some d → ∃ u, a.tmps[d]? = some u ∧ Rep M s.t u
  old : ∀ d t, E.get d = some t → (∀ k o, pre[k]? = some o → L k → o.dst ≠ some d) → ∃ u, a.tmps[d]? = some u ∧ Rep M t u
  sz : a.tmps.size = n
  df : Marks kb a.defers M
  ge : kb ≤ M.w.heap.size
theorem hp_start {r : List Stp} {H : Hp} {k : Nat} (hk : k ≤ r.length) : H.length ≤ (hpAt r H k).length ∧ ∀ b, b < H.length → blkH (hpAt r H k) b = blkH H b := by
  have := hpAt_keep (r := r) (H := H) 0 k (Nat.zero_le _) hk
  cases r <;> exact this
theorem new_at {k : Nat} {s : Stp} {cs : List T} (hs : r[k]? = some s) (hn : s.nb = some cs) : (hpAt r H (k + 1)).length = (hpAt r H k).length + 1 ∧ blkH (hpAt r H r.length) (hpAt r H k).length = .c cs := by
  have hk := (List.getElem?_eq_some_iff.1 hs).1
  have h1 := hpAt_succ r H k s hs
  rw [hn] at h1
  simp only [newsOf] at h1
  obtain ⟨h2, h3⟩ := hpAt_keep (r := r) (H := H) (k + 1) r.length hk (Nat.le_refl _)
  have hl : (hpAt r H (k + 1)).length = (hpAt r H k).length + 1 := by rw [h1]; simp
  refine ⟨hl, ?_⟩
  rw [h3 _ (by omega), h1, blkH_push, if_pos rfl]
theorem new_ne {j k : Nat} {s s' : Stp} (hs : r[j]? = some s) (hn : s.nb ≠ none) (hs' : r[k]? = some s') (hn' : s'.nb ≠ none) (he : (hpAt r H j).length = (hpAt r H k).length) : j = k := by
  have hj := (List.getElem?_eq_some_iff.1 hs).1
  have hk := (List.getElem?_eq_some_iff.1 hs').1
  obtain ⟨cs, hcs⟩ := Option.ne_none_iff_exists'.1 hn
  obtain ⟨cs', hcs'⟩ := Option.ne_none_iff_exists'.1 hn'
  have h1 := (new_at (H := H) hs hcs).1
  have h2 := (new_at (H := H) hs' hcs').1
  rcases Nat.lt_trichotomy j k with h | h | h
  · have := (hpAt_keep (r := r) (H := H) (j + 1) k h (by omega)).1; omega
  · exact h
  · have := (hpAt_keep (r := r) (H := H) (k + 1) j h (by omega)).1; omega
theorem Jd.look [Dr] {pre : List Oper} {L : Nat → Prop} {a : Act} {M : Mp} (h : Jd n kb pre r E H X0 L a M) {k : Nat} (hk : k ≤ r.length) : LookAt M (lookH (hpAt r H k)) := by
  intro b B O cells hb hc
  refine Sim.look h.sim b B O cells hb ?_
  have hd := h.sim.D_of hb
  have hlt := lookH_lt hc
  rw [lookH_c] at hc
  rw [cells_some]
  obtain ⟨-, h3⟩ := hpAt_keep (r := r) (H := H) k r.length hk (Nat.le_refl _)
  unfold lookD
  by_cases hbH : b < H.length
  · rw [if_pos hbH, ← (hp_start hk).2 b hbH]; exact hc
  · rw [if_neg hbH, if_pos (hd.resolve_left hbH), h3 b hlt]; exact hc
theorem env_get {pre : List Oper} (hr : r.length = pre.length) {k d : Nat} (hk : k ≤ pre.length) (hdis : ∀ (i j : Nat) (oi oj : Oper), pre[i]? = some oi → pre[j]? = some oj → i ≠ j → ∀ d, oi.dst = some d → oj.dst ≠ some d) :
    (∀ j oj s, j < k → pre[j]? = some oj → r[j]? = some s → oj.dst = some d → (envAt pre r E k).get d = some s.t) ∧
    ((∀ j oj, j < k → pre[j]? = some oj → oj.dst ≠ some d) → (envAt pre r E k).get d = E.get d) := by
  induction k with
  | zero => exact ⟨fun j oj s hj => by omega, fun _ => by cases pre <;> cases r <;> rfl⟩
  | succ k ih =>
    obtain ⟨ih1, ih2⟩ := ih (by omega)
    have ho : pre[k]? = some pre[k] := List.getElem?_eq_getElem (by omega)
    have hs : r[k]? = some r[k] := List.getElem?_eq_getElem (by omega)
    rw [envAt_succ pre r E k _ _ ho hs]
    refine ⟨fun j oj s hj hoj hsj hd => ?_, fun hno => ?_⟩
    · by_cases hjk : j = k
      · subst hjk
        rw [ho] at hoj; rw [hs] at hsj
        injection hoj with hoj; injection hsj with hsj; subst hoj hsj
        rw [hd, get_put, if_pos rfl]
      · have h1 := ih1 j oj s (by omega) hoj hsj hd
        have hne := hdis j k _ _ hoj ho hjk d hd
        cases hdk : pre[k].dst with
        | none => rw [show (envAt pre r E k).put none r[k].t = envAt pre r E k from rfl]; exact h1
        | some d' =>
          rw [get_put, if_neg (fun e => hne (by rw [hdk, e]))]; exact h1
    · have h1 := ih2 fun j oj hj hoj => hno j oj (by omega) hoj
      have hne := hno k _ (by omega) ho
      cases hdk : pre[k].dst with
      | none => rw [show (envAt pre r E k).put none r[k].t = envAt pre r E k from rfl]; exact h1
      | some d' => rw [get_put, if_neg (fun e => hne (by rw [hdk, e]))]; exact h1
structure OrdB (l : List Oper) (m : Nat) : Prop where
  back : backB l 0 = true
  pair : ∀ (k : Nat) (o : Oper) (j : Nat) (oj : Oper), (l.take m)[k]? = some o → (l.take m)[j]? = some oj → j ≠ k → ∀ d, oj.dst = some d → o.dst ≠ some d ∧ (d ∈ readsOf l.toArray o → if j < k then ((masks l []).getD k 0).testBit j = true else ((masks l []).getD j 0).testBit k = true)
  grd : ∀ (k : Nat) (o : Oper) (g : Nat) (w : Bool), (l.take m)[k]? = some o → o.guard = some (g, w) → g < k
  full : ∀ k, m ≤ k → k < l.length → ∀ j, j < k → ((masks l []).getD k 0).testBit j = true
  le : m ≤ l.length
theorem ord_of (h : drawB n m l = true) : OrdB l m ∧ dstB n l = true := by
  simp only [drawB, Bool.and_eq_true, decide_eq_true_eq] at h
  obtain ⟨⟨⟨⟨h1, h2⟩, h3⟩, h4⟩, h5⟩ := h
  refine ⟨⟨h1, fun k o j oj ho hoj hjk d hd => ?_, fun k o g w ho hg => ?_, fun k hmk hk j hj => ?_, h5⟩, h4⟩
  · obtain ⟨g1, -⟩ := all_at _ 0 k o h2 ho
    have g2 := row_at _ 0 j oj g1 hoj
    rw [Nat.zero_add, Nat.zero_add] at g2
    unfold pairB at g2
    rw [hd] at g2
    simp only [Bool.or_eq_true, beq_iff_eq, Bool.and_eq_true, bne_iff_ne, Bool.not_eq_true'] at g2
    rcases g2 with g2 | ⟨g2, g3⟩
    · exact absurd g2 hjk
    · refine ⟨g2, fun hm => ?_⟩
      rcases g3 with g3 | g3
      · rw [List.contains_iff_mem.2 hm] at g3; cases g3
      · split at g3
        · rename_i hlt; rw [if_pos hlt]; exact g3
        · rename_i hlt; rw [if_neg hlt]; exact g3
  · have := (all_at _ 0 k o h2 ho).2 g w hg
    simpa using this
  · have := full_at _ m (k - m) h3 (by simp; omega)
    rw [show m + (k - m) = k from by omega] at this
    rw [this, Nat.testBit_two_pow_sub_one]
    simpa using hj
theorem Jd.read [Dr] {L : Nat → Prop} {a : Act} {M : Mp} (hO : OrdB l m) (hr : r.length = (l.take m).length) (h : Jd n kb (l.take m) r E H X0 L a M) (hc : Closed l L) {k : Nat} {o : Oper} (ho : (l.take m)[k]? = some o) (hk : ¬ L k) (hpre : ∀ e ∈ o.after, Region.binds .any e = true → L e.on)
    {d : Nat} {t : T} (hd : d ∈ readsOf l.toArray o) (ht : (envAt (l.take m) r E k).get d = some t) : ∃ u, a.tmps[d]? = some u ∧ Rep M t u := by
  have hkl : k < (l.take m).length := (List.getElem?_eq_some_iff.1 ho).1
  have hol : l[k]? = some o := by rw [List.getElem?_take] at ho; split at ho; exact ho; cases ho
  have hdis : ∀ (i j : Nat) (oi oj : Oper), (l.take m)[i]? = some oi → (l.take m)[j]? = some oj → i ≠ j → ∀ d, oi.dst = some d → oj.dst ≠ some d := fun i j oi oj hi hj hij d hdi => (hO.pair j oj i oi hj hi hij d hdi).1
  obtain ⟨g1, g2⟩ := env_get (E := E) (d := d) hr (Nat.le_of_lt hkl) hdis
  by_cases hw : ∃ j oj, j < k ∧ (l.take m)[j]? = some oj ∧ oj.dst = some d
  · obtain ⟨j, oj, hj, hoj, hdj⟩ := hw
    have hs : r[j]? = some r[j] := List.getElem?_eq_getElem (by omega)
    rw [g1 j oj _ hj hoj hs hdj] at ht
    injection ht with ht; subst ht
    have hm := (hO.pair k o j oj ho hoj (by omega) d hdj).2 hd
    rw [if_pos hj] at hm
    exact h.slot j oj _ d hoj hs (mask_next hO.back hc hol hpre hm) hdj
  · rw [g2 fun j oj hj hoj hdj => hw ⟨j, oj, hj, hoj, hdj⟩] at ht
    refine h.old d t ht fun j oj hoj hLj hdj => ?_
    by_cases hjk : j = k
    · subst hjk; exact hk hLj
    · have hm := (hO.pair k o j oj ho hoj hjk d hdj).2 hd
      by_cases hlt : j < k
      · exact hw ⟨j, oj, hlt, hoj, hdj⟩
      · rw [if_neg hlt] at hm
        exact hk (mask_listed hO.back hc j hLj k hm)
end
end
end Go.Proofs.Ytnngelggbljchaa
