/-
  A LAW FOR REGIONS THAT DRAW THEIR ORDER (no program in it): each operation has a predicate on its value that later worlds keep; whatever order is drawn, all hold at the end.
-/
import Derived.Test.YtiefpodmdpnppaaDoorMem
import Derived.Still
import Derived.Tactics
namespace Go.Proofs.YtiefpodmdpnppaaDoor
open Go.RowKit

def Later (w w' : World) : Prop := Below w.heap.size w w'
theorem Later.refl (w : World) : Later w w := Below.refl _ _
theorem Later.trans {a b c : World} (h : Later a b) (k : Later b c) : Later a c := below_next h k
theorem later_drawn (w : World) : Later w { w with drawn := w.drawn + 1 } := ⟨rfl, rfl, rfl, Nat.le_refl _, fun _ _ => rfl⟩

/-- a predicate on a value that later worlds keep -/
structure Stay where
  R : Value → World → Prop
  st : ∀ v w w', R v w → Later w w' → R v w'
def Stay.val (x : Value) : Stay := ⟨fun v _ => v = x, fun _ _ _ h _ => h⟩
def Stay.any : Stay := ⟨fun _ _ => True, fun _ _ _ _ _ => trivial⟩

def meekUpon (P : Program) (w : World) (R : Value → World → Prop) : Result Next → Prop
  | .ok (.value u) w' => Later w w' ∧ R u w'
  | .ok .skip w' => Later w w' ∧ R undef w'
  | .ok (.enter f args) w' => Later w w' ∧ Calls P f args w' (fun e w'' => ∃ v, e = .returned v ∧ Later w' w'' ∧ R v w'')
  | _ => False

/-- the value that stands in an operation's slot -/
def slotOf (a : Act) (o : Oper) : Value := match o.dst with | some d => a.tmps.getD d undef | none => undef
structure Fr (a0 : Act) (ops : Array Oper) (a : Act) : Prop where
  size : a.tmps.size = a0.tmps.size
  defers : a.defers = a0.defers
  out : ∀ t : Nat, (∀ (k : Nat) (o : Oper), ops[k]? = some o → o.dst ≠ some t) → a.tmps[t]? = a0.tmps[t]?

def needs (ops : Array Oper) (o od : Oper) : Bool := match od.dst with | some t => (o.looksAt ops).contains t | none => false
def meekB (ops : Array Oper) (n : Nat) : Bool :=
  Region.noSelect ops &&
  ((List.range ops.size).all fun k => match ops[k]? with
    | none => true
    | some o =>
      (o.after.toList.all fun e => !Region.binds .any e || decide (e.on < k)) &&
      (match o.dst with | some d => decide (d < n) | none => true) &&
      ((List.range ops.size).all fun j => match ops[j]? with
        | none => true
        | some oj => (!needs ops o oj || o.after.toList.any fun e => Region.binds .any e && e.on == j) && (j == k || o.dst.isNone || oj.dst != o.dst)))
theorem meekB_op {ops : Array Oper} {n : Nat} (h : meekB ops n = true) {k : Nat} {o : Oper} (ho : ops[k]? = some o) :
    (∀ e ∈ o.after, Region.binds .any e = true → e.on < k) ∧ (∀ d, o.dst = some d → d < n) ∧
    (∀ (j : Nat) (oj : Oper), ops[j]? = some oj → (needs ops o oj = true → ∃ e ∈ o.after, Region.binds .any e = true ∧ e.on = j) ∧ (j ≠ k → ∀ d, o.dst = some d → oj.dst ≠ some d)) := by
  have hk : k < ops.size := (Array.getElem?_eq_some_iff.1 ho).1
  simp only [meekB, Bool.and_eq_true, List.all_eq_true, List.mem_range] at h
  have h1 := h.2 k hk
  simp only [ho, Bool.and_eq_true, List.all_eq_true, List.mem_range] at h1
  obtain ⟨⟨ha, hd⟩, hj⟩ := h1
  refine ⟨fun e he hb => ?_, fun d he => ?_, fun j oj hoj => ?_⟩
  · have := ha e (by simpa using he)
    simp [hb] at this; exact this
  · simp [he] at hd; exact hd
  · have hjl : j < ops.size := (Array.getElem?_eq_some_iff.1 hoj).1
    have h2 := hj j hjl
    simp only [hoj, Bool.and_eq_true] at h2
    obtain ⟨h3, h4⟩ := h2
    refine ⟨fun hn => ?_, fun hne d he => ?_⟩
    · simp only [hn, Bool.not_true, Bool.false_or, List.any_eq_true, Bool.and_eq_true, beq_iff_eq] at h3
      obtain ⟨e, he, hb, ho⟩ := h3
      exact ⟨e, by simpa using he, hb, ho⟩
    · simp [he, hne] at h4; exact h4
theorem meekB_sel {ops : Array Oper} {n : Nat} (h : meekB ops n = true) : Region.noSelect ops = true := by
  simp only [meekB, Bool.and_eq_true] at h; exact h.1

/-- what is asked of one operation -/
def meekStep (P : Program) (ops : Array Oper) (a0 : Act) (w0 : World) (R : Nat → Stay) (k : Nat) (o : Oper) : Prop :=
  ∀ (a : Act) (w : World), Later w0 w → Fr a0 ops a → (∀ (d : Nat) (od : Oper), ops[d]? = some od → needs ops o od = true → (R d).R (slotOf a od) w) →
    if Region.wanted o (yielded ops a.tmps) then meekUpon P w (R k).R ((execOp a.eval o).run P w) else (R k).R undef w

theorem Fr.put {a0 a : Act} {ops : Array Oper} (h : Fr a0 ops a) {k : Nat} {o : Oper} (ho : ops[k]? = some o) (v : Value) : Fr a0 ops (a.put o.dst v) := by
  cases hd : o.dst with
  | none => exact h
  | some d =>
    refine ⟨by simp [Act.put, h.size], h.defers, fun t ht => ?_⟩
    have hne : d ≠ t := fun e => ht k o ho (by rw [hd, e])
    simp only [Act.put]
    rw [Array.getElem?_setIfInBounds_ne hne]
    exact h.out t ht
theorem slot_same {a : Act} {o : Oper} {v : Value} (hd : ∀ d, o.dst = some d → d < a.tmps.size) : o.dst = none ∨ slotOf (a.put o.dst v) o = v := by
  unfold slotOf
  cases h : o.dst with
  | none => exact Or.inl rfl
  | some d => have := hd d h; exact Or.inr (by simp [Act.put, this])
theorem slot_other {a : Act} {o oj : Oper} {v : Value} (hd : ∀ d, o.dst = some d → oj.dst ≠ some d) : slotOf (a.put o.dst v) oj = slotOf a oj := by
  unfold slotOf
  cases h : o.dst with
  | none => rfl
  | some d =>
    cases hj : oj.dst with
    | none => rfl
    | some t =>
      have hne : d ≠ t := fun e => hd d h (by rw [hj, e])
      simp [Act.put, Array.getElem?_setIfInBounds_ne hne]

theorem countP_lt {α : Type} (f g : α → Bool) : ∀ l : List α, (∀ x ∈ l, g x = true → f x = true) → (∃ x ∈ l, f x = true ∧ g x = false) → l.countP g < l.countP f
  | [], _, h => by obtain ⟨x, hx, _⟩ := h; cases hx
  | x :: l, h1, h2 => by
    have hle : l.countP g ≤ l.countP f := List.countP_mono_left fun y hy => h1 y (List.mem_cons_of_mem _ hy)
    rw [List.countP_cons, List.countP_cons]
    by_cases hx : f x = true ∧ g x = false
    · simp [hx.1, hx.2]; omega
    · have h3 : ∃ y ∈ l, f y = true ∧ g y = false := by
        obtain ⟨y, hy, hfy⟩ := h2
        rcases List.mem_cons.1 hy with rfl | hy
        · exact absurd hfy hx
        · exact ⟨y, hy, hfy⟩
      have h4 := countP_lt f g l (fun y hy => h1 y (List.mem_cons_of_mem _ hy)) h3
      have h5 := h1 x (List.mem_cons_self ..)
      cases hg : g x
      · simp; omega
      · simp [h5 hg]; omega

def left (ops : Array Oper) (listed : Array Bool) : Nat := (List.range ops.size).countP fun k => !listed.getD k true
theorem left_set {ops : Array Oper} {listed : Array Bool} {i : Nat} (hi : i < ops.size) (hu : listed.getD i true = false) : left ops (listed.setIfInBounds i true) < left ops listed := by
  have hlt : i < listed.size := by
    rcases Nat.lt_or_ge i listed.size with h | h
    · exact h
    · simp [Array.getElem?_eq_none h] at hu
  refine countP_lt _ _ _ (fun k _ hk => ?_) ⟨i, List.mem_range.2 hi, by simp [hu], by simp [hlt]⟩
  by_cases h : i = k
  · subst h; simp [hlt] at hk
  · rw [getD_set_ne true h] at hk; exact hk

theorem all_listed {ops : Array Oper} {n : Nat} (hB : meekB ops n = true) {listed : Array Bool} (hr : Region.ready .any ops listed = []) : ∀ k, k < ops.size → listed.getD k true = true := by
  intro k
  induction k using Nat.strongRecOn with
  | ind k ih =>
    intro hk
    by_cases h : listed.getD k true = true
    · exact h
    · exfalso
      have ho : ops[k]? = some ops[k] := Array.getElem?_eq_getElem hk
      have hm : k ∈ Region.ready .any ops listed := mem_ready.2 ⟨by simpa using h, _, ho, fun e he hb => by
        have hlt := (meekB_op hB ho).1 e he hb
        have h1 := ih e.on hlt (by omega)
        have hs : k < listed.size := by
          rcases Nat.lt_or_ge k listed.size with h' | h'
          · exact h'
          · simp [Array.getElem?_eq_none h'] at h
        have h2 : e.on < listed.size := by omega
        simp [h2] at h1 ⊢; exact h1⟩
      rw [hr] at hm; cases hm

theorem meek_any {P : Program} {ops : Array Oper} {Q : Exit → Act → World → Prop} {a0 : Act} {w0 : World} {R : Nat → Stay} (hB : meekB ops a0.tmps.size = true)
    (hst : ∀ (k : Nat) (o : Oper), ops[k]? = some o → meekStep P ops a0 w0 R k o)
    (hQ : ∀ (a : Act) (w : World), Later w0 w → Fr a0 ops a → (∀ (k : Nat) (o : Oper), ops[k]? = some o → o.dst ≠ none → (R k).R (slotOf a o) w) → Q .normal a w) :
    ∀ (fuel : Nat) (listed : Array Bool) (a : Act) (w : World), left ops listed ≤ fuel → listed.size = ops.size → Later w0 w → Fr a0 ops a →
      (∀ (k : Nat) (o : Oper), ops[k]? = some o → o.dst ≠ none → listed.getD k false = true → (R k).R (slotOf a o) w) → wpAny P .any ops Q fuel listed a w := by
  have fin : ∀ (listed : Array Bool) (a : Act) (w : World), listed.size = ops.size → Later w0 w → Fr a0 ops a →
      (∀ (k : Nat) (o : Oper), ops[k]? = some o → o.dst ≠ none → listed.getD k false = true → (R k).R (slotOf a o) w) → Region.ready .any ops listed = [] → Q .normal a w := by
    intro listed a w hsz hl hf hall hr
    refine hQ a w hl hf fun k o ho hd => hall k o ho hd ?_
    have hk : k < ops.size := (Array.getElem?_eq_some_iff.1 ho).1
    have := all_listed hB hr k hk
    have hk2 : k < listed.size := by omega
    simp [hk2] at this ⊢; exact this
  intro fuel
  induction fuel with
  | zero =>
    intro listed a w hleft hsz hl hf hall
    have hr : Region.ready .any ops listed = [] := by
      rcases hR : Region.ready .any ops listed with _ | ⟨i, l⟩
      · rfl
      · exfalso
        have hm : i ∈ Region.ready .any ops listed := by rw [hR]; exact List.mem_cons_self ..
        obtain ⟨hu, o, ho, _⟩ := mem_ready.1 hm
        have hi : i < ops.size := (Array.getElem?_eq_some_iff.1 ho).1
        have := left_set hi hu
        omega
    exact ⟨hr, fin listed a w hsz hl hf hall hr⟩
  | succ fuel ih =>
    intro listed a w hleft hsz hl hf hall
    refine ⟨fin listed a w hsz hl hf hall, fun i hi => ?_⟩
    obtain ⟨hu, o, ho, hall2⟩ := mem_ready.1 hi
    have hil : i < ops.size := (Array.getElem?_eq_some_iff.1 ho).1
    obtain ⟨-, hdn, hj⟩ := meekB_op hB ho
    have next : ∀ (v : Value) (w' : World), Later w w' → (R i).R v w' → wpAny P .any ops Q fuel (listed.setIfInBounds i true) (a.put o.dst v) w' := by
      intro v w' hlw hv
      have hlt := left_set hil hu
      refine ih _ _ _ (by omega) (by simp [hsz]) (hl.trans hlw) (hf.put ho v) fun k ok hok hd hlk => ?_
      by_cases hki : k = i
      · subst hki
        obtain rfl : o = ok := by rw [ho] at hok; injection hok
        rcases slot_same (a := a) (o := o) (v := v) (fun d he => by rw [hf.size]; exact hdn d he) with h0 | h0
        · exact absurd h0 hd
        · rw [h0]; exact hv
      · rw [slot_other fun d he => (hj k ok hok).2 hki d he]
        refine (R k).st _ _ _ (hall k ok hok hd ?_) hlw
        rw [getD_set_ne false (Ne.symm hki)] at hlk; exact hlk
    have hs := hst i o ho a w hl hf fun d od hod hn => hall d od hod (fun h0 => by unfold needs at hn; rw [h0] at hn; cases hn) (by
      obtain ⟨e, he, hb, rfl⟩ := (hj d od hod).1 hn
      exact hall2 e he hb)
    unfold wpOp
    simp only [ho]
    split
    · rename_i hw
      simp only [hw, if_true] at hs
      refine .inl ?_
      unfold Oper.wp
      generalize (execOp a.eval o).run P w = r at *
      cases r with
      | ok n w' =>
        cases n <;> simp only [meekUpon] at hs <;> simp only [Oper.upon]
        case value u => exact next u w' hs.1 hs.2
        case skip => exact next undef w' hs.1 hs.2
        case enter f args => exact hs.2.mono fun e w'' ⟨v, he, hlw, hv⟩ => by subst he; exact next v w'' (hs.1.trans hlw) hv
      | halt x w' => simp only [meekUpon] at hs
    · rename_i hw
      simp only [hw] at hs
      exact next undef w (Later.refl w) hs

/-- the frame with the region's slots laid anew -/
def putAll (g : Nat → Value) : List Oper → Act → Act
  | [], a => a
  | o :: l, a => putAll g l (a.put o.dst (match o.dst with | some d => g d | none => undef))
theorem fr_putAll {a : Act} : ∀ (l : List Oper) (b : Act), a.tmps.size = b.tmps.size → a.defers = b.defers → (∀ t : Nat, (∀ o ∈ l, o.dst ≠ some t) → a.tmps[t]? = b.tmps[t]?) → a = putAll (fun d => a.tmps.getD d undef) l b
  | [], b, h1, h2, h3 => by
    obtain ⟨ta, da⟩ := a; obtain ⟨tb, db⟩ := b
    simp only at h1 h2 h3
    subst h2
    simp only [putAll]
    congr 1
    exact Array.ext_getElem? fun t => h3 t (by simp)
  | o :: l, b, h1, h2, h3 => by
    simp only [putAll]
    cases hd : o.dst with
    | none => exact fr_putAll l b h1 h2 fun t ht => h3 t (fun o' ho' => by rcases List.mem_cons.1 ho' with rfl | ho'; (rw [hd]; simp); exact ht o' ho')
    | some d =>
      refine fr_putAll l _ (by simp [Act.put, h1]) h2 fun t ht => ?_
      by_cases htd : d = t
      · subst htd
        simp only [Act.put]
        by_cases hlt : d < b.tmps.size
        · have ha : d < a.tmps.size := h1 ▸ hlt
          simp [hlt, ha]
        · have ha : ¬ d < a.tmps.size := h1 ▸ hlt
          rw [Array.getElem?_eq_none (Nat.not_lt.1 ha), Array.getElem?_eq_none (by simpa using Nat.not_lt.1 hlt)]
      · simp only [Act.put]
        rw [Array.getElem?_setIfInBounds_ne htd]
        exact h3 t (fun o' ho' => by rcases List.mem_cons.1 ho' with rfl | ho'; (rw [hd]; simpa using htd); exact ht o' ho')

def meekAll (P : Program) (ops : Array Oper) (a0 : Act) (w0 : World) (R : Nat → Stay) : List Oper → Nat → Prop
  | [], _ => True
  | o :: l, k => meekStep P ops a0 w0 R k o ∧ meekAll P ops a0 w0 R l (k + 1)
theorem meekAll_at {P : Program} {ops : Array Oper} {a0 : Act} {w0 : World} {R : Nat → Stay} : ∀ (l : List Oper) (k : Nat), meekAll P ops a0 w0 R l k → ∀ (j : Nat) (o : Oper), l[j]? = some o → meekStep P ops a0 w0 R (k + j) o
  | [], _, _, j, o, h => by simp at h
  | x :: l, k, hh, 0, o, h => by simp at h; subst h; exact hh.1
  | x :: l, k, hh, j + 1, o, h => by
    have := meekAll_at l (k + 1) hh.2 j o (by simpa using h)
    rwa [show k + (j + 1) = k + 1 + j from by omega]
/-- what holds at the end -/
def meekEnd (R : Nat → Stay) (g : Nat → Value) (w : World) : List Oper → Nat → Prop
  | [], _ => True
  | o :: l, k => (match o.dst with | some d => (R k).R (g d) w | none => True) ∧ meekEnd R g w l (k + 1)
theorem meekEnd_of {R : Nat → Stay} {a : Act} {w : World} : ∀ (l : List Oper) (k : Nat), (∀ (j : Nat) (o : Oper), l[j]? = some o → o.dst ≠ none → (R (k + j)).R (slotOf a o) w) → meekEnd R (fun d => a.tmps.getD d undef) w l k
  | [], _, _ => trivial
  | o :: l, k, h => by
    refine ⟨?_, meekEnd_of l (k + 1) fun j oj hj hd => by have := h (j + 1) oj (by simpa using hj) hd; rwa [show k + (j + 1) = k + 1 + j from by omega] at this⟩
    have := h 0 o (by simp)
    cases hd : o.dst with
    | none => trivial
    | some d => have h1 := this (by rw [hd]; simp); unfold slotOf at h1; rw [hd] at h1; exact h1

theorem meekEnd_get {R : Nat → Stay} {g : Nat → Value} {w : World} : ∀ (l : List Oper) (k : Nat), meekEnd R g w l k → ∀ (j d : Nat), ((l[j]?).bind (·.dst) == some d) = true → (R (k + j)).R (g d) w
  | [], _, _, j, d, h => by simp at h
  | o :: l, k, hh, 0, d, h => by
    have h1 := hh.1
    simp only [List.getElem?_cons_zero, Option.bind_some, beq_iff_eq] at h
    rw [h] at h1; exact h1
  | o :: l, k, hh, j + 1, d, h => by
    have := meekEnd_get l (k + 1) hh.2 j d (by simpa using h)
    rwa [show k + (j + 1) = k + 1 + j from by omega]
theorem meek_val {Rs : List Stay} {g : Nat → Value} {w : World} {l : List Oper} (h : meekEnd (fun k => Rs.getD k Stay.any) g w l 0) (j d : Nat) (hj : ((l[j]?).bind (·.dst) == some d) = true) (S : Stay) (hS : Rs[j]? = some S) : S.R (g d) w := by
  have := meekEnd_get l 0 h j d hj
  rw [Nat.zero_add] at this
  simp only [List.getD_eq_getElem?_getD, hS, Option.getD_some] at this
  exact this

/-- THE LAW: a region that draws its order, whose operations keep what was. -/
theorem wp_region_meek {P : Program} {id : Nat} {Q : Exit → Act → World → Prop} {a : Act} {w : World} {l : List Oper} (Rs : List Stay) (n : Nat) (hn : a.tmps.size = n) (hm : P.follows .mixedOrders = true) (hB : meekB l.toArray n = true)
    (hst : meekAll P l.toArray a w (fun k => Rs.getD k Stay.any) l 0)
    (hQ : ∀ (g : Nat → Value) (w' : World), Later w w' → meekEnd (fun k => Rs.getD k Stay.any) g w' l 0 → Q .normal (putAll g l a) w') : (Code.region id l.toArray true).wp P Q a w := by
  subst hn
  refine wp_region_any hm ?_
  refine meek_any (a0 := a) (w0 := w) (R := fun k => Rs.getD k Stay.any) hB (fun k o ho => by have := meekAll_at l 0 hst k o (by simpa using ho); rwa [Nat.zero_add] at this) (fun a' w' hl hf hall => ?_) _ _ _ _ ?_ (by simp) (later_drawn w) ⟨rfl, rfl, fun _ _ => rfl⟩ ?_
  · rw [fr_putAll l a hf.size hf.defers fun t ht => hf.out t fun k o ho => ht o (List.mem_of_getElem? (by simpa using ho))]
    exact hQ _ w' hl (meekEnd_of l 0 fun j o hj hd => by rw [Nat.zero_add]; exact hall j o (by simpa using hj) hd)
  · exact Nat.le_trans List.countP_le_length (by simp)
  · intro k o ho _ hk
    have hk2 : k < l.length := by simpa using (Array.getElem?_eq_some_iff.1 ho).1
    simp [hk2] at hk

/-- the same where the order is the text's -/
theorem meek_list {P : Program} {ops : Array Oper} {Q : Exit → Act → World → Prop} {a0 : Act} {w0 : World} {R : Nat → Stay} (hB : meekB ops a0.tmps.size = true)
    (hst : ∀ (k : Nat) (o : Oper), ops[k]? = some o → meekStep P ops a0 w0 R k o)
    (hQ : ∀ (a : Act) (w : World), Later w0 w → Fr a0 ops a → (∀ (k : Nat) (o : Oper), ops[k]? = some o → o.dst ≠ none → (R k).R (slotOf a o) w) → Q .normal a w) :
    ∀ (l : List Oper) (i : Nat) (a : Act) (w : World), (∀ j, l[j]? = ops[i + j]?) → Later w0 w → Fr a0 ops a →
      (∀ (k : Nat) (o : Oper), k < i → ops[k]? = some o → o.dst ≠ none → (R k).R (slotOf a o) w) → wpList P ops Q l a w
  | [], i, a, w, hl, hlw, hf, hall => by
    refine wpList_nil (hQ a w hlw hf fun k o ho hd => hall k o ?_ ho hd)
    rcases Nat.lt_or_ge k i with h | h
    · exact h
    · have := hl (k - i)
      rw [show i + (k - i) = k from by omega, ho] at this
      simp at this
  | o :: l, i, a, w, hl, hlw, hf, hall => by
    have ho : ops[i]? = some o := by simpa using (hl 0).symm
    obtain ⟨hlt, hdn, hj⟩ := meekB_op hB ho
    have next : ∀ (v : Value) (w' : World), Later w w' → (R i).R v w' → wpList P ops Q l (a.put o.dst v) w' := by
      intro v w' hlv hv
      refine meek_list hB hst hQ l (i + 1) _ _ (fun j => by have := hl (j + 1); simpa [Nat.add_assoc, Nat.add_comm 1 j] using this) (hlw.trans hlv) (hf.put ho v) fun k ok hki hok hd => ?_
      by_cases hk : k = i
      · subst hk
        obtain rfl : o = ok := by rw [ho] at hok; injection hok
        rcases slot_same (a := a) (o := o) (v := v) (fun d he => by rw [hf.size]; exact hdn d he) with h0 | h0
        · exact absurd h0 hd
        · rw [h0]; exact hv
      · rw [slot_other fun d he => (hj k ok hok).2 hk d he]
        exact (R k).st _ _ _ (hall k ok (by omega) hok hd) hlv
    have hs := hst i o ho a w hlw hf fun d od hod hn => hall d od (by
      obtain ⟨e, he, hb, rfl⟩ := (hj d od hod).1 hn
      exact hlt e he hb) hod (fun h0 => by unfold needs at hn; rw [h0] at hn; cases hn)
    refine wpList_step fun K hK => ?_
    split
    · rename_i hw
      simp only [hw, if_true] at hs
      unfold Oper.wp
      generalize (execOp a.eval o).run P w = r at *
      cases r with
      | ok n w' =>
        cases n <;> simp only [meekUpon] at hs <;> simp only [Oper.upon]
        case value u => exact hK _ _ (next u w' hs.1 hs.2)
        case skip => exact hK _ _ (next undef w' hs.1 hs.2)
        case enter f args => exact hs.2.mono fun e w'' ⟨v, he, hlv, hv⟩ => by subst he; exact hK _ _ (next v w'' (hs.1.trans hlv) hv)
      | halt x w' => simp only [meekUpon] at hs
    · rename_i hw
      simp only [hw] at hs
      exact hK _ _ (next undef w (Later.refl w) hs)
theorem wp_region_meek0 {P : Program} {id : Nat} {Q : Exit → Act → World → Prop} {a : Act} {w : World} {l : List Oper} (Rs : List Stay) (n : Nat) (hn : a.tmps.size = n) (_ : True) (hB : meekB l.toArray n = true)
    (hst : meekAll P l.toArray a w (fun k => Rs.getD k Stay.any) l 0)
    (hQ : ∀ (g : Nat → Value) (w' : World), Later w w' → meekEnd (fun k => Rs.getD k Stay.any) g w' l 0 → Q .normal (putAll g l a) w') : (Code.region id l.toArray false).wp P Q a w := by
  subst hn
  refine wp_region_lit ?_
  refine meek_list (a0 := a) (w0 := w) (R := fun k => Rs.getD k Stay.any) hB (fun k o ho => by have := meekAll_at l 0 hst k o (by simpa using ho); rwa [Nat.zero_add] at this) (fun a' w' hl hf hall => ?_) l 0 a w (fun j => by simp) (Later.refl w) ⟨rfl, rfl, fun _ _ => rfl⟩ (fun k o hk => absurd hk (by omega))
  rw [fr_putAll l a hf.size hf.defers fun t ht => hf.out t fun k o ho => ht o (List.mem_of_getElem? (by simpa using ho))]
  exact hQ _ w' hl (meekEnd_of l 0 fun j o hj hd => by rw [Nat.zero_add]; exact hall j o (by simpa using hj) hd)
end Go.Proofs.YtiefpodmdpnppaaDoor
