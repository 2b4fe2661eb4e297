/-
  OPERATIONS of a region under the meek law (no program in it).
-/
import Derived.Test.YtiefpodmdpnppaaDoorMeek
namespace Go.Proofs.YtiefpodmdpnppaaDoor
open Go.RowKit

section
variable {P : Program} {ops : Array Oper} {a0 : Act} {w0 : World} {R : Nat → Stay} {k : Nat} {o : Oper}

/-- what an operand is, wherever the operation comes up -/
def Opd (ops : Array Oper) (a0 : Act) (w0 : World) (R : Nat → Stay) (o : Oper) (x : Operand) (V : Value → World → Prop) : Prop :=
  ∀ (a : Act) (w : World), Later w0 w → Fr a0 ops a → (∀ (d : Nat) (od : Oper), ops[d]? = some od → needs ops o od = true → (R d).R (slotOf a od) w) → V (a.eval x) w
theorem opd_const (c : Value) : Opd ops a0 w0 R o (.const c) (fun v _ => v = c) := fun _ _ _ _ _ => rfl
theorem opd_func (f : FuncId) : Opd ops a0 w0 R o (.func f) (fun v _ => v = .func (.func f) #[] #[]) := fun _ _ _ _ _ => rfl
def outB (ops : Array Oper) (t : Nat) : Bool := ops.toList.all fun o => o.dst != some t
theorem opd_out (t : Nat) (h : outB ops t = true) (v : Value) (hv : a0.tmps.getD t undef = v) : Opd ops a0 w0 R o (.tmp t) (fun u _ => u = v) := by
  intro a w _ hF _
  show a.tmps.getD t undef = v
  have h1 := hF.out t (fun k o ho he => by
    unfold outB at h
    rw [List.all_eq_true] at h
    have hm : o ∈ ops := Array.mem_of_getElem? ho
    have := h o (by simpa using hm)
    rw [he] at this; simp at this)
  rw [← hv]
  simp [h1]
def inB (ops : Array Oper) (o : Oper) (d t : Nat) : Bool := match ops[d]? with | some od => od.dst == some t && needs ops o od | none => false
theorem opd_in (d t : Nat) (h : inB ops o d t = true) : Opd ops a0 w0 R o (.tmp t) (R d).R := by
  intro a w _ _ hD
  unfold inB at h
  cases ho : ops[d]? with
  | none => rw [ho] at h; cases h
  | some od =>
    rw [ho] at h
    simp only [Bool.and_eq_true, beq_iff_eq] at h
    have := hD d od ho h.2
    unfold slotOf at this
    rw [h.1] at this
    exact this

def meekBody (P : Program) (ops : Array Oper) (a0 : Act) (w0 : World) (R : Nat → Stay) (k : Nat) (o : Oper) : Prop :=
  ∀ (a : Act) (w : World), Later w0 w → Fr a0 ops a → (∀ (d : Nat) (od : Oper), ops[d]? = some od → needs ops o od = true → (R d).R (slotOf a od) w) → meekUpon P w (R k).R ((execOp a.eval o).run P w)
theorem meek_plain (hg : o.guard = none) (h : meekBody P ops a0 w0 R k o) : meekStep P ops a0 w0 R k o := by
  intro a w h1 h2 h3
  rw [if_pos (by simp [Region.wanted, hg])]
  exact h a w h1 h2 h3
def guardB (ops : Array Oper) (n : Nat) (o : Oper) (g : Nat) (want : Bool) : Bool := o.guard == some (g, want) && (match ops[g]? with | some og => needs ops o og && (match og.dst with | some t => decide (t < n) | none => false) | none => false)
theorem wanted_of (g : Nat) (want b : Bool) (n : Nat) (hn : a0.tmps.size = n) (hB : guardB ops n o g want = true) (hR : ∀ v w, (R g).R v w → v = .bool b) {a : Act} {w : World} (hF : Fr a0 ops a)
    (hD : ∀ (d : Nat) (od : Oper), ops[d]? = some od → needs ops o od = true → (R d).R (slotOf a od) w) : Region.wanted o (yielded ops a.tmps) = (b == want) := by
  subst hn
  unfold guardB at hB
  cases ho : ops[g]? with
  | none => rw [ho] at hB; simp at hB
  | some og =>
    rw [ho] at hB
    simp only [Bool.and_eq_true, beq_iff_eq] at hB
    obtain ⟨hg, hn, ht⟩ := hB
    cases hd : og.dst with
    | none => rw [hd] at ht; cases ht
    | some t =>
      rw [hd] at ht
      simp only [decide_eq_true_eq] at ht
      have h1 := hR _ _ (hD g og ho hn)
      unfold slotOf at h1
      rw [hd] at h1
      have ha : t < a.tmps.size := by rw [hF.size]; exact ht
      have h2 : a.tmps[t]? = some (.bool b) := by
        rw [Array.getElem?_eq_getElem ha]
        have h3 : a.tmps.getD t undef = a.tmps[t] := by simp [ha]
        rw [← h3]; exact congrArg some h1
      simp only [Region.wanted, hg, yielded, ho, Option.bind_some, hd, h2]
      cases b <;> cases want <;> rfl
theorem meek_on (g : Nat) (want : Bool) (n : Nat) (hn : a0.tmps.size = n) (hB : guardB ops n o g want = true) (hR : ∀ v w, (R g).R v w → v = .bool want) (h : meekBody P ops a0 w0 R k o) : meekStep P ops a0 w0 R k o := by
  intro a w h1 h2 h3
  rw [if_pos (by rw [wanted_of g want want n hn hB hR h2 h3]; simp)]
  exact h a w h1 h2 h3
theorem meek_off (g : Nat) (want : Bool) (n : Nat) (hn : a0.tmps.size = n) (hB : guardB ops n o g want = true) (hR : ∀ v w, (R g).R v w → v = .bool (!want)) (h : ∀ w, (R k).R undef w) : meekStep P ops a0 w0 R k o := by
  intro a w h1 h2 h3
  rw [if_neg (by rw [wanted_of g want (!want) n hn hB hR h2 h3]; cases want <;> simp)]
  exact h w

theorem body_move (x : Operand) (ho : o.op = .move x) (hx : Opd ops a0 w0 R o x (R k).R) : meekBody P ops a0 w0 R k o := by
  intro a w h1 h2 h3
  have := hx a w h1 h2 h3
  unfold execOp
  simp only [ho, Sem.run_pure]
  exact ⟨Later.refl w, this⟩
theorem body_assign (x : Operand) (ho : o.op = .assign x) (hx : Opd ops a0 w0 R o x (R k).R) : meekBody P ops a0 w0 R k o := by
  intro a w h1 h2 h3
  have := hx a w h1 h2 h3
  unfold execOp
  simp only [ho, Sem.run_pure]
  exact ⟨Later.refl w, this⟩
theorem body_pick (c x y : Operand) (b : Bool) (ho : o.op = .pick c x y) (hc : Opd ops a0 w0 R o c (fun v _ => v = .bool b)) (hx : Opd ops a0 w0 R o (if b then x else y) (R k).R) : meekBody P ops a0 w0 R k o := by
  intro a w h1 h2 h3
  have hb := hc a w h1 h2 h3
  have := hx a w h1 h2 h3
  unfold execOp
  simp only [ho, hb, asBool, Sem.run_bind, Sem.run_pure, Result.andThen_ok]
  refine ⟨Later.refl w, ?_⟩
  cases b <;> exact this
theorem body_load (t : TypeId) (x : Operand) (p v : Value) (ho : o.op = .load t x) (hx : Opd ops a0 w0 R o x (fun v _ => v = p)) (hl : ∀ w, Later w0 w → (Instr.loadAt t p).run P w = .ok v w ∧ (R k).R v w) : meekBody P ops a0 w0 R k o := by
  intro a w h1 h2 h3
  have hp := hx a w h1 h2 h3
  have := hl w h1
  unfold execOp
  simp only [ho, hp, Sem.run_bind, Sem.run_pure, Result.andThen_ok, this.1]
  exact ⟨Later.refl w, this.2⟩
/-- an operation that only computes, of two operands that are known -/
theorem body_two (x y : Operand) (vx vy v : Value) (hx : Opd ops a0 w0 R o x (fun v _ => v = vx)) (hy : Opd ops a0 w0 R o y (fun v _ => v = vy)) (hv : ∀ w, (R k).R v w)
    (h : ∀ (ρ : Operand → Value) (w : World), ρ x = vx → ρ y = vy → (execOp ρ o).run P w = .ok (.value v) w) : meekBody P ops a0 w0 R k o := by
  intro a w h1 h2 h3
  rw [h a.eval w (hx a w h1 h2 h3) (hy a w h1 h2 h3)]
  exact ⟨Later.refl w, hv w⟩
theorem body_one (x : Operand) (vx v : Value) (hx : Opd ops a0 w0 R o x (fun v _ => v = vx)) (hv : ∀ w, (R k).R v w)
    (h : ∀ (ρ : Operand → Value) (w : World), ρ x = vx → (execOp ρ o).run P w = .ok (.value v) w) : meekBody P ops a0 w0 R k o := by
  intro a w h1 h2 h3
  rw [h a.eval w (hx a w h1 h2 h3)]
  exact ⟨Later.refl w, hv w⟩
def isGo (P : Program) (f : FuncId) : Bool := match P.funcs[f]? with | some fn => !(fn.name == "runtime.NumGoroutine") && !fn.body.isNone | none => false
theorem run_callFunc (f : FuncId) (args : Array Value) (w : World) (h : isGo P f = true) : (callFunc f args).run P w = .ok (.enter f args) w := by
  unfold isGo at h
  unfold callFunc
  cases hf : P.funcs[f]? with
  | none => rw [hf] at h; cases h
  | some fn =>
    rw [hf] at h
    simp only [Bool.and_eq_true, Bool.not_eq_true'] at h
    rw [Sem.run_bind, show (program.run P w) = .ok P w from rfl]
    simp only [Result.andThen_ok, hf, h.1, h.2, Bool.false_eq_true, if_false, Sem.run_pure]
def CallsTo (P : Program) (f : FuncId) (args : Array Value) (w : World) (R : Value → World → Prop) : Prop := Calls P f args w (fun e w'' => ∃ v, e = .returned v ∧ Later w w'' ∧ R v w'')
theorem body_call0 (f : FuncId) (ats : Array TypeId) (ho : o.op = .call { callee := .value (.func f), args := #[], argTypes := ats }) (hf : isGo P f = true)
    (h : ∀ w, Later w0 w → CallsTo P f #[] w (R k).R) : meekBody P ops a0 w0 R k o := by
  intro a w h1 h2 h3
  unfold execOp
  simp only [ho, resolve, Deferred.ofValue, Act.eval, invoke, Sem.run_bind, Sem.run_pure, Result.andThen_ok, List.map_toArray, List.map_nil, Array.append_empty, run_callFunc _ _ _ hf]
  exact ⟨Later.refl w, h w h1⟩
theorem body_call1 (f : FuncId) (x : Operand) (ats : Array TypeId) (V : Value → World → Prop) (ho : o.op = .call { callee := .value (.func f), args := #[x], argTypes := ats }) (hf : isGo P f = true) (hx : Opd ops a0 w0 R o x V)
    (h : ∀ v w, Later w0 w → V v w → CallsTo P f #[v] w (R k).R) : meekBody P ops a0 w0 R k o := by
  intro a w h1 h2 h3
  have hv := hx a w h1 h2 h3
  have hc : (execOp a.eval o).run P w = .ok (.enter f #[a.eval x]) w := by
    unfold execOp
    simp only [ho, resolve, Sem.run_bind, List.map_toArray, List.map_cons, List.map_nil]
    rw [show a.eval (.func f) = .func (.func f) #[] #[] from rfl]
    simp only [Deferred.ofValue, invoke, Sem.run_pure, Result.andThen_ok, Array.append_empty, Array.empty_append, run_callFunc _ _ _ hf]
  rw [hc]
  exact ⟨Later.refl w, h _ w h1 hv⟩
theorem body_call2 (f : FuncId) (x y : Operand) (ats : Array TypeId) (V W : Value → World → Prop) (ho : o.op = .call { callee := .value (.func f), args := #[x, y], argTypes := ats }) (hf : isGo P f = true) (hx : Opd ops a0 w0 R o x V) (hy : Opd ops a0 w0 R o y W)
    (h : ∀ v u w, Later w0 w → V v w → W u w → CallsTo P f #[v, u] w (R k).R) : meekBody P ops a0 w0 R k o := by
  intro a w h1 h2 h3
  have hv := hx a w h1 h2 h3
  have hu := hy a w h1 h2 h3
  have hc : (execOp a.eval o).run P w = .ok (.enter f #[a.eval x, a.eval y]) w := by
    unfold execOp
    simp only [ho, resolve, Sem.run_bind, List.map_toArray, List.map_cons, List.map_nil]
    rw [show a.eval (.func f) = .func (.func f) #[] #[] from rfl]
    simp only [Deferred.ofValue, invoke, Sem.run_pure, Result.andThen_ok, Array.append_empty, Array.empty_append, run_callFunc _ _ _ hf]
  rw [hc]
  exact ⟨Later.refl w, h _ _ w h1 hv hu⟩
end
end Go.Proofs.YtiefpodmdpnppaaDoor
